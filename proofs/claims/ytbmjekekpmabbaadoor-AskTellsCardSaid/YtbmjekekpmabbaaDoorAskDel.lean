/- slices.DeleteFunc of a row's empty texts, and a line's words. Conditions: the line is not too long. -/
import Derived.Test.YtbmjekekpmabbaaDoorAskSplit
import Derived.Lib.SliceRun
set_option linter.unusedVariables false
set_option linter.unusedSimpArgs false
namespace Go.Proofs.YtbmjekekpmabbaaDoor.P
open Go.RowKit Go.Proofs.YtbmjekekpmabbaaDoorW.PrintWords Go.Proofs.YtbmjekekpmabbaaDoorW.PrintLast Go.Proofs.YtbmjekekpmabbaaDoorW.PrintMore

theorem empty_calls (s : ByteArray) (w : World) : Calls Tryd.prog 41 #[.string s] w fun e w' => e = .returned (.bool (!full s)) ∧ w' = w := by
  go_enter Tryd.func41, Tryd.ntmps41
  go_wp2
  go_ret
  refine ⟨?_, rfl⟩
  unfold full
  cases s.toList <;> rfl
/-- The first place of an empty text. -/
def firstE : List ByteArray → Nat
  | [] => 0
  | x :: xs => if full x = true then firstE xs + 1 else 0
theorem firstE_le : ∀ xs, firstE xs ≤ xs.length
  | [] => Nat.le_refl _
  | x :: xs => by
    unfold firstE
    split
    · have := firstE_le xs; simp; omega
    · simp
theorem firstE_all : ∀ xs, firstE xs = xs.length → xs.filter full = xs
  | [], _ => rfl
  | x :: xs, h => by
    unfold firstE at h
    split at h
    · rename_i hx
      rw [List.filter_cons_of_pos hx, firstE_all xs (by simpa using h)]
    · simp at h
theorem firstE_take : ∀ xs, firstE xs < xs.length → (xs.take (firstE xs + 1)).filter full = xs.take (firstE xs)
  | [], h => by simp [firstE] at h
  | x :: xs, h => by
    unfold firstE at h ⊢
    split
    · rename_i hx
      rw [if_pos hx] at h
      rw [List.take_succ_cons, List.filter_cons_of_pos hx, firstE_take xs (by simpa using h), List.take_succ_cons]
    · rename_i hx
      simp [hx]
theorem firstE_lt : ∀ (xs : List ByteArray) (k : Nat), k < firstE xs → full (xs.getD k ⟨#[]⟩) = true
  | [], k, h => by simp [firstE] at h
  | x :: xs, k, h => by
    unfold firstE at h
    split at h
    · rename_i hx
      cases k with
      | zero => simpa using hx
      | succ k => simpa using firstE_lt xs k (by omega)
    · omega
theorem firstE_at : ∀ (xs : List ByteArray), firstE xs < xs.length → full (xs.getD (firstE xs) ⟨#[]⟩) = false
  | [], h => by simp [firstE] at h
  | x :: xs, h => by
    unfold firstE at h ⊢
    split
    · rename_i hx
      rw [if_pos hx] at h
      simpa using firstE_at xs (by simpa using h)
    · rename_i hx
      simpa using hx
theorem firstE_eq {xs : List ByteArray} {k : Nat} (hk : k < xs.length) (h1 : ∀ j, j < k → full (xs.getD j ⟨#[]⟩) = true) (h2 : full (xs.getD k ⟨#[]⟩) = false) : firstE xs = k := by
  rcases Nat.lt_trichotomy (firstE xs) k with h | h | h
  · have a := h1 _ h
    rw [firstE_at xs (by omega)] at a
    cases a
  · exact h
  · have a := firstE_lt xs k h
    rw [h2] at a
    cases a
theorem firstE_end {xs : List ByteArray} (h1 : ∀ j, j < xs.length → full (xs.getD j ⟨#[]⟩) = true) : firstE xs = xs.length := by
  rcases Nat.lt_or_ge (firstE xs) xs.length with h | h
  · have a := h1 _ h
    rw [firstE_at xs h] at a
    cases a
  · exact Nat.le_antisymm (firstE_le xs) h
set_option maxRecDepth 100000 in
set_option maxHeartbeats 4000000 in
theorem indexFunc_calls (g n c : Nat) (xs : List ByteArray) (w : World) (hn : n ≤ 10000000) (hr : ReadsOf Value.string ⟨#[]⟩ w (some ⟨g, 0, none⟩) n xs) (q : Int) (hq : (if firstE xs < n then (firstE xs : Int) else -1) = q) :
    Calls Tryd.prog 52 #[.slice (some ⟨g, 0, none⟩) n c, .func (.func 41) #[] #[]] w fun e w' => e = .returned (.int .i64 q) ∧ w' = w := by
  have HQ := Aside0.mk hq
  clear hq
  have HR := Aside0.mk hr
  have HN := Aside0.mk hn
  have HL := Aside0.mk hr.1
  have EC := Aside0.mk empty_calls
  clear hr hn
  go_enter Tryd.func52, Tryd.ntmps52
  go_wp2_with fail
  go_loopw [8] (fun s8 wr => ∃ k : Nat, s8 = .int .i64 k ∧ k ≤ n ∧ Aside0 (∀ j, j < k → full (xs.getD j ⟨#[]⟩) = true) ∧ wr = w) (fun s8 _ => n - (intOf s8).toNat)
  case atStart => exact ⟨0, rfl, Nat.zero_le _, ⟨fun j hj => absurd hj (Nat.not_lt_zero _)⟩, rfl⟩
  case round =>
    obtain ⟨k, rfl, hk, HA, rfl⟩ := hrel
    by_cases hlt : k < n
    · have c1 : decide ((k : Int) < (n : Int)) = true := decide_eq_true (by omega)
      obtain ⟨ad, he, hcell⟩ := HR.out.at_ (k : Int) (by omega) (by omega)
      injection he with he
      subst he
      rw [Int.toNat_natCast, add_plain] at hcell
      have v6 : ((k : Int) < (n : Int)) = True := eq_true (by omega)
      have v8 : (0 ≤ (k : Int)) = True := eq_true (by omega)
      have v9 : IntKind.i64.wrap ((k : Int) + 1) = ((k + 1 : Nat) : Int) := by rw [IntWalk.i64_in _ (by have := HN.out; omega)]; omega
      obtain ⟨b, hb⟩ : ∃ b, full (rdOf ⟨#[]⟩ xs (k : Int)) = b := ⟨_, rfl⟩
      have E1 := Aside0.mk (EC.out (rdOf ⟨#[]⟩ xs (k : Int)) wr)
      rw [hb] at E1
      have HBB := Aside0.mk hb
      clear hb
      cases b with
      | true =>
        go_wp2_with (go_at_call 41; refine E1.out.mono ?_; rintro e wr ⟨rfl, rfl⟩)
        refine ⟨⟨k + 1, by go_num, by omega, ⟨fun j hj => ?_⟩, trivial⟩, ?_⟩
        · rcases Nat.lt_or_ge j k with h | h
          · exact HA.out j h
          · obtain rfl : j = k := by omega
            have := HBB.out
            unfold rdOf at this
            rwa [Int.toNat_natCast] at this
        · simp [intOf]
          omega
      | false =>
        go_wp2_with (go_at_call 41; refine E1.out.mono ?_; rintro e wr ⟨rfl, rfl⟩)
        go_ret
        have h2 := HBB.out
        unfold rdOf at h2
        rw [Int.toNat_natCast] at h2
        have := firstE_eq (xs := xs) (by rw [HL.out]; exact hlt) HA.out h2
        have hq := HQ.out
        rw [this, if_pos hlt] at hq
        exact ⟨congrArg (fun z => Ending.returned (.int .i64 z)) hq, rfl⟩
    · obtain rfl : k = n := by omega
      have c1 : decide ((k : Int) < (k : Int)) = false := decide_eq_false (by omega)
      have hE := firstE_end (xs := xs) (by rw [HL.out]; exact HA.out)
      rw [HL.out] at hE
      have HE := Aside0.mk hE
      clear hE
      go_wp2_with fail
      go_ret
      have hq := HQ.out
      rw [HE.out, if_neg (Nat.lt_irrefl _)] at hq
      exact ⟨congrArg (fun z => Ending.returned (.int .i64 z)) hq, rfl⟩
def setL : List ByteArray → Nat → List ByteArray → List ByteArray
  | xs, _, [] => xs
  | xs, o, v :: r => setL (xs.set o v) (o + 1) r
theorem setL_len : ∀ (vs xs : List ByteArray) (o : Nat), (setL xs o vs).length = xs.length
  | [], _, _ => rfl
  | v :: r, xs, o => by rw [setL, setL_len r]; simp
theorem setL_take : ∀ (vs xs : List ByteArray) (o m : Nat), m ≤ o → (setL xs o vs).take m = xs.take m
  | [], _, _, _, _ => rfl
  | v :: r, xs, o, m, h => by rw [setL, setL_take r _ _ _ (by omega), List.take_set_of_le h]
theorem own_setCells {base g n cap : Nat} {e : TypeId} : ∀ (vs xs : List ByteArray) (o : Nat) (W : World), W.ownsRow base e 1 (.slice (some ⟨g, 0, none⟩) n cap) n (encs Value.string xs) → (W.setCells g o (vs.map Value.string)).ownsRow base e 1 (.slice (some ⟨g, 0, none⟩) n cap) n (encs Value.string (setL xs o vs))
  | [], _, _, _, h => h
  | v :: r, xs, o, W, h => by
    have h1 := (own_store_of h (o : Int) v).1
    rw [Int.toNat_natCast] at h1
    exact own_setCells r _ (o + 1) _ h1
theorem below_setCells {w : World} {g : Nat} (hg : w.heap.size ≤ g) : ∀ (vs : List Value) (o : Nat) (W : World), Below w.heap.size w W → Below w.heap.size w (W.setCells g o vs)
  | [], _, _, h => h
  | v :: r, o, W, h => below_setCells hg r (o + 1) _ (below_set h hg)
theorem strZ (w : World) : (zeroValue 9).run Tryd.prog w = .ok (.string ⟨#[]⟩) w := by kernel_rfl
/-- Where the loop stands: i texts kept of the first j. -/
def KeptAt (xs cur : List ByteArray) (i j : Nat) : Prop := cur.length = xs.length ∧ cur.take i = (xs.take j).filter full ∧ ((xs.take j).filter full).length = i ∧ cur.drop j = xs.drop j ∧ i < j ∧ j ≤ xs.length
theorem kept_skip {xs cur : List ByteArray} {i j : Nat} (h : KeptAt xs cur i j) (hj : j < xs.length) (hf : full (xs.getD j ⟨#[]⟩) = false) : KeptAt xs cur i (j + 1) := by
  obtain ⟨h1, h2, h3, h4, h5, h6⟩ := h
  have e : (xs.take (j + 1)).filter full = (xs.take j).filter full := by
    rw [List.take_add_one, List.getElem?_eq_getElem hj, List.filter_append]
    rw [List.getD_eq_getElem?_getD, List.getElem?_eq_getElem hj] at hf
    simp at hf
    simp [hf]
  refine ⟨h1, by rw [e]; exact h2, by rw [e]; exact h3, ?_, by omega, by omega⟩
  have := congrArg (List.drop 1) h4
  rwa [List.drop_drop, List.drop_drop] at this
theorem kept_put {xs cur : List ByteArray} {i j : Nat} (h : KeptAt xs cur i j) (hj : j < xs.length) (hf : full (xs.getD j ⟨#[]⟩) = true) : KeptAt xs (cur.set i (xs.getD j ⟨#[]⟩)) (i + 1) (j + 1) := by
  obtain ⟨h1, h2, h3, h4, h5, h6⟩ := h
  have e : (xs.take (j + 1)).filter full = (xs.take j).filter full ++ [xs.getD j ⟨#[]⟩] := by
    rw [List.take_add_one, List.getElem?_eq_getElem hj, List.filter_append]
    rw [List.getD_eq_getElem?_getD, List.getElem?_eq_getElem hj] at hf ⊢
    simp at hf
    simp [hf]
  refine ⟨by rw [List.length_set]; exact h1, ?_, by rw [e, List.length_append, h3]; rfl, ?_, by omega, by omega⟩
  · rw [e, ← h2, List.take_add_one, List.take_set_of_le (Nat.le_refl _), List.getElem?_set_self (by omega)]
    rfl
  · rw [List.drop_set_of_lt (by omega)]
    have := congrArg (List.drop 1) h4
    rwa [List.drop_drop, List.drop_drop] at this
theorem kept_get {xs cur : List ByteArray} {i j : Nat} (h : KeptAt xs cur i j) (hj : j < xs.length) : cur.getD j ⟨#[]⟩ = xs.getD j ⟨#[]⟩ := by
  obtain ⟨h1, h2, h3, h4, h5, h6⟩ := h
  have := congrArg (fun l => l[0]?) h4
  simp only [List.getElem?_drop, Nat.add_zero] at this
  rw [List.getD_eq_getElem?_getD, List.getD_eq_getElem?_getD, this]
set_option maxRecDepth 100000 in
set_option maxHeartbeats 4000000 in
theorem deleteFunc_calls (g n : Nat) (xs : List ByteArray) (w0 w : World) (hB : Below w0.heap.size w0 w) (ho : w.ownsRow w0.heap.size 9 1 (.slice (some ⟨g, 0, none⟩) n n) n (encs Value.string xs)) (hn : n ≤ 10000000) (hl : xs.length = n) :
    Calls Tryd.prog 39 #[.slice (some ⟨g, 0, none⟩) n n, .func (.func 41) #[] #[]] w fun e w' => ∃ m, e = .returned (.slice (some ⟨g, 0, none⟩) m n) ∧ m = (xs.filter full).length ∧ ReadsOf Value.string ⟨#[]⟩ w' (some ⟨g, 0, none⟩) m (xs.filter full) ∧ Below w0.heap.size w0 w' := by
  have hg : w0.heap.size ≤ g := own_base ho g rfl
  obtain ⟨A, c, hv, hrd⟩ := own_reads_of (d := (⟨#[]⟩ : ByteArray)) ho
  injection hv with hv1 _ hv2
  subst hv1
  have IF := Aside0.mk (indexFunc_calls g n n xs w hn hrd _ rfl)
  have HRD := Aside0.mk hrd
  have HB := Aside0.mk hB
  have HO := Aside0.mk ho
  have HG := Aside0.mk hg
  have HN := Aside0.mk hn
  have HL := Aside0.mk hl
  have EC := Aside0.mk empty_calls
  clear hrd hB ho hg hv2
  have hle := firstE_le xs
  rw [hl] at hle
  by_cases hlt : firstE xs < n
  · rw [if_pos hlt] at IF
    have hK0 : KeptAt xs xs (firstE xs) (firstE xs + 1) := ⟨rfl, (firstE_take xs (by omega)).symm, by rw [firstE_take xs (by omega), List.length_take]; omega, rfl, by omega, by omega⟩
    have HK0 := Aside0.mk hK0
    obtain ⟨f, hf⟩ : ∃ f, firstE xs = f := ⟨_, rfl⟩
    rw [hf] at IF HK0 hlt hle
    have v1 : IntKind.i64.wrap ((f : Int) + 1) = ((f + 1 : Nat) : Int) := by rw [IntWalk.i64_in _ (by omega)]; omega
    have c0 : ((f : Int) == -1) = false := beq_eq_false_iff_ne.2 (by omega)
    clear hf hK0 hl hn
    go_enter Tryd.func39, Tryd.ntmps39
    go_wp2_with (go_at_call 52; refine IF.out.mono ?_; rintro e w ⟨rfl, rfl⟩)
    clear v1 c0 IF
    go_loopw [5, 6] (fun s5 s6 wr => ∃ (i j : Nat) (cur : List ByteArray), s5 = .int .i64 i ∧ s6 = .int .i64 j ∧ Aside0 (KeptAt xs cur i j) ∧ Aside0 (wr.ownsRow w0.heap.size 9 1 (.slice (some ⟨g, 0, none⟩) n n) n (encs Value.string cur)) ∧ Aside0 (Below w0.heap.size w0 wr)) (fun _ s6 _ => n - (intOf s6).toNat)
    case atStart => exact ⟨f, f + 1, xs, rfl, by go_num, HK0, HO, HB⟩
    case round =>
      clear HO HB HRD
      obtain ⟨i, j, cur, rfl, rfl, HK, HO, HB⟩ := hrel
      have hij := HK.out.2.2.2.2.1
      have hjn := HK.out.2.2.2.2.2
      rw [HL.out] at hjn
      by_cases hjl : j < n
      · have c1 : decide ((j : Int) < (n : Int)) = true := decide_eq_true (by omega)
        have v6 : ((j : Int) < (n : Int)) = True := eq_true (by omega)
        have v8 : (0 ≤ (j : Int)) = True := eq_true (by omega)
        have v9 : IntKind.i64.wrap ((j : Int) + 1) = ((j + 1 : Nat) : Int) := by rw [IntWalk.i64_in _ (by have := HN.out; omega)]; omega
        obtain ⟨b, hb⟩ : ∃ b, full (rdOf ⟨#[]⟩ cur (j : Int)) = b := ⟨_, rfl⟩
        obtain ⟨hcell, hfro⟩ := own_at_of (d := (⟨#[]⟩ : ByteArray)) HO.out (j : Int) (by omega) (by omega)
        have hgt := kept_get HK.out (by rw [HL.out]; exact hjl)
        have hrdj : rdOf ⟨#[]⟩ cur (j : Int) = xs.getD j ⟨#[]⟩ := by unfold rdOf; rw [Int.toNat_natCast]; exact hgt
        rw [hrdj] at hb
        rw [hrdj, Int.toNat_natCast] at hcell
        obtain ⟨v, hv⟩ : ∃ v, xs.getD j ⟨#[]⟩ = v := ⟨_, rfl⟩
        rw [hv] at hcell hb
        have E1 := Aside0.mk (EC.out v)
        rw [hb] at E1
        have HV := Aside0.mk hv
        have HBB := Aside0.mk hb
        clear hb hv hrdj hgt hfro
        cases b with
        | false =>
          go_wp2_with (go_at_call 41; refine (E1.out _).mono ?_; rintro e wr ⟨rfl, rfl⟩)
          refine ⟨⟨i, j + 1, cur, rfl, by go_num, ⟨kept_skip HK.out (by rw [HL.out]; exact hjl) (by rw [HV.out]; exact HBB.out)⟩, HO, HB⟩, ?_⟩
          simp [intOf]
          omega
        | true =>
          have w6 : ((i : Int) < (n : Int)) = True := eq_true (by omega)
          have w8 : (0 ≤ (i : Int)) = True := eq_true (by omega)
          have w9 : IntKind.i64.wrap ((i : Int) + 1) = ((i + 1 : Nat) : Int) := by rw [IntWalk.i64_in _ (by have := HN.out; omega)]; omega
          obtain ⟨hcell2, hfro2⟩ := own_at_of (d := (⟨#[]⟩ : ByteArray)) HO.out (i : Int) (by omega) (by omega)
          rw [Int.toNat_natCast] at hcell2 hfro2
          have hst := own_store_of HO.out (i : Int) v
          rw [Int.toNat_natCast] at hst
          have HST := Aside0.mk hst
          clear hst
          go_wp2_with (go_at_call 41; refine (E1.out _).mono ?_; rintro e wr ⟨rfl, rfl⟩)
          refine ⟨⟨i + 1, j + 1, cur.set i v, by go_num, by go_num, ⟨by have := kept_put HK.out (by rw [HL.out]; exact hjl) (by rw [HV.out]; exact HBB.out); rwa [HV.out] at this⟩, ⟨HST.out.1⟩, ⟨below_set HB.out HG.out⟩⟩, ?_⟩
          simp [intOf]
          omega
      · obtain rfl : j = n := by omega
        have c1 : decide ((j : Int) < (j : Int)) = false := decide_eq_false (by omega)
        have w6 : ((i : Int) ≤ (j : Int)) = True := eq_true (by omega)
        have w8 : (0 ≤ (i : Int)) = True := eq_true (by omega)
        have w7 : (i ≤ j) = True := eq_true (by omega)
        have w5 : (j = i) = False := eq_false (by omega)
        have hclr : ∀ c' ty, (Builtin.clear_ #[34] ty #[.slice (some ⟨g, i, none⟩) (j - i) c']).run Tryd.prog wr = .ok (.tuple #[]) (wr.setCells g i (List.replicate (j - i) (Value.string ⟨#[]⟩))) := fun c' ty =>
          Lib.run_clear_slice wr 34 9 ty (.string ⟨#[]⟩) Tryd.underlying34 strZ rfl rfl g i (j - i) c' (by omega)
            (fun t ht => by
              have h := (own_at_of (d := (⟨#[]⟩ : ByteArray)) HO.out ((i + t : Nat) : Int) (by omega) (by omega)).1
              rw [Int.toNat_natCast] at h
              rw [h]
              rfl)
            (fun t ht => by
              have h := (own_at_of (d := (⟨#[]⟩ : ByteArray)) HO.out ((i + t : Nat) : Int) (by omega) (by omega)).2
              rwa [Int.toNat_natCast] at h)
        go_wp2_with fail
        go_ret
        obtain ⟨k1, k2, k3, k4, k5, k6⟩ := HK.out
        have e0 : xs.take j = xs := List.take_of_length_le (by rw [HL.out]; exact Nat.le_refl _)
        rw [e0] at k2 k3
        have h := own_setCells (List.replicate (j - i) ⟨#[]⟩) cur i wr HO.out
        rw [List.map_replicate] at h
        obtain ⟨A, c, hv, hrd⟩ := own_reads_of (d := (⟨#[]⟩ : ByteArray)) h
        injection hv with hv1 _ _
        subst hv1
        have hrd2 := hrd.take_ i (by omega)
        rw [setL_take _ _ _ _ (Nat.le_refl _), k2] at hrd2
        exact ⟨i, rfl, k3.symm, hrd2, below_setCells HG.out _ _ _ HB.out⟩
  · have hfe : firstE xs = xs.length := by omega
    have HF := Aside0.mk (firstE_all xs hfe)
    rw [if_neg hlt] at IF
    clear hlt hle hfe hl hn
    go_enter Tryd.func39, Tryd.ntmps39
    go_wp2_with (go_at_call 52; refine IF.out.mono ?_; rintro e w ⟨rfl, rfl⟩)
    go_ret
    refine ⟨n, rfl, by rw [HF.out, HL.out], by rw [HF.out]; exact HRD.out, HB.out⟩
theorem words_calls (s : ByteArray) (w : World) (hs : s.size ≤ 1000000) :
    Calls Tryd.prog 28 #[.string s] w fun e w' => ∃ (g c : Nat), e = .returned (.slice (some ⟨g, 0, none⟩) (wordsOf s).length c) ∧ (wordsOf s).length ≤ c ∧ ReadsOf Value.string ⟨#[]⟩ w' (some ⟨g, 0, none⟩) (wordsOf s).length (wordsOf s) ∧ Below w.heap.size w w' := by
  have SC := Aside0.mk (split_calls s w hs)
  have hlen : (splitB s).length ≤ 10000000 := by rw [splitB_len]; have := count_size s; omega
  have HL := Aside0.mk hlen
  clear hlen hs
  go_enter Tryd.func28, Tryd.ntmps28
  go_wp2_with (go_at_call 40; refine SC.out.mono ?_; rintro e w1 ⟨g, rfl, ho, hb⟩)
  have DC := Aside0.mk (deleteFunc_calls g (splitB s).length (splitB s) w w1 hb ho HL.out rfl)
  clear ho hb
  go_wp2_with (go_at_call 39; refine DC.out.mono ?_; rintro e w2 ⟨m, rfl, hm, hr, hb⟩)
  have HR := Aside0.mk hr
  have HB := Aside0.mk hb
  have HM := Aside0.mk hm
  clear hr hb hm
  go_wp2_with fail
  go_ret
  have e : m = (wordsOf s).length := HM.out
  subst e
  exact ⟨g, _, rfl, by unfold wordsOf; exact List.length_filter_le _ _, HR.out, HB.out⟩
end Go.Proofs.YtbmjekekpmabbaaDoor.P
