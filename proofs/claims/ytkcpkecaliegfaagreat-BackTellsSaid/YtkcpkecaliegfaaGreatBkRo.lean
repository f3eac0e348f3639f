/- Lists of one kind (Rows): their marks, what is alike, what is copied: plain laws and contracts. Conditions: lengths are small. -/
import Derived.Test.YtkcpkecaliegfaaGreatBkC
import Derived.Test.YtkcpkecaliegfaaGreatPd
section
set_option linter.unusedVariables false
set_option linter.unusedSimpArgs false
namespace Go.Proofs.YtkcpkecaliegfaaGreat.P
open Go.RowKit Go.Proofs.YtkcpkecaliegfaaGreatW.PrintWords Go.Proofs.YtkcpkecaliegfaaGreatW.PrintLast Go.Proofs.YtkcpkecaliegfaaGreatW.PrintMore

theorem flatRows : Flat k75 (fun x => [Value.int .i64 x.f0] ++ [Value.int .i64 x.f1]) := Flat.iso (Flat.pair (Flat.scalar _ _) (Flat.scalar _ _)) _
theorem infoRows1 : ((Tryz.prog).info? 75).map (fun i => (i.zero, i.size, i.bytes)) = some (some (.agg #[.int .i64 0, .int .i64 0]), 2, 16) := by kernel_rfl
theorem infoRows : ∃ i z, (Tryz.prog).info? 75 = some i ∧ i.zero = some z ∧ i.size = (k75).sz ∧ i.bytes = 16 ∧ z.cells.size = (k75).sz := by
  have h : ((Tryz.prog).info? 75).map (fun i => (i.zero, i.size, i.bytes)) = some (some (.agg #[.int .i64 0, .int .i64 0]), 2, 16) := by kernel_rfl
  obtain ⟨i, hi, he⟩ := Option.map_eq_some_iff.1 h
  simp only [Prod.mk.injEq] at he
  exact ⟨i, .agg #[.int .i64 0, .int .i64 0], hi, he.1, he.2.1, he.2.2, rfl⟩
theorem infoRowsL : ((Tryz.prog).info? 32).map (fun i => (i.zero, i.size, i.bytes)) = some (some (.slice none 0 0), 1, 24) := by kernel_rfl
theorem lneRows : (32 : TypeId) ≠ 75 := by decide
theorem sameRows_l (l : List S75) (hl : l.length ≤ 1000000) : ∀ (m j k : Nat), m = l.length - j → j ≤ l.length → m + 1 ≤ k → scriniumbook_SameRows.l0 k l l (j : Int) = some true := by
  intro m
  induction m with
  | zero =>
    intro j k hm hj hk
    obtain rfl : j = l.length := by omega
    obtain ⟨k1, rfl⟩ : ∃ k1, k = k1 + 1 := ⟨k - 1, by omega⟩
    rw [scriniumbook_SameRows.l0, if_neg (by omega)]
  | succ m ih =>
    intro j k hm hj hk
    obtain ⟨k1, rfl⟩ : ∃ k1, k = k1 + 1 := ⟨k - 1, by omega⟩
    have hrec := ih (j + 1) k1 (by omega) (by omega) (by omega)
    have hw : wrap64 ((j : Int) + 1) = ((j + 1 : Nat) : Int) := bw64 (j + 1) (by omega)
    rw [scriniumbook_SameRows.l0, if_pos (by omega), if_pos (by omega), if_pos (by omega), hw, if_pos (by simp)]
    exact hrec
theorem sameRows_ok (l : List S75) (hl : l.length ≤ 1000000) (k : Nat) (hk : l.length + 1 ≤ k) : scriniumbook_SameRows.f k l l = some true := by
  unfold scriniumbook_SameRows.f
  rw [if_pos rfl]
  exact sameRows_l l hl l.length 0 _ rfl (Nat.zero_le _) hk
theorem sameRows_calls (a a' : Option Addr) (k k' : Nat) (xs : List S75) (w : World) (hC : Kd.C k75 w a xs.length xs) (hC' : Kd.C k75 w a' xs.length xs) (hk : xs.length ≤ k) (hk' : xs.length ≤ k') (hs : xs.length ≤ 1000000) :
    Calls Tryz.prog 15 #[.slice a xs.length k, .slice a' xs.length k'] w fun e w' => e = .returned (.bool true) ∧ Below w.heap.size w w' :=
  (scriniumbook_SameRows.calls (xs.length + 1) a k xs a' k' xs true w hC hk hC' hk' (sameRows_ok xs hs _ (Nat.le_refl _))).mono fun _ _ h => ⟨h.1, h.2.below⟩
theorem copyRows_ok (l : List S75) (h : l.length ≤ 900000) : scriniumbook_copyRows.f l = some l := by
  unfold scriniumbook_copyRows.f
  rw [if_pos (by rw [List.length_nil]; omega), List.nil_append]
theorem copyRows_calls (a : Option Addr) (k : Nat) (xs : List S75) (w : World) (hC : Kd.C k75 w a xs.length xs) (hk : xs.length ≤ k) (h : xs.length ≤ 900000) :
    Calls Tryz.prog 40 #[.slice a xs.length k] w fun e w' => ∃ v, e = .returned v ∧ Kd.R k75 75 w' w.heap.size (fun _ => True) v xs ∧ Below w.heap.size w w' :=
  scriniumbook_copyRows.calls a k xs xs w hC hk (copyRows_ok xs h)
/-- The mark at k of list i. -/
def mkRows (i : Int) (k : Nat) : S75 := (⟨0, wrap64 ((wrap64 ((wrap64 ((-1000) * i)) - (k : Int))) - 1)⟩ : S75)
theorem markRows_l (i : Int) (a n : Nat) (hn : a + n ≤ 1000000) : ∀ (m j k : Nat), m = n - j → j ≤ n → m + 1 ≤ k → scriniumbook_markRows.l0 k i (a : Int) (n : Int) (marksOf mkRows i a j) ((a + j : Nat) : Int) = some (marksOf mkRows i a n) := by
  have hw : wrap64 ((a : Int) + (n : Int)) = ((a + n : Nat) : Int) := bw64 (a + n) (by omega)
  intro m
  induction m with
  | zero =>
    intro j k hm hj hk
    obtain rfl : j = n := by omega
    obtain ⟨k1, rfl⟩ : ∃ k1, k = k1 + 1 := ⟨k - 1, by omega⟩
    rw [scriniumbook_markRows.l0, hw, if_neg (by omega)]
  | succ m ih =>
    intro j k hm hj hk
    obtain ⟨k1, rfl⟩ : ∃ k1, k = k1 + 1 := ⟨k - 1, by omega⟩
    have hrec := ih (j + 1) k1 (by omega) (by omega) (by omega)
    have hw2 : wrap64 (((a + j : Nat) : Int) + 1) = ((a + (j + 1) : Nat) : Int) := bw64 (a + j + 1) (by omega)
    rw [scriniumbook_markRows.l0, hw, if_pos (by omega), if_pos (by rw [marks_len]; omega), hw2]
    rw [marks_succ] at hrec
    exact hrec
theorem markRows_ok (i : Int) (a n k : Nat) (hn : a + n ≤ 1000000) (hk : n + 1 ≤ k) : scriniumbook_markRows.f k i (a : Int) (n : Int) = some (marksOf mkRows i a n) := markRows_l i a n hn n 0 k rfl (Nat.zero_le _) hk
theorem markRows_calls (i a n : Nat) (w : World) (hi : i ≤ 1000) (h : a + n ≤ 1000000) : Calls Tryz.prog 92 #[.int .i64 (i : Int), .int .i64 (a : Int), .int .i64 (n : Int)] w fun e w' => ∃ v, e = .returned v ∧ Kd.R k75 75 w' w.heap.size (fun _ => True) v (marksOf mkRows (i : Int) a n) ∧ Below w.heap.size w w' :=
  scriniumbook_markRows.calls (n + 1) (i : Int) (a : Int) (n : Int) (marksOf mkRows (i : Int) a n) w (markRows_ok _ _ _ _ h (Nat.le_refl _))
theorem markedRows_l (xss : List (List S75)) (hl : xss.length ≤ 1000) (hx : ∀ i, (h : i < xss.length) → xss[i] = marksOf mkRows (i : Int) 0 xss[i].length ∧ xss[i].length ≤ 1000000) : ∀ (m j k : Nat), m = xss.length - j → j ≤ xss.length → m + 1000002 ≤ k → scriniumbook_markedRows.l0 k xss (j : Int) = some true := by
  intro m
  induction m with
  | zero =>
    intro j k hm hj hk
    obtain rfl : j = xss.length := by omega
    obtain ⟨k1, rfl⟩ : ∃ k1, k = k1 + 1 := ⟨k - 1, by omega⟩
    rw [scriniumbook_markedRows.l0, if_neg (by omega)]
  | succ m ih =>
    intro j k hm hj hk
    obtain ⟨k1, rfl⟩ : ∃ k1, k = k1 + 1 := ⟨k - 1, by omega⟩
    have hrec := ih (j + 1) k1 (by omega) (by omega) (by omega)
    have hjl : j < xss.length := by omega
    obtain ⟨h1, h2⟩ := hx j hjl
    have hw : wrap64 ((j : Int) + 1) = ((j + 1 : Nat) : Int) := bw64 (j + 1) (by omega)
    have hM : scriniumbook_markRows.f k1 (j : Int) 0 (xss[j].length : Int) = some (marksOf mkRows (j : Int) 0 xss[j].length) := markRows_ok (j : Int) 0 xss[j].length k1 (by omega) (by omega)
    rw [scriniumbook_markedRows.l0, if_pos (by omega), if_pos (by omega), show (rd_L6 xss (j : Int)) = xss[j] from lists_get xss j hjl, hM, Option.bind_some, ← h1, sameRows_ok _ h2 _ (by omega), Option.bind_some, if_pos rfl, hw]
    exact hrec
theorem markedRows_calls (base : Nat) (A : Option Addr) (n c : Nat) (us : List Value) (ms : Nat → Nat) (w : World) (h : Kd.R (Kd.raw 1) 32 w base (fun _ => True) (.slice A n c) (us.map fun v => [v])) (hr : ∀ i, (h : i < us.length) → Kd.R k75 75 w base (fun _ => True) us[i] (marksOf mkRows (i : Int) 0 (ms i)))
    (hl : us.length ≤ 1000) (hm : ∀ i, ms i ≤ 1000000) :
    Calls Tryz.prog 68 #[.slice A n c] w fun e w' => e = .returned (.bool true) ∧ Below w.heap.size w w' := by
  obtain ⟨hn, hc, hL⟩ := lists_of_raw h
  subst hn
  have hC := C_of_lists (d := k75) 75 (fun i : Nat => marksOf mkRows (i : Int) 0 (ms i)) hL (fun i hi => readsD_of_R (hr i hi)) hl
  obtain ⟨xs, hxs⟩ : ∃ q, (List.range us.length).map (fun i : Nat => marksOf mkRows (i : Int) 0 (ms i)) = q := ⟨_, rfl⟩
  have hlen : xs.length = us.length := by rw [← hxs, List.length_map, List.length_range]
  have hmk : ∀ i, (h : i < xs.length) → xs[i] = marksOf mkRows (i : Int) 0 xs[i].length ∧ xs[i].length ≤ 1000000 := by
    intro i hi
    subst hxs
    rw [List.length_map, List.length_range] at hi
    rw [List.getElem_map, List.getElem_range, marks_len]
    exact ⟨rfl, hm i⟩
  rw [hxs] at hC
  have hf : scriniumbook_markedRows.f 1001003 xs = some true := markedRows_l xs (by omega) hmk xs.length 0 _ rfl (Nat.zero_le _) (by omega)
  have h1 := scriniumbook_markedRows.calls 1001003 A c xs true w (by rw [hlen]; exact hC) (by rw [hlen]; exact hc) hf
  rw [hlen] at h1
  exact h1
end Go.Proofs.YtkcpkecaliegfaaGreat.P

end
section
set_option linter.unusedVariables false
set_option linter.unusedSimpArgs false
namespace Go.Proofs.YtkcpkecaliegfaaGreat.P
open Go.RowKit Go.Proofs.YtkcpkecaliegfaaGreatW.PrintWords Go.Proofs.YtkcpkecaliegfaaGreatW.PrintLast Go.Proofs.YtkcpkecaliegfaaGreatW.PrintMore

def stillRows.T4 : Bool × List (List Nat × List Nat) := (true, [([], []), ([0], [0]), ([1], [1]), ([2], [2]), ([], []), ([3, 4], [3, 4]), ([5], [5]), ([], []), ([7], [7]), ([8], [8]), ([9], [9]), ([], []), ([10, 11], [10, 11]), ([12], [12]), ([6, 13], [6, 13]), ([14], [14])])
def stillRows.B4 : List Nat := [0, 1, 3, 7, 0, 31, 63, 0, 128, 384, 896, 0, 3968, 8064, 16383, 32767]
theorem stillRows.tab4 : rtab .any (opsOf Tryz.f44 4) = stillRows.T4 := by kernel_rfl
theorem stillRows.bits4 : waitsOk stillRows.T4.2 stillRows.B4 = true := by kernel_rfl
def putRows.T7 : Bool × List (List Nat × List Nat) := (true, [([], []), ([0], [0]), ([1], [1]), ([2], [2]), ([], []), ([3, 4], [3, 4]), ([5], [5]), ([], []), ([], []), ([], []), ([8, 9], [8, 9]), ([10], [10]), ([6, 7, 0, 1, 2, 3, 4, 5, 6, 7, 8, 9, 10, 11], [6, 7]), ([12, 11, 0, 1, 2, 3, 4, 5, 6, 7, 8, 9, 10, 11], [11, 12])])
def putRows.B7 : List Nat := [0, 1, 3, 7, 0, 31, 63, 0, 0, 0, 768, 1792, 4095, 8191]
theorem putRows.tab7 : rtab .any (opsOf Tryz.f53 7) = putRows.T7 := by kernel_rfl
theorem putRows.bits7 : waitsOk putRows.T7.2 putRows.B7 = true := by kernel_rfl
set_option maxRecDepth 100000 in
set_option maxHeartbeats 4000000 in
theorem stillRows_calls (bk : Nat) (A A' : Option Addr) (c c' : Nat) (us us' : List Value) (xss : List (List S75)) (w : World) (h0 : w.cell? ⟨bk, 4, none⟩ = some (.slice A us.length c)) (h1 : w.cell? ⟨bk, 5, none⟩ = some (.slice A' us.length c')) (hl : us.length ≤ 1000)
    (hA : Lists w A us) (hA' : Lists w A' us') (hn : us'.length = us.length) (hx : xss.length = us.length) (hr : ∀ i, (h : i < us.length) → ReadsD k75 w us[i] (xss.getD i [])) (hr' : ∀ i, (h : i < us'.length) → ReadsD k75 w us'[i] (xss.getD i [])) (hs : ∀ i, (xss.getD i []).length ≤ 1000000) :
    Calls Tryz.prog 44 #[.pointer (some ⟨bk, 0, none⟩)] w fun e w' => e = .returned (.bool true) ∧ Below w.heap.size w w' := by
  have H0 := Aside0.mk h0
  have H1 := Aside0.mk h1
  have HA := Aside0.mk hA
  have HA' := Aside0.mk hA'
  have HR := Aside0.mk hr
  have HR' := Aside0.mk hr'
  have HS := Aside0.mk hs
  have HL := Aside0.mk hl
  have HN := Aside0.mk hn
  obtain ⟨n, hnn⟩ : ∃ n, us.length = n := ⟨_, rfl⟩
  have HNN := Aside0.mk hnn
  rw [hnn] at H0 H1
  clear h0 h1 hA hA' hr hr' hs hl hn hx hnn
  go_enter Tryz.func44, Tryz.ntmps44
  go_wp2_with fail
  go_loopw [3] (fun iv wr => ∃ i : Nat, i ≤ n ∧ iv = .int .i64 i ∧ Aside0 (Below w.heap.size w wr)) (fun iv _ => n - (intOf iv).toNat)
  case atStart => exact ⟨0, Nat.zero_le _, rfl, ⟨Below.refl _ _⟩⟩
  case round =>
    obtain ⟨i, hi, rfl, HB⟩ := hrel
    have g0 := pw_cell_below HB.out H0.out
    by_cases hlt : i < n
    · have c1 : decide ((i : Int) < (n : Int)) = true := decide_eq_true (by omega)
      have c2 : decide (i < n) = true := decide_eq_true hlt
      have v1 : (0 ≤ (i : Int)) = True := eq_true (by omega)
      have v2 : ((i : Int) < (n : Int)) = True := eq_true (by omega)
      have v3 : IntKind.i64.wrap ((i : Int) + 1) = (i : Int) + 1 := IntWalk.i64_in _ (by have := HL.out; have := HNN.out; omega)
      have g1 := pw_cell_below HB.out H1.out
      obtain ⟨ad, hAe, x0⟩ := (HA.out.below HB.out).at_ i (by rw [HNN.out]; exact hlt)
      obtain ⟨ad', hAe', x1⟩ := (HA'.out.below HB.out).at_ i (by rw [HN.out, HNN.out]; exact hlt)
      obtain ⟨a, k, hu, hk, hC⟩ := (HR.out i (by rw [HNN.out]; exact hlt)).below HB.out
      obtain ⟨a', k', hu', hk', hC'⟩ := (HR'.out i (by rw [HN.out, HNN.out]; exact hlt)).below HB.out
      rw [hu] at x0
      rw [hu'] at x1
      have hsm := HS.out i
      obtain ⟨xs, hxs⟩ : ∃ q, xss.getD i [] = q := ⟨_, rfl⟩
      rw [hxs] at x0 x1 hk hk' hC hC' hsm
      have SM := Aside0.mk (fun w' (hb : Below wr.heap.size wr w') => sameRows_calls a a' k k' xs w' (Kd.C_below hC hb) (Kd.C_below hC' hb) hk hk' hsm)
      subst hAe hAe'
      clear hu hu' hC hC' hk hk' hxs hsm
      go_wp2_with fail
      refine start_ (n := 16) (S := fun w' => Below wr.heap.size wr w') (ds := []) #[false, false, false, false, false, false, false, false, false, false, false, false, false, false, false, false] (by kernel_rfl) rfl rfl (below_drew1 (Below.refl _ _)) (fun hHeld => ?_)
      refine with_tabW stillRows.tab4 stillRows.bits4 (fun HT_ HW_ => ?_)
      refine take_ (i := 0) (N := some 13) (v := ?_) (a' := ?_) #[true, false, false, false, false, false, false, false, false, false, false, false, false, false, false, false] rfl rfl (take_ofW HT_.out HW_.out (by kernel_rfl)) (fun _ _ _ h => h) (Or.inl ⟨by rfl, ?_⟩) hHeld ?_ ?_
      rotate_left
      · intro w' s
        go_simp
        with_reducible rfl
      rotate_left
      · simp only [Act.put, List.setIfInBounds_toArray, List.set_cons_zero, List.set_cons_succ, i64_w, i32_w]
        rfl
      refine take_ (i := 1) (N := some 14) (v := ?_) (a' := ?_) #[true, true, false, false, false, false, false, false, false, false, false, false, false, false, false, false] rfl rfl (take_ofW HT_.out HW_.out (by kernel_rfl)) (fun _ _ _ h => h) (Or.inl ⟨by rfl, ?_⟩) hHeld ?_ ?_
      rotate_left
      · intro w' s
        go_simp
        with_reducible rfl
      rotate_left
      · simp only [Act.put, List.setIfInBounds_toArray, List.set_cons_zero, List.set_cons_succ, i64_w, i32_w]
        rfl
      refine take_ (i := 2) (N := some 15) (v := ?_) (a' := ?_) #[true, true, true, false, false, false, false, false, false, false, false, false, false, false, false, false] rfl rfl (take_ofW HT_.out HW_.out (by kernel_rfl)) (fun _ _ _ h => h) (Or.inl ⟨by rfl, ?_⟩) hHeld ?_ ?_
      rotate_left
      · intro w' s
        go_simp
        with_reducible rfl
      rotate_left
      · simp only [Act.put, List.setIfInBounds_toArray, List.set_cons_zero, List.set_cons_succ, i64_w, i32_w]
        rfl
      refine take_ (i := 3) (N := some 16) (v := ?_) (a' := ?_) #[true, true, true, true, false, false, false, false, false, false, false, false, false, false, false, false] rfl rfl (take_ofW HT_.out HW_.out (by kernel_rfl)) (fun _ _ _ h => h) (Or.inl ⟨by rfl, ?_⟩) hHeld ?_ ?_
      rotate_left
      · intro w' s
        have s0 := pw_cell_below s g0
        have s1 := pw_cell_below s g1
        have s2 := pw_cell_below s x0
        have s3 := pw_cell_below s x1
        go_simp
        with_reducible rfl
      rotate_left
      · simp only [Act.put, List.setIfInBounds_toArray, List.set_cons_zero, List.set_cons_succ, i64_w, i32_w]
        rfl
      refine take_ (i := 4) (N := some 17) (v := ?_) (a' := ?_) #[true, true, true, true, true, false, false, false, false, false, false, false, false, false, false, false] rfl rfl (take_ofW HT_.out HW_.out (by kernel_rfl)) (fun _ _ _ h => h) (Or.inl ⟨by rfl, ?_⟩) hHeld ?_ ?_
      rotate_left
      · intro w' s
        go_simp
        with_reducible rfl
      rotate_left
      · simp only [Act.put, List.setIfInBounds_toArray, List.set_cons_zero, List.set_cons_succ, i64_w, i32_w]
        rfl
      refine take_ (i := 5) (N := some 18) (v := ?_) (a' := ?_) #[true, true, true, true, true, true, false, false, false, false, false, false, false, false, false, false] rfl rfl (take_ofW HT_.out HW_.out (by kernel_rfl)) (fun _ _ _ h => h) (Or.inl ⟨by rfl, ?_⟩) hHeld ?_ ?_
      rotate_left
      · intro w' s
        go_simp
        with_reducible rfl
      rotate_left
      · simp only [Act.put, List.setIfInBounds_toArray, List.set_cons_zero, List.set_cons_succ, i64_w, i32_w]
        rfl
      refine take_ (i := 6) (N := some 19) (v := ?_) (a' := ?_) #[true, true, true, true, true, true, true, false, false, false, false, false, false, false, false, false] rfl rfl (take_ofW HT_.out HW_.out (by kernel_rfl)) (fun _ _ _ h => h) (Or.inl ⟨by rfl, ?_⟩) hHeld ?_ ?_
      rotate_left
      · intro w' s
        have s0 := pw_cell_below s g0
        have s1 := pw_cell_below s g1
        have s2 := pw_cell_below s x0
        have s3 := pw_cell_below s x1
        go_simp
        with_reducible rfl
      rotate_left
      · simp only [Act.put, List.setIfInBounds_toArray, List.set_cons_zero, List.set_cons_succ, i64_w, i32_w]
        rfl
      refine take_ (i := 7) (N := some 20) (v := ?_) (a' := ?_) #[true, true, true, true, true, true, true, true, false, false, false, false, false, false, false, false] rfl rfl (take_ofW HT_.out HW_.out (by kernel_rfl)) (fun _ _ _ h => h) (Or.inl ⟨by rfl, ?_⟩) hHeld ?_ ?_
      rotate_left
      · intro w' s
        go_simp
        with_reducible rfl
      rotate_left
      · simp only [Act.put, List.setIfInBounds_toArray, List.set_cons_zero, List.set_cons_succ, i64_w, i32_w]
        rfl
      refine take_ (i := 8) (N := some 21) (v := ?_) (a' := ?_) #[true, true, true, true, true, true, true, true, true, false, false, false, false, false, false, false] rfl rfl (take_ofW HT_.out HW_.out (by kernel_rfl)) (fun _ _ _ h => h) (Or.inl ⟨by rfl, ?_⟩) hHeld ?_ ?_
      rotate_left
      · intro w' s
        go_simp
        with_reducible rfl
      rotate_left
      · simp only [Act.put, List.setIfInBounds_toArray, List.set_cons_zero, List.set_cons_succ, i64_w, i32_w]
        rfl
      refine take_ (i := 9) (N := some 22) (v := ?_) (a' := ?_) #[true, true, true, true, true, true, true, true, true, true, false, false, false, false, false, false] rfl rfl (take_ofW HT_.out HW_.out (by kernel_rfl)) (fun _ _ _ h => h) (Or.inl ⟨by rfl, ?_⟩) hHeld ?_ ?_
      rotate_left
      · intro w' s
        go_simp
        with_reducible rfl
      rotate_left
      · simp only [Act.put, List.setIfInBounds_toArray, List.set_cons_zero, List.set_cons_succ, i64_w, i32_w]
        rfl
      refine take_ (i := 10) (N := some 23) (v := ?_) (a' := ?_) #[true, true, true, true, true, true, true, true, true, true, true, false, false, false, false, false] rfl rfl (take_ofW HT_.out HW_.out (by kernel_rfl)) (fun _ _ _ h => h) (Or.inl ⟨by rfl, ?_⟩) hHeld ?_ ?_
      rotate_left
      · intro w' s
        have s0 := pw_cell_below s g0
        have s1 := pw_cell_below s g1
        have s2 := pw_cell_below s x0
        have s3 := pw_cell_below s x1
        go_simp
        with_reducible rfl
      rotate_left
      · simp only [Act.put, List.setIfInBounds_toArray, List.set_cons_zero, List.set_cons_succ, i64_w, i32_w]
        rfl
      refine take_ (i := 11) (N := some 24) (v := ?_) (a' := ?_) #[true, true, true, true, true, true, true, true, true, true, true, true, false, false, false, false] rfl rfl (take_ofW HT_.out HW_.out (by kernel_rfl)) (fun _ _ _ h => h) (Or.inl ⟨by rfl, ?_⟩) hHeld ?_ ?_
      rotate_left
      · intro w' s
        go_simp
        with_reducible rfl
      rotate_left
      · simp only [Act.put, List.setIfInBounds_toArray, List.set_cons_zero, List.set_cons_succ, i64_w, i32_w]
        rfl
      refine take_ (i := 12) (N := some 25) (v := ?_) (a' := ?_) #[true, true, true, true, true, true, true, true, true, true, true, true, true, false, false, false] rfl rfl (take_ofW HT_.out HW_.out (by kernel_rfl)) (fun _ _ _ h => h) (Or.inl ⟨by rfl, ?_⟩) hHeld ?_ ?_
      rotate_left
      · intro w' s
        go_simp
        with_reducible rfl
      rotate_left
      · simp only [Act.put, List.setIfInBounds_toArray, List.set_cons_zero, List.set_cons_succ, i64_w, i32_w]
        rfl
      refine take_ (i := 13) (N := some 26) (v := ?_) (a' := ?_) #[true, true, true, true, true, true, true, true, true, true, true, true, true, true, false, false] rfl rfl (take_ofW HT_.out HW_.out (by kernel_rfl)) (fun _ _ _ h => h) (Or.inl ⟨by rfl, ?_⟩) hHeld ?_ ?_
      rotate_left
      · intro w' s
        have s0 := pw_cell_below s g0
        have s1 := pw_cell_below s g1
        have s2 := pw_cell_below s x0
        have s3 := pw_cell_below s x1
        go_simp
        with_reducible rfl
      rotate_left
      · simp only [Act.put, List.setIfInBounds_toArray, List.set_cons_zero, List.set_cons_succ, i64_w, i32_w]
        rfl
      refine one_ (i := 14) (N := some 27) #[true, true, true, true, true, true, true, true, true, true, true, true, true, true, true, false] rfl rfl (one_of HT_.out (by kernel_rfl)) (by decide) (fun K hK => ?_)
      refine goes_ Tryz.func15 (by kernel_rfl) rfl #[.slice a xs.length k, .slice a' xs.length k'] (by rfl) rfl rfl (by (try simp only [List.map_toArray, List.map_cons, List.map_nil]); first | done | rfl | (simp only [List.length_drop, List.length_take]; rfl)) ?_
      refine (SM.out _ hHeld).mono ?_
      rintro en w8 ⟨rfl, hb⟩
      refine ⟨_, rfl, ?_⟩
      have hS8 := below_step hHeld hb
      refine hK.out _ _ hS8 (fun hHeld => ?_)
      clear hK K
      refine norm_ (a' := ?_) ?_ ?_
      rotate_left
      · show Act.put _ (some 27) _ = _
        simp only [Act.put, List.setIfInBounds_toArray, List.set_cons_zero, List.set_cons_succ, i64_w, i32_w]
        rfl
      refine take_ (i := 15) (N := some 28) (v := ?_) (a' := ?_) #[true, true, true, true, true, true, true, true, true, true, true, true, true, true, true, true] rfl rfl (take_ofW HT_.out HW_.out (by kernel_rfl)) (fun _ _ _ h => h) (Or.inl ⟨by rfl, ?_⟩) hHeld ?_ ?_
      rotate_left
      · intro w' s
        go_simp
        with_reducible rfl
      rotate_left
      · simp only [Act.put, List.setIfInBounds_toArray, List.set_cons_zero, List.set_cons_succ, i64_w, i32_w]
        rfl
      refine done_ (done_of HT_.out (by kernel_rfl)) ?_
      have HBn := Aside0.mk (below_step HB.out hHeld)
      clear hHeld g0 g1 x0 x1
      go_wp2_with fail
      go_roundw
      case rel => exact ⟨i + 1, by omega, by go_num, HBn⟩
      case measure => simp [intOf]; omega
    · obtain rfl : i = n := by omega
      have c1 : decide ((i : Int) < (i : Int)) = false := decide_eq_false (by omega)
      go_wp2_with fail
      go_ret
      exact ⟨rfl, HB.out⟩
set_option maxRecDepth 100000 in
set_option maxHeartbeats 4000000 in
theorem putRows_calls (bk : Nat) (A : Option Addr) (c : Nat) (us : List Value) (xss : List (List S75)) (base : Nat) (w : World) (h0 : w.cell? ⟨bk, 4, none⟩ = some (.slice A us.length c)) (hl : us.length ≤ 1000)
    (hA : Lists w A us) (hR : ∀ i, (h : i < us.length) → Kd.R k75 75 w base (fun _ => True) us[i] (xss.getD i [])) (hsep : ∀ i j, (hi : i < us.length) → (hj : j < us.length) → i ≠ j → ∀ k, us[i].ownBlock = some k → us[j].ownBlock ≠ some k)
    (hbk : ∀ i, (h : i < us.length) → us[i].ownBlock ≠ some bk) (hrow : ∀ i, (h : i < us.length) → ∀ ad, A = some ad → us[i].ownBlock ≠ some ad.block) (hs : ∀ i, (xss.getD i []).length ≤ 1000000) :
    Calls Tryz.prog 53 #[.pointer (some ⟨bk, 0, none⟩)] w fun e w' => e = .returned (.tuple #[]) ∧ PutKeep us w w' ∧
      ∀ i, (h : i < us.length) → Kd.R k75 75 w' base (fun _ => True) us[i] (marksOf mkRows (i : Int) 0 (xss.getD i []).length) := by
  have H0 := Aside0.mk h0
  have HA := Aside0.mk hA
  have HR := Aside0.mk hR
  have HSEP := Aside0.mk hsep
  have HBK := Aside0.mk hbk
  have HROW := Aside0.mk hrow
  have HS := Aside0.mk hs
  have HL := Aside0.mk hl
  obtain ⟨n, hnn⟩ : ∃ n, us.length = n := ⟨_, rfl⟩
  have HNN := Aside0.mk hnn
  rw [hnn] at H0
  clear h0 hA hR hsep hbk hrow hs hl hnn
  go_enter Tryz.func53, Tryz.ntmps53
  go_wp2_with fail
  go_loopw [2] (fun iv wr => ∃ i : Nat, i ≤ n ∧ iv = .int .i64 i ∧ Aside0 (PutKeep us w wr) ∧ Aside0 (∀ j, (h : j < us.length) → Kd.R k75 75 wr base (fun _ => True) us[j] (if j < i then marksOf mkRows (j : Int) 0 (xss.getD j []).length else xss.getD j []))) (fun iv _ => n - (intOf iv).toNat)
  case atStart => exact ⟨0, Nat.zero_le _, rfl, ⟨PutKeep.refl _ _⟩, ⟨fun j h => by rw [if_neg (by omega)]; exact HR.out j h⟩⟩
  case round =>
    obtain ⟨i, hi, rfl, HP, HRr⟩ := hrel
    have g0 := HP.out.cell (a := ⟨bk, 4, none⟩) HBK.out H0.out
    by_cases hlt : i < n
    · have hiu : i < us.length := by rw [HNN.out]; exact hlt
      have c1 : decide ((i : Int) < (n : Int)) = true := decide_eq_true (by omega)
      have c2 : decide (i < n) = true := decide_eq_true hlt
      have v1 : (0 ≤ (i : Int)) = True := eq_true (by omega)
      have v2 : ((i : Int) < (n : Int)) = True := eq_true (by omega)
      have v3 : IntKind.i64.wrap ((i : Int) + 1) = (i : Int) + 1 := IntWalk.i64_in _ (by have := HL.out; have := HNN.out; omega)
      obtain ⟨ad, hAe, x0⟩ := HA.out.at_ i hiu
      have hra : ∀ j, (h : j < us.length) → us[j].ownBlock ≠ some (ad.add i).block := by
        intro j h
        have : (ad.add i).block = ad.block := by unfold Addr.add; split <;> rfl
        rw [this]
        exact HROW.out j h ad hAe
      have HRA := Aside0.mk hra
      have HX0 := Aside0.mk x0
      have x0 := HP.out.cell (a := ad.add i) hra x0
      have hRi := HRr.out i hiu
      rw [if_neg (by omega)] at hRi
      obtain ⟨xs, hxs⟩ : ∃ q, xss.getD i [] = q := ⟨_, rfl⟩
      have hsm := HS.out i
      have HXS := Aside0.mk hxs
      rw [hxs] at hRi hsm
      obtain ⟨Ai, ci, hui⟩ := Kd.R_slice hRi
      have HUI := Aside0.mk hui
      rw [hui] at x0 hRi
      have HRi := Aside0.mk hRi
      obtain ⟨m, hm⟩ : ∃ m, xs.length = m := ⟨_, rfl⟩
      have HM := Aside0.mk hm
      rw [hm] at x0 hsm
      have MK := Aside0.mk (markRows_calls i 0 m wr (by have := HL.out; have := HNN.out; omega) (by omega))
      have HSM := Aside0.mk hsm
      subst hAe
      clear hra hxs hui hRi hm hsm
      go_wp2_with fail
      refine MK.out.mono ?_
      rintro en w1 ⟨v3, rfl, hR3, hb1⟩
      obtain ⟨A3, c3, rfl⟩ := Kd.R_slice hR3
      rw [marks_len] at hR3
      have HR3 := Aside0.mk hR3
      have HB1 := Aside0.mk hb1
      rw [marks_len]
      clear hR3 hb1 MK g0 x0
      go_wp2_with fail
      have HU1 : Aside0 (Kd.R k75 75 w1 base (fun _ => True) (.slice Ai m ci) (marksOf mkRows (i : Int) 0 0 ++ xs.drop 0)) := ⟨by rw [show marksOf mkRows (i : Int) 0 0 ++ xs.drop 0 = xs from rfl]; have h := HRi.out; rw [HM.out] at h; exact Kd.R_below h HB1.out⟩
      have HG1 : Aside0 (w1.grownBy w1 (Value.slice Ai m ci).ownBlock) := ⟨World.grownBy.refl _ _⟩
      have hown : (Value.slice Ai m ci).ownBlock = us[i].ownBlock := by rw [HUI.out, HM.out]
      have HOWN := Aside0.mk hown
      have HP1 := Aside0.mk (HP.out.below HB1.out)
      clear hown
      go_loopw [4] (fun iv wr => ∃ k : Nat, k ≤ m ∧ iv = .int .i64 k ∧ Aside0 (w1.grownBy wr (Value.slice Ai m ci).ownBlock) ∧ Aside0 (Kd.R k75 75 wr base (fun _ => True) (.slice Ai m ci) (marksOf mkRows (i : Int) 0 k ++ xs.drop k))) (fun iv _ => m - (intOf iv).toNat)
      case atStart => exact ⟨0, Nat.zero_le _, rfl, HG1, HU1⟩
      case round =>
        obtain ⟨k, hk, rfl, HG, HRk⟩ := hrel
        have HPk := Aside0.mk (HP1.out.grown i hiu (by rw [← HOWN.out]; exact HG.out))
        by_cases hkm : k < m
        · have d1 : decide ((k : Int) < (m : Int)) = true := decide_eq_true (by omega)
          have d2 : decide (k < m) = true := decide_eq_true hkm
          have d3 : (0 ≤ (k : Int)) = True := eq_true (by omega)
          have d4 : ((k : Int) < (m : Int)) = True := eq_true (by omega)
          have d5 : IntKind.i64.wrap ((k : Int) + 1) = (k : Int) + 1 := IntWalk.i64_in _ (by have := HSM.out; omega)
          have g0 := HPk.out.cell (a := ⟨bk, 4, none⟩) HBK.out H0.out
          have x0 := HPk.out.cell (a := ad.add i) HRA.out HX0.out
          rw [HUI.out, HM.out] at x0
          obtain ⟨L, hL⟩ : ∃ L, marksOf mkRows (i : Int) 0 k ++ xs.drop k = L := ⟨_, rfl⟩
          have hlen : L.length = m := by rw [← hL, List.length_append, marks_len, List.length_drop, HM.out]; omega
          have hset : L.set k (mkRows (i : Int) k) = marksOf mkRows (i : Int) 0 (k + 1) ++ xs.drop (k + 1) := by rw [← hL]; exact marks_set _ _ _ _ (by rw [HM.out]; exact hkm)
          have hRk := HRk.out
          rw [hL, ← hlen] at hRk
          obtain ⟨g, cg, hform, _⟩ := Kd.R_form hRk (by omega)
          have hAi : Ai = some ⟨g, 0, none⟩ := by injection hform
          clear hform cg
          rw [hAi] at hRk
          have hR3 := Kd.R_grown2 HR3.out rfl HG.out (fun q hq he => by
            have h1 := Kd.R_base HR3.out q he.symm
            have h2 := Kd.R_lt HRi.out q (by rw [HM.out]; exact hq)
            omega)
          obtain ⟨ad3, hA3, y0, y1⟩ := at_T75 (Kd.R_reads' hR3).2.2 (k : Int) (by omega) (by rw [marks_len]; omega)
          rw [show rd_T75 (marksOf mkRows (i : Int) 0 m) (k : Int) = mkRows (i : Int) k from marks_rd _ _ _ _ _ hkm, Int.toNat_natCast] at y0 y1
          have HRK := Aside0.mk hRk
          have HSET := Aside0.mk hset
          have HLEN := Aside0.mk hlen
          have HAI := Aside0.mk hAi
          rw [hAi] at x0
          clear hL hset hlen hRk hR3 hAi
          subst hA3
          go_wp2_with fail
          refine start_ (n := 14) (S := fun w' => Below wr.heap.size wr w') (ds := [13]) #[false, false, false, false, false, false, false, false, false, false, false, false, false, false] (by kernel_rfl) rfl rfl (below_drew1 (Below.refl _ _)) (fun hHeld => ?_)
          refine with_tabW putRows.tab7 putRows.bits7 (fun HT_ HW_ => ?_)
          refine take_ (i := 0) (N := some 30) (v := ?_) (a' := ?_) #[true, false, false, false, false, false, false, false, false, false, false, false, false, false] rfl rfl (take_ofW HT_.out HW_.out (by kernel_rfl)) (fun _ _ _ h => h) (Or.inl ⟨by rfl, ?_⟩) hHeld ?_ ?_
          rotate_left
          · intro w' s
            go_simp
            with_reducible rfl
          rotate_left
          · simp only [Act.put, List.setIfInBounds_toArray, List.set_cons_zero, List.set_cons_succ, i64_w, i32_w]
            rfl
          refine take_ (i := 1) (N := some 31) (v := ?_) (a' := ?_) #[true, true, false, false, false, false, false, false, false, false, false, false, false, false] rfl rfl (take_ofW HT_.out HW_.out (by kernel_rfl)) (fun _ _ _ h => h) (Or.inl ⟨by rfl, ?_⟩) hHeld ?_ ?_
          rotate_left
          · intro w' s
            go_simp
            with_reducible rfl
          rotate_left
          · simp only [Act.put, List.setIfInBounds_toArray, List.set_cons_zero, List.set_cons_succ, i64_w, i32_w]
            rfl
          refine take_ (i := 2) (N := some 32) (v := ?_) (a' := ?_) #[true, true, true, false, false, false, false, false, false, false, false, false, false, false] rfl rfl (take_ofW HT_.out HW_.out (by kernel_rfl)) (fun _ _ _ h => h) (Or.inl ⟨by rfl, ?_⟩) hHeld ?_ ?_
          rotate_left
          · intro w' s
            go_simp
            with_reducible rfl
          rotate_left
          · simp only [Act.put, List.setIfInBounds_toArray, List.set_cons_zero, List.set_cons_succ, i64_w, i32_w]
            rfl
          refine take_ (i := 3) (N := some 33) (v := ?_) (a' := ?_) #[true, true, true, true, false, false, false, false, false, false, false, false, false, false] rfl rfl (take_ofW HT_.out HW_.out (by kernel_rfl)) (fun _ _ _ h => h) (Or.inl ⟨by rfl, ?_⟩) hHeld ?_ ?_
          rotate_left
          · intro w' s
            have s0 := pw_cell_below s g0
            have s1 := pw_cell_below s x0
            have s2 := pw_cell_below s y0
            have s3 := pw_cell_below s y1
            go_simp
            with_reducible rfl
          rotate_left
          · simp only [Act.put, List.setIfInBounds_toArray, List.set_cons_zero, List.set_cons_succ, i64_w, i32_w]
            rfl
          refine take_ (i := 4) (N := some 34) (v := ?_) (a' := ?_) #[true, true, true, true, true, false, false, false, false, false, false, false, false, false] rfl rfl (take_ofW HT_.out HW_.out (by kernel_rfl)) (fun _ _ _ h => h) (Or.inl ⟨by rfl, ?_⟩) hHeld ?_ ?_
          rotate_left
          · intro w' s
            go_simp
            with_reducible rfl
          rotate_left
          · simp only [Act.put, List.setIfInBounds_toArray, List.set_cons_zero, List.set_cons_succ, i64_w, i32_w]
            rfl
          refine take_ (i := 5) (N := some 35) (v := ?_) (a' := ?_) #[true, true, true, true, true, true, false, false, false, false, false, false, false, false] rfl rfl (take_ofW HT_.out HW_.out (by kernel_rfl)) (fun _ _ _ h => h) (Or.inl ⟨by rfl, ?_⟩) hHeld ?_ ?_
          rotate_left
          · intro w' s
            go_simp
            with_reducible rfl
          rotate_left
          · simp only [Act.put, List.setIfInBounds_toArray, List.set_cons_zero, List.set_cons_succ, i64_w, i32_w]
            rfl
          refine take_ (i := 6) (N := some 36) (v := ?_) (a' := ?_) #[true, true, true, true, true, true, true, false, false, false, false, false, false, false] rfl rfl (take_ofW HT_.out HW_.out (by kernel_rfl)) (fun _ _ _ h => h) (Or.inl ⟨by rfl, ?_⟩) hHeld ?_ ?_
          rotate_left
          · intro w' s
            have s0 := pw_cell_below s g0
            have s1 := pw_cell_below s x0
            have s2 := pw_cell_below s y0
            have s3 := pw_cell_below s y1
            go_simp
            with_reducible rfl
          rotate_left
          · simp only [Act.put, List.setIfInBounds_toArray, List.set_cons_zero, List.set_cons_succ, i64_w, i32_w]
            rfl
          refine take_ (i := 7) (N := some 37) (v := ?_) (a' := ?_) #[true, true, true, true, true, true, true, true, false, false, false, false, false, false] rfl rfl (take_ofW HT_.out HW_.out (by kernel_rfl)) (fun _ _ _ h => h) (Or.inl ⟨by rfl, ?_⟩) hHeld ?_ ?_
          rotate_left
          · intro w' s
            go_simp
            with_reducible rfl
          rotate_left
          · simp only [Act.put, List.setIfInBounds_toArray, List.set_cons_zero, List.set_cons_succ, i64_w, i32_w]
            rfl
          refine take_ (i := 8) (N := some 38) (v := ?_) (a' := ?_) #[true, true, true, true, true, true, true, true, true, false, false, false, false, false] rfl rfl (take_ofW HT_.out HW_.out (by kernel_rfl)) (fun _ _ _ h => h) (Or.inl ⟨by rfl, ?_⟩) hHeld ?_ ?_
          rotate_left
          · intro w' s
            go_simp
            with_reducible rfl
          rotate_left
          · simp only [Act.put, List.setIfInBounds_toArray, List.set_cons_zero, List.set_cons_succ, i64_w, i32_w]
            rfl
          refine take_ (i := 9) (N := some 39) (v := ?_) (a' := ?_) #[true, true, true, true, true, true, true, true, true, true, false, false, false, false] rfl rfl (take_ofW HT_.out HW_.out (by kernel_rfl)) (fun _ _ _ h => h) (Or.inl ⟨by rfl, ?_⟩) hHeld ?_ ?_
          rotate_left
          · intro w' s
            go_simp
            with_reducible rfl
          rotate_left
          · simp only [Act.put, List.setIfInBounds_toArray, List.set_cons_zero, List.set_cons_succ, i64_w, i32_w]
            rfl
          refine take_ (i := 10) (N := some 40) (v := ?_) (a' := ?_) #[true, true, true, true, true, true, true, true, true, true, true, false, false, false] rfl rfl (take_ofW HT_.out HW_.out (by kernel_rfl)) (fun _ _ _ h => h) (Or.inl ⟨by rfl, ?_⟩) hHeld ?_ ?_
          rotate_left
          · intro w' s
            go_simp
            with_reducible rfl
          rotate_left
          · simp only [Act.put, List.setIfInBounds_toArray, List.set_cons_zero, List.set_cons_succ, i64_w, i32_w]
            rfl
          refine take_ (i := 11) (N := some 41) (v := ?_) (a' := ?_) #[true, true, true, true, true, true, true, true, true, true, true, true, false, false] rfl rfl (take_ofW HT_.out HW_.out (by kernel_rfl)) (fun _ _ _ h => h) (Or.inl ⟨by rfl, ?_⟩) hHeld ?_ ?_
          rotate_left
          · intro w' s
            have s0 := pw_cell_below s g0
            have s1 := pw_cell_below s x0
            have s2 := pw_cell_below s y0
            have s3 := pw_cell_below s y1
            go_simp
            with_reducible rfl
          rotate_left
          · simp only [Act.put, List.setIfInBounds_toArray, List.set_cons_zero, List.set_cons_succ, i64_w, i32_w]
            rfl
          refine take_ (i := 12) (N := some 42) (v := ?_) (a' := ?_) #[true, true, true, true, true, true, true, true, true, true, true, true, true, false] rfl rfl (take_ofW HT_.out HW_.out (by kernel_rfl)) (fun _ _ _ h => h) (Or.inl ⟨by rfl, ?_⟩) hHeld ?_ ?_
          rotate_left
          · intro w' s
            go_simp
            with_reducible rfl
          rotate_left
          · simp only [Act.put, List.setIfInBounds_toArray, List.set_cons_zero, List.set_cons_succ, i64_w, i32_w]
            rfl
          refine last_ (i := 13) (N := none) #[true, true, true, true, true, true, true, true, true, true, true, true, true, true] rfl rfl (one_of HT_.out (by kernel_rfl)) (by decide) (fun K hK => ?_)
          have hRd := Kd.R_below HRK.out hHeld
          obtain ⟨cl, hcl, hcM, hcc, hfr⟩ := Kd.R_elem hRd z75 (k : Int) (by omega) (by have := HLEN.out; omega)
          obtain rfl := k75_openM hcM
          have hput := Kd.R_seg hRd (k : Int) (by omega) (by have := HLEN.out; omega) (seg := [.int .i64 (mkRows (i : Int) k).f0, .int .i64 (mkRows (i : Int) k).f1]) (j := 0) hcl hcc (show 2 ≤ 2 from by decide) (x' := mkRows (i : Int) k) (k75_mkM _ _ _ (mkRows (i : Int) k)) (fun _ hk => hk)
          have z0 := hcc 0 _ rfl
          have z1 := hcc 1 _ rfl
          have z2 := hfr 0
          have z3 := hfr 1
          rw [Int.toNat_natCast, show (k75).sz = 2 from rfl] at z0 z1 z2 z3 hput
          rw [Nat.add_zero] at z0 z2 hput
          simp only [World.setCells] at hput
          have z1d : wr.cell? ⟨g, k * 2 + 1, none⟩ = _ := z1
          have z3d : wr.frozen? ⟨g, k * 2 + 1, none⟩ = false := z3
          have HBd := Aside0.mk hHeld
          clear hcl hcM hcc hfr
          obtain ⟨w2, hw2⟩ : ∃ x, World.setCell (World.setCell wr.drew ⟨g, k * 2, none⟩ (.int .i64 (mkRows (i : Int) k).f0)) ⟨g, k * 2 + 1, none⟩ (.int .i64 (mkRows (i : Int) k).f1) = x := ⟨_, rfl⟩
          refine skip_ (w1 := World.setCell (World.setCell wr.drew ⟨g, k * 2, none⟩ (.int .i64 (mkRows (i : Int) k).f0)) ⟨g, k * 2 + 1, none⟩ (.int .i64 (mkRows (i : Int) k).f1)) (by rfl) rfl (by first | (go_simp; done) | (go_simp; rfl)) (hK.out _ _ ?_)
          rw [hw2] at hput ⊢
          have HR2 := Aside0.mk hput.1
          have HP2 := Aside0.mk hput.2
          clear hRd hput z0 z1 z2 z3 z1d z3d hw2 hHeld g0 x0 y0 y1
          clear hK K
          refine done_ (done_of HT_.out (by kernel_rfl)) ?_
          have HGn : Aside0 (w1.grownBy w2 (Value.slice Ai m ci).ownBlock) := ⟨by rw [HAI.out]; rw [HAI.out] at HG; exact World.grownBy.trans HG.out (World.grownBy.trans (grown_of_below HBd.out _) HP2.out)⟩
          have HRn : Aside0 (Kd.R k75 75 w2 base (fun _ => True) (.slice Ai m ci) (marksOf mkRows (i : Int) 0 (k + 1) ++ xs.drop (k + 1))) := ⟨by rw [HAI.out, ← HLEN.out, ← HSET.out]; exact HR2.out⟩
          go_wp2_with fail
          go_roundw
          case rel => exact ⟨k + 1, by omega, by go_num, HGn, HRn⟩
          case measure => simp [intOf]; omega
        · obtain rfl : k = m := by omega
          have d1 : decide ((k : Int) < (k : Int)) = false := decide_eq_false (by omega)
          have hfin : marksOf mkRows (i : Int) 0 k ++ xs.drop k = marksOf mkRows (i : Int) 0 k := by rw [List.drop_eq_nil_of_le (by rw [HM.out]; exact Nat.le_refl _), List.append_nil]
          have hRn : ∀ j, (h : j < us.length) → Kd.R k75 75 wr base (fun _ => True) us[j] (if j < i + 1 then marksOf mkRows (j : Int) 0 (xss.getD j []).length else xss.getD j []) := by
            intro j hj
            by_cases e : j = i
            · subst e
              rw [if_pos (by omega), HXS.out, HM.out, HUI.out, HM.out, ← hfin]
              exact HRk.out
            · have h1 := HRr.out j hj
              have h2 : Kd.R k75 75 wr base (fun _ => True) us[j] (if j < i then marksOf mkRows (j : Int) 0 (xss.getD j []).length else xss.getD j []) :=
                Kd.R_grown2 (Kd.R_below h1 HB1.out) rfl HG.out (fun q hq he => HSEP.out i j hiu hj (fun e' => e e'.symm) q (by rw [← HOWN.out]; exact hq) he.symm)
              by_cases e2 : j < i
              · rw [if_pos (by omega)]; rw [if_pos e2] at h2; exact h2
              · rw [if_neg (by omega)]; rw [if_neg e2] at h2; exact h2
          have HRN := Aside0.mk hRn
          clear hRn hfin
          go_wp2_with fail
          go_roundw
          case rel => exact ⟨i + 1, by omega, by go_num, HPk, HRN⟩
          case measure => simp [intOf]; omega
    · obtain rfl : i = n := by omega
      have c1 : decide ((i : Int) < (i : Int)) = false := decide_eq_false (by omega)
      go_wp2_with fail
      go_end0
      refine ⟨rfl, HP.out, fun j h => ?_⟩
      have hj := HRr.out j h
      rw [if_pos (by rw [← HNN.out]; exact h)] at hj
      exact hj
end Go.Proofs.YtkcpkecaliegfaaGreat.P

end
section
set_option linter.unusedVariables false
set_option linter.unusedSimpArgs false
namespace Go.Proofs.YtkcpkecaliegfaaGreat.P
open Go.RowKit Go.Proofs.YtkcpkecaliegfaaGreatW.PrintWords Go.Proofs.YtkcpkecaliegfaaGreatW.PrintLast Go.Proofs.YtkcpkecaliegfaaGreatW.PrintMore

set_option maxRecDepth 100000 in
set_option maxHeartbeats 4000000 in
theorem growRows_calls (bk : Nat) (A : Option Addr) (c : Nat) (us : List Value) (ms : List Nat) (base : Nat) (w : World) (h0 : w.cell? ⟨bk, 4, none⟩ = some (.slice A us.length c)) (hl : us.length ≤ 1000)
    (hA : Lists w A us) (hR : ∀ i, (h : i < us.length) → Kd.R k75 75 w base (fun _ => True) us[i] (marksOf mkRows (i : Int) 0 (ms.getD i 0))) (hsep : ∀ i j, (hi : i < us.length) → (hj : j < us.length) → i ≠ j → ∀ k, us[i].ownBlock = some k → us[j].ownBlock ≠ some k)
    (hbk : ∀ i, (h : i < us.length) → us[i].ownBlock ≠ some bk) (hrow : ∀ i, (h : i < us.length) → ∀ ad, A = some ad → us[i].ownBlock ≠ some ad.block) (hs : ∀ i, ms.getD i 0 ≤ 900000) (hbase : base ≤ w.heap.size) :
    Calls Tryz.prog 60 #[.pointer (some ⟨bk, 0, none⟩)] w fun e w' => ∃ (Ag : Option Addr) (cg : Nat) (gs : List Value), e = .returned (.slice Ag us.length cg) ∧ gs.length = us.length ∧ Kd.R (Kd.raw 1) 32 w' base (fun _ => True) (.slice Ag us.length cg) (gs.map fun v => [v]) ∧
      (∀ i, (h : i < gs.length) → Kd.R k75 75 w' base (fun _ => True) gs[i] (marksOf mkRows (i : Int) 0 (ms.getD i 0 + 72))) ∧ (∀ i, (h : i < us.length) → Kd.R k75 75 w' base (fun _ => True) us[i] (marksOf mkRows (i : Int) 0 (ms.getD i 0))) ∧ PutKeep us w w' := by
  have H0 := Aside0.mk h0
  have HA := Aside0.mk hA
  have HSEP := Aside0.mk hsep
  have HBK := Aside0.mk hbk
  have HROW := Aside0.mk hrow
  have HS := Aside0.mk hs
  have HL := Aside0.mk hl
  have HBASE := Aside0.mk hbase
  have HLT := Aside0.mk (fun i h => Kd.R_lt (hR i h))
  have HR0 := Aside0.mk hR
  obtain ⟨n, hnn⟩ : ∃ n, us.length = n := ⟨_, rfl⟩
  have HNN := Aside0.mk hnn
  rw [hnn] at H0
  have HOut0 : Aside0 (Kd.R (Kd.raw 1) 32 w w.heap.size (fun _ => True) (.slice none 0 0) (([] : List Value).map fun v => [v])) := ⟨Kd.R_nil _ _ _ _ _⟩
  clear h0 hA hR hsep hbk hrow hs hl hnn hbase
  go_enter Tryz.func60, Tryz.ntmps60
  go_wp2_with fail
  go_loopw [3, 4] (fun out iv wr => ∃ gs : List Value, gs.length ≤ n ∧ iv = .int .i64 gs.length ∧ Aside0 (PutKeep us w wr) ∧ Aside0 (Kd.R (Kd.raw 1) 32 wr w.heap.size (fun _ => True) out (gs.map fun v => [v])) ∧
    Aside0 (∀ j, (h : j < us.length) → Kd.R k75 75 wr base (fun _ => True) us[j] (marksOf mkRows (j : Int) 0 (ms.getD j 0))) ∧
    Aside0 (∀ j, (h : j < gs.length) → (hu : j < us.length) → Kd.R k75 75 wr base (fun _ => True) gs[j] (marksOf mkRows (j : Int) 0 (ms.getD j 0 + 72)) ∧ (gs[j].ownBlock = us[j].ownBlock ∨ ∃ b, gs[j].ownBlock = some b ∧ w.heap.size ≤ b))) (fun _ iv _ => n - (intOf iv).toNat)
  case atStart => exact ⟨[], Nat.zero_le _, rfl, ⟨PutKeep.refl _ _⟩, HOut0, ⟨HR0.out⟩, ⟨fun j h => absurd h (Nat.not_lt_zero _)⟩⟩
  case round =>
    obtain ⟨gs, hi, rfl, HP, HO, HU, HG⟩ := hrel
    obtain ⟨i, hgi⟩ : ∃ i, gs.length = i := ⟨_, rfl⟩
    have HGI := Aside0.mk hgi
    rw [hgi] at hi ⊢
    clear hgi
    have g0 := HP.out.cell (a := ⟨bk, 4, none⟩) HBK.out H0.out
    obtain ⟨Ao, co, ho⟩ := Kd.R_slice HO.out
    rw [List.length_map, HGI.out] at ho
    subst ho
    by_cases hlt : i < n
    · have hiu : i < us.length := by rw [HNN.out]; exact hlt
      have c1 : decide ((i : Int) < (n : Int)) = true := decide_eq_true (by omega)
      have c2 : decide (i < n) = true := decide_eq_true hlt
      have v1 : (0 ≤ (i : Int)) = True := eq_true (by omega)
      have v2 : ((i : Int) < (n : Int)) = True := eq_true (by omega)
      have v3 : IntKind.i64.wrap ((i : Int) + 1) = (i : Int) + 1 := IntWalk.i64_in _ (by have := HL.out; have := HNN.out; omega)
      obtain ⟨ad, hAe, x0⟩ := HA.out.at_ i hiu
      have hra : ∀ j, (h : j < us.length) → us[j].ownBlock ≠ some (ad.add i).block := by
        intro j h
        have : (ad.add i).block = ad.block := by unfold Addr.add; split <;> rfl
        rw [this]
        exact HROW.out j h ad hAe
      have x0 := HP.out.cell (a := ad.add i) hra x0
      obtain ⟨u, hu⟩ : ∃ u, us[i] = u := ⟨_, rfl⟩
      have HUE := Aside0.mk hu
      obtain ⟨m, hm⟩ : ∃ m, ms.getD i 0 = m := ⟨_, rfl⟩
      have HME := Aside0.mk hm
      have hRu := HU.out i hiu
      rw [hu, hm] at hRu
      rw [hu] at x0
      have hsm := HS.out i
      rw [hm] at hsm
      have HSM := Aside0.mk hsm
      have G0 : Aside0 (Grows k75 75 mkRows wr wr base u u (i : Int) m (m + 0)) := ⟨Grows.start hRu (Nat.le_trans HBASE.out HP.out.size)⟩
      have HRU := Aside0.mk hRu
      subst hAe
      clear hra hu hm hRu hsm
      go_wp2_with fail
      clear g0 x0
      go_loopw [5, 6] (fun v iv wk => ∃ r : Nat, r ≤ 12 ∧ iv = .int .i64 r ∧ Aside0 (Grows k75 75 mkRows wr wk base u v (i : Int) m (m + r))) (fun _ iv _ => 12 - (intOf iv).toNat)
      case atStart => exact ⟨0, Nat.zero_le _, rfl, G0⟩
      case round =>
        obtain ⟨r, hr, rfl, HGr⟩ := hrel
        obtain ⟨Av, cv, hv⟩ := Kd.R_slice HGr.out.cur
        rw [marks_len] at hv
        subst hv
        by_cases hr12 : r < 12
        · have d1 : decide ((r : Int) < 12) = true := decide_eq_true (by omega)
          have d2 : decide (r < 12) = true := decide_eq_true hr12
          have d5 : IntKind.i64.wrap ((r : Int) + 1) = (r : Int) + 1 := IntWalk.i64_in _ (by omega)
          have MK := Aside0.mk (markRows_calls i (m + r) 1 wr (by have := HL.out; have := HNN.out; omega) (by have := HSM.out; omega))
          go_wp2_with fail
          refine MK.out.mono ?_
          rintro en w1 ⟨v3, rfl, hR3, hb1⟩
          obtain ⟨A3, c3, rfl⟩ := Kd.R_slice hR3
          rw [marks_len] at hR3
          rw [marks_len]
          have hC3 := (Kd.R_reads' hR3).2.2
          rw [marks_len] at hC3
          obtain ⟨v', W', hrun, hgr⟩ := Grows.append flatRows Tryz.underlying32 infoRows (by decide) (by decide) (by decide) (HGr.out.below hb1) 1 (by decide) (by have := HSM.out; omega) A3 c3 hC3 32
          have HRUN := Aside0.mk hrun
          have HGn := Aside0.mk hgr
          clear hR3 hC3 hb1 hrun hgr MK
          go_wp2_with (first
            | ((with_reducible refine gate_builtin (b := .append) (xs := #[.tmp 27, .tmp 31]) rfl ?_); (refine append_event rfl (.tmp 27) (.tmp 31) 32 rfl rfl rfl HRUN.out ?_)))
          go_roundw
          case rel => exact ⟨r + 1, by omega, by go_num, HGn⟩
          case measure => simp [intOf]; omega
        · obtain rfl : r = 12 := by omega
          have d1 : decide (((12 : Nat) : Int) < 12) = false := by decide
          have MK := Aside0.mk (markRows_calls i (m + 12) 60 wr (by have := HL.out; have := HNN.out; omega) (by have := HSM.out; omega))
          go_wp2_with fail
          refine MK.out.mono ?_
          rintro en w1 ⟨v3, rfl, hR3, hb1⟩
          obtain ⟨A3, c3, rfl⟩ := Kd.R_slice hR3
          rw [marks_len] at hR3
          rw [marks_len]
          have hC3 := (Kd.R_reads' hR3).2.2
          rw [marks_len] at hC3
          obtain ⟨v', W', hrun, hgr⟩ := Grows.append flatRows Tryz.underlying32 infoRows (by decide) (by decide) (by decide) (HGr.out.below hb1) 60 (by decide) (by have := HSM.out; omega) A3 c3 hC3 32
          obtain ⟨Aw, cw, hw⟩ := Kd.R_slice hgr.cur
          obtain ⟨nw, hnw⟩ : ∃ nw, (marksOf mkRows (i : Int) 0 (m + 12 + 60)).length = nw := ⟨_, rfl⟩
          rw [hnw] at hw
          subst hw
          have HRUN := Aside0.mk hrun
          have HGn := Aside0.mk hgr
          clear hR3 hC3 hb1 hrun hgr MK hnw
          have hO2 := Kd.R_grown2 HO.out rfl HGn.out.keep (fun k e1 e2 => types_ne lneRows HO.out HRU.out k e2.symm e1)
          have hpk : PutKeep us w W' := HP.out.grown i hiu (by rw [HUE.out]; exact HGn.out.keep)
          have HO2 := Aside0.mk hO2
          have HPK := Aside0.mk hpk
          clear hO2 hpk
          go_wp2_with (first
            | ((with_reducible refine gate_builtin (b := .append) (xs := #[.tmp 34, .tmp 38]) rfl ?_); (refine append_event rfl (.tmp 34) (.tmp 38) 32 rfl rfl rfl HRUN.out ?_))
            | ((with_reducible refine gate_builtin (b := .append) (xs := #[.tmp 33, .tmp 40]) rfl ?_); at_builtin; refine Kd.R_append (Kd.raw 1) (w0 := W') w.heap.size rfl (.tmp 33) (.tmp 40) 37 32 (.slice none 0 0) 24 rfl Tryz.underlying37 infoRowsL rfl Nat.one_pos (by decide) (.slice Ao i co) (gs.map fun v => [v]) [.slice Aw nw cw] [.slice Aw nw cw] (fun _ => True) (fun _ => False) rfl rfl ⟨rfl, rfl, fun u hu => by rw [List.mem_singleton.1 hu]; rfl⟩ (fun _ h => h.elim) (fun _ _ => trivial) HO2.out (Below.refl _ _) HPK.out.size (by rw [List.length_map, HGI.out]; have := HL.out; have := HNN.out; omega) ?_; intro out' w3 hOn hBn hGn hAtn; have HON := Aside0.mk hOn; have HGN := Aside0.mk hGn; clear hOn hBn hGn hAtn))
          have hstep : ∀ (x : Value) (L : List S75), Kd.R k75 75 _ base (fun _ => True) x L → (∀ k, u.ownBlock = some k → x.ownBlock = some k → False) → Kd.R k75 75 w3 base (fun _ => True) x L := fun x L hx hne => by
            have h2 := Kd.R_grown2 hx rfl HGn.out.keep (fun k e1 e2 => hne k e1 e2.symm)
            exact Kd.R_grown2 h2 rfl HGN.out (fun k e1 e2 => types_ne lneRows HO2.out h2 k e1 e2.symm)
          have hU3 : ∀ j, (h : j < us.length) → Kd.R k75 75 w3 base (fun _ => True) us[j] (marksOf mkRows (j : Int) 0 (ms.getD j 0)) := by
            intro j hj
            by_cases e : j = i
            · subst e
              rw [HUE.out, HME.out]
              exact Kd.R_grown2 HGn.out.old rfl HGN.out (fun k e1 e2 => types_ne lneRows HO2.out HGn.out.old k e1 e2.symm)
            · exact hstep _ _ (HU.out j hj) (fun k e1 e2 => HSEP.out i j hiu hj (fun e' => e e'.symm) k (by rw [HUE.out]; exact e1) e2)
          have hG3 : ∀ j, (h : j < (gs ++ [Value.slice Aw nw cw]).length) → (hu : j < us.length) → Kd.R k75 75 w3 base (fun _ => True) (gs ++ [Value.slice Aw nw cw])[j] (marksOf mkRows (j : Int) 0 (ms.getD j 0 + 72)) ∧ ((gs ++ [Value.slice Aw nw cw])[j].ownBlock = us[j].ownBlock ∨ ∃ b, (gs ++ [Value.slice Aw nw cw])[j].ownBlock = some b ∧ w.heap.size ≤ b) := by
            intro j hj hju
            by_cases hjg : j < gs.length
            · rw [List.getElem_append_left hjg]
              obtain ⟨h1, h2⟩ := HG.out j hjg hju
              refine ⟨hstep _ _ h1 (fun k e1 e2 => ?_), h2⟩
              rcases h2 with h2 | ⟨b, h2, hle⟩
              · exact HSEP.out i j hiu hju (by have := HGI.out; omega) k (by rw [HUE.out]; exact e1) (by rw [← h2]; exact e2)
              · rw [h2] at e2
                injection e2 with e2
                have := HLT.out i hiu k (by rw [HUE.out]; exact e1)
                omega
            · have hji : j = i := by rw [List.length_append, List.length_singleton] at hj; have := HGI.out; omega
              have hjl : j = gs.length := by have := HGI.out; omega
              have hget : (gs ++ [Value.slice Aw nw cw])[j] = Value.slice Aw nw cw := by
                rw [List.getElem_append_right (by omega)]
                simp
              rw [hget]
              have hms : ms.getD j 0 = m := by rw [hji]; exact HME.out
              have husj : us[j] = u := by
                have h1 := HUE.out
                subst hji
                exact h1
              refine ⟨?_, ?_⟩
              · rw [hms, hji]
                exact Kd.R_grown2 HGn.out.cur rfl HGN.out (fun k e1 e2 => types_ne lneRows HO2.out HGn.out.cur k e1 e2.symm)
              · rw [husj]
                rcases HGn.out.at_ with ⟨A1, n1, c1, n1', e1, e2⟩ | ⟨b, hb, hle⟩
                · left
                  rw [e1, e2]
                  cases A1 <;> rfl
                · exact Or.inr ⟨b, hb, Nat.le_trans HP.out.size hle⟩
          have hO3 : Kd.R (Kd.raw 1) 32 w3 w.heap.size (fun _ => True) out' ((gs ++ [Value.slice Aw nw cw]).map fun v => [v]) := by
            rw [List.map_append]
            exact HON.out
          have hP3 : PutKeep us w w3 := HPK.out.own HGN.out (fun k hk => Kd.R_base HO2.out k hk)
          have HU3 := Aside0.mk hU3
          have HG3 := Aside0.mk hG3
          have HO3 := Aside0.mk hO3
          have HP3 := Aside0.mk hP3
          have hlen3 : (gs ++ [Value.slice Aw nw cw]).length = i + 1 := by rw [List.length_append, HGI.out]; rfl
          have HLEN3 := Aside0.mk hlen3
          clear hstep hU3 hG3 hO3 hP3 hlen3
          go_roundw
          case rel => exact ⟨gs ++ [Value.slice Aw nw cw], by have := HLEN3.out; omega, by rw [HLEN3.out]; rfl, HP3, HO3, HU3, HG3⟩
          case measure => simp [intOf]; omega
    · obtain rfl : i = n := by omega
      have c1 : decide ((i : Int) < (i : Int)) = false := decide_eq_false (by omega)
      go_wp2_with fail
      go_ret
      exact ⟨Ao, co, gs, by rw [HNN.out]; rfl, by rw [HNN.out]; exact HGI.out, by rw [HNN.out]; exact Kd.R_lower HO.out HBASE.out, fun j h => (HG.out j h (by rw [HNN.out]; have := HGI.out; omega)).1, fun j h => HU.out j h, HP.out⟩
end Go.Proofs.YtkcpkecaliegfaaGreat.P

end
section
set_option linter.unusedVariables false
set_option linter.unusedSimpArgs false
namespace Go.Proofs.YtkcpkecaliegfaaGreat.P
open Go.RowKit Go.Proofs.YtkcpkecaliegfaaGreatW.PrintWords Go.Proofs.YtkcpkecaliegfaaGreatW.PrintLast Go.Proofs.YtkcpkecaliegfaaGreatW.PrintMore

def addRows.T2 : Bool × List (List Nat × List Nat) := (true, [([], []), ([], []), ([1], [1]), ([2], [2]), ([3], [3]), ([], []), ([5], [5]), ([6], [6]), ([4, 7, 6], [4, 7]), ([0, 0, 1, 2, 3, 4, 5, 6, 7, 8], [0]), ([9, 0, 1, 2, 3, 4, 5, 6, 7, 8], [9]), ([10, 8, 8, 0, 1, 2, 3, 4, 5, 6, 7, 8], [8, 10])])
def addRows.B2 : List Nat := [0, 0, 2, 6, 14, 0, 32, 96, 254, 511, 1023, 2047]
theorem addRows.tab2 : rtab .any (opsOf Tryz.f13 2) = addRows.T2 := by kernel_rfl
theorem addRows.bits2 : waitsOk addRows.T2.2 addRows.B2 = true := by kernel_rfl
set_option maxRecDepth 100000 in
set_option maxHeartbeats 4000000 in
theorem addRows_calls (bk base : Nat) (e0 e1 e2 e3 o0 o1 : Value) (rest us us' : List Value) (a : Option Addr) (k : Nat) (xs : List S75) (w : World) (hblk : w.heap[bk]? = some (.cells (e0 :: e1 :: e2 :: e3 :: o0 :: o1 :: rest).toArray 44 (0, 0)))
    (h0 : Kd.R (Kd.raw 1) 32 w base (fun _ => True) o0 (us.map fun v => [v])) (h1 : Kd.R (Kd.raw 1) 32 w base (fun _ => True) o1 (us'.map fun v => [v])) (hsep : ∀ q, o0.ownBlock = some q → o1.ownBlock ≠ some q) (hu : Kd.R k75 75 w base (fun _ => True) (.slice a xs.length k) xs)
    (hn : us.length < 250) (hn' : us'.length < 250) (hbase : base ≤ w.heap.size) (hbk : base ≤ bk) (hxl : xs.length ≤ 900000) :
    Calls Tryz.prog 13 #[.pointer (some ⟨bk, 0, none⟩), .slice a xs.length k] w fun e w' => ∃ (p0 p1 u' : Value), e = .returned (.tuple #[]) ∧ w'.heap[bk]? = some (.cells (e0 :: e1 :: e2 :: e3 :: p0 :: p1 :: rest).toArray 44 (0, 0)) ∧
      Kd.R (Kd.raw 1) 32 w' base (fun _ => True) p0 ((us ++ [Value.slice a xs.length k]).map fun v => [v]) ∧ Kd.R (Kd.raw 1) 32 w' base (fun _ => True) p1 ((us' ++ [u']).map fun v => [v]) ∧ (∀ q, p0.ownBlock = some q → p1.ownBlock ≠ some q) ∧
      Kd.R k75 75 w' w.heap.size (fun _ => True) u' xs ∧ AddKeep bk o0 o1 w w' := by
  have HBLK := Aside0.mk hblk
  have H0 := Aside0.mk h0
  have H1 := Aside0.mk h1
  have HSEP := Aside0.mk hsep
  have HBASE := Aside0.mk hbase
  have HN := Aside0.mk hn
  have HN' := Aside0.mk hn'
  have HU := Aside0.mk hu
  have CP := Aside0.mk (fun w' (hC : Kd.C k75 w' a xs.length xs) => copyRows_calls a k xs w' hC (Kd.R_reads' hu).2.1 hxl)
  obtain ⟨Ao, co, rfl⟩ := Kd.R_slice h0
  rw [List.length_map] at hblk H0 HBLK h0 HSEP ⊢
  have e0 : (Value.slice Ao us.length co).ownBlock ≠ some bk := block_ne (by decide) h0 hblk
  have e1 : o1.ownBlock ≠ some bk := block_ne (by decide) h1 hblk
  have E0 := Aside0.mk e0
  have E1 := Aside0.mk e1
  have c0 : w.cell? ⟨bk, 4, none⟩ = some (.slice Ao us.length co) := (blk_cell hblk 4).trans rfl
  have d1 : decide ((us.length : Int) < 250) = true := decide_eq_true (by omega)
  have d2 : decide (us.length < 250) = true := decide_eq_true hn
  clear hblk h0 h1 hsep hbase hn hn' hu e0 e1
  go_enter Tryz.func13, Tryz.ntmps13
  go_wp2_with (first
    | ((with_reducible refine gate_builtin (b := .append) (xs := #[.tmp 14, .tmp 16]) rfl ?_); at_builtin; refine Kd.R_append (Kd.raw 1) (w0 := w) base rfl (.tmp 14) (.tmp 16) 37 32 (.slice none 0 0) 24 rfl Tryz.underlying37 infoRowsL rfl Nat.one_pos (by decide) (.slice Ao us.length co) (us.map fun v => [v]) [.slice a xs.length k] [.slice a xs.length k] (fun _ => True) (fun _ => False) rfl rfl ⟨rfl, rfl, fun u hu => by rw [List.mem_singleton.1 hu]; rfl⟩ (fun _ h => h.elim) (fun _ _ => trivial) H0.out (Below.refl _ _) HBASE.out (by rw [List.length_map]; have := HN.out; omega) ?_; intro p0 w1 hOn hBn hGn hAtn; obtain ⟨A0', c0', hp0⟩ := Kd.R_slice hOn; obtain ⟨n0', hn0⟩ : ∃ q, (us.map (fun v => [v]) ++ [[Value.slice a xs.length k]]).length = q := ⟨_, rfl⟩; rw [hn0] at hp0; subst hp0; have HON := Aside0.mk hOn; have HGN := Aside0.mk hGn; have HAT := Aside0.mk hAtn; have hb1 := blk_grown HBLK.out hGn E0.out.symm; have HB1 := Aside0.mk hb1; have z0 : w1.cell? ⟨bk, 4, none⟩ = some (.slice Ao us.length co) := (blk_cell hb1 4).trans rfl; have z1 := blk_frozen hb1 4; clear hOn hBn hGn hAtn hb1 hn0))
  obtain ⟨w2, hw2⟩ : ∃ x, w1.setCell ⟨bk, 4, none⟩ (.slice A0' n0' c0') = x := ⟨_, rfl⟩
  have hblk2 : w2.heap[bk]? = some (.cells (e0 :: e1 :: e2 :: e3 :: Value.slice A0' n0' c0' :: o1 :: rest).toArray 44 (0, 0)) := by rw [← hw2]; exact blk_set HB1.out 4 _
  have hP0 : Kd.R (Kd.raw 1) 32 w2 base (fun _ => True) (.slice A0' n0' c0') (us.map (fun v => [v]) ++ [[Value.slice a xs.length k]]) := by rw [← hw2]; exact Kd.R_set HON.out HB1.out (by intro q hq; rw [show q = 32 by simpa [Kd.raw] using hq]; decide) 4 _
  have h1a := Kd.R_grown2 H1.out rfl HGN.out (fun q e1 e2 => HSEP.out q e1 e2.symm)
  have hP1 : Kd.R (Kd.raw 1) 32 w2 base (fun _ => True) o1 (us'.map fun v => [v]) := by rw [← hw2]; exact Kd.R_set h1a HB1.out (by intro q hq; rw [show q = 32 by simpa [Kd.raw] using hq]; decide) 4 _
  have hUa := Kd.R_grown2 HU.out rfl HGN.out (fun q e1 e2 => types_ne lneRows H0.out HU.out q e1 e2.symm)
  have hU2 : Kd.R k75 75 w2 base (fun _ => True) (.slice a xs.length k) xs := by rw [← hw2]; exact Kd.R_set hUa HB1.out (by intro q hq; rw [flatRows.E] at hq; rw [List.mem_singleton.1 hq]; decide) 4 _
  have hK2 : AddKeep bk (.slice Ao us.length co) o1 w w2 := by
    rw [← hw2]
    exact ⟨HGN.out.os, HGN.out.tape, HGN.out.output, by simpa [World.setCell] using HGN.out.size, fun q hq e1 e2 e3 => (Below.heap_setCell w1 ⟨bk, 4, none⟩ _ q e1).trans (HGN.out.block q hq (fun e => e2 e.symm))⟩
  have hsz2 : w2.heap.size = w1.heap.size := by rw [← hw2]; simp [World.setCell]
  have hS2 : w2.cell? ⟨bk, 5, none⟩ = some o1 := (blk_cell hblk2 5).trans rfl
  have HBLK2 := Aside0.mk hblk2
  have HP0 := Aside0.mk hP0
  have HP1 := Aside0.mk hP1
  have HU2 := Aside0.mk hU2
  have HK2 := Aside0.mk hK2
  have HSZ2 := Aside0.mk hsz2
  rw [hw2]
  clear hw2 hblk2 hP0 h1a hP1 hUa hU2 hK2 hsz2 z0 z1 c0
  refine start_ (n := 12) (S := fun w' => w'.cell? ⟨bk, 5, none⟩ = some o1) (ds := [11]) #[false, false, false, false, false, false, false, false, false, false, false, false] (by kernel_rfl) rfl rfl hS2 (fun hHeld => ?_)
  refine with_tabW addRows.tab2 addRows.bits2 (fun HT_ HW_ => ?_)
  refine take_ (i := 0) (N := some 20) (v := ?_) (a' := ?_) #[true, false, false, false, false, false, false, false, false, false, false, false] rfl rfl (take_ofW HT_.out HW_.out (by kernel_rfl)) (fun _ _ _ h => h) (Or.inl ⟨by rfl, ?_⟩) hHeld ?_ ?_
  rotate_left
  · intro w' s
    go_simp
    with_reducible rfl
  rotate_left
  · simp only [Act.put, List.setIfInBounds_toArray, List.set_cons_zero, List.set_cons_succ, i64_w, i32_w]
    rfl
  refine take_ (i := 1) (N := some 21) (v := ?_) (a' := ?_) #[true, true, false, false, false, false, false, false, false, false, false, false] rfl rfl (take_ofW HT_.out HW_.out (by kernel_rfl)) (fun _ _ _ h => h) (Or.inl ⟨by rfl, ?_⟩) hHeld ?_ ?_
  rotate_left
  · intro w' s
    go_simp
    with_reducible rfl
  rotate_left
  · simp only [Act.put, List.setIfInBounds_toArray, List.set_cons_zero, List.set_cons_succ, i64_w, i32_w]
    rfl
  refine take_ (i := 2) (N := some 22) (v := ?_) (a' := ?_) #[true, true, true, false, false, false, false, false, false, false, false, false] rfl rfl (take_ofW HT_.out HW_.out (by kernel_rfl)) (fun _ _ _ h => h) (Or.inl ⟨by rfl, ?_⟩) hHeld ?_ ?_
  rotate_left
  · intro w' s
    go_simp
    with_reducible rfl
  rotate_left
  · simp only [Act.put, List.setIfInBounds_toArray, List.set_cons_zero, List.set_cons_succ, i64_w, i32_w]
    rfl
  refine take_ (i := 3) (N := some 23) (v := ?_) (a' := ?_) #[true, true, true, true, false, false, false, false, false, false, false, false] rfl rfl (take_ofW HT_.out HW_.out (by kernel_rfl)) (fun _ _ _ h => h) (Or.inl ⟨by rfl, ?_⟩) hHeld ?_ ?_
  rotate_left
  · intro w' s
    go_simp
    with_reducible rfl
  rotate_left
  · simp only [Act.put, List.setIfInBounds_toArray, List.set_cons_zero, List.set_cons_succ, i64_w, i32_w]
    rfl
  refine take_ (i := 4) (N := some 24) (v := ?_) (a' := ?_) #[true, true, true, true, true, false, false, false, false, false, false, false] rfl rfl (take_ofW HT_.out HW_.out (by kernel_rfl)) (fun _ _ _ h => h) (Or.inl ⟨by rfl, ?_⟩) hHeld ?_ ?_
  rotate_left
  · intro w' s
    go_simp
    with_reducible rfl
  rotate_left
  · simp only [Act.put, List.setIfInBounds_toArray, List.set_cons_zero, List.set_cons_succ, i64_w, i32_w]
    rfl
  refine take_ (i := 5) (N := some 25) (v := ?_) (a' := ?_) #[true, true, true, true, true, true, false, false, false, false, false, false] rfl rfl (take_ofW HT_.out HW_.out (by kernel_rfl)) (fun _ _ _ h => h) (Or.inl ⟨by rfl, ?_⟩) hHeld ?_ ?_
  rotate_left
  · intro w' s
    go_simp
    with_reducible rfl
  rotate_left
  · simp only [Act.put, List.setIfInBounds_toArray, List.set_cons_zero, List.set_cons_succ, i64_w, i32_w]
    rfl
  refine one_ (i := 6) (N := some 26) #[true, true, true, true, true, true, true, false, false, false, false, false] rfl rfl (one_of HT_.out (by kernel_rfl)) (by decide) (fun K hK => ?_)
  refine goes_ Tryz.func40 (by kernel_rfl) rfl #[.slice a xs.length k] (by rfl) rfl rfl (by (try simp only [List.map_toArray, List.map_cons, List.map_nil]); first | done | rfl | (simp only [List.length_drop, List.length_take]; rfl)) ?_
  refine (CP.out _ (Kd.R_reads' (Kd.R_drew HU2.out)).2.2).mono ?_
  rintro en w3 ⟨u', rfl, hRu, hb⟩
  refine ⟨_, rfl, ?_⟩
  obtain ⟨A3, c3, rfl⟩ := Kd.R_slice hRu
  have HB23 := Aside0.mk (show Below w2.heap.size w2 w3 from below_step (below_drew1 (Below.refl _ _)) hb)
  have HRU := Aside0.mk hRu
  refine hK.out _ _ (pw_cell_below hb hHeld) (fun hHeld => ?_)
  clear hRu hb
  clear hK K
  refine norm_ (a' := ?_) ?_ ?_
  rotate_left
  · show Act.put _ (some 26) _ = _
    simp only [Act.put, List.setIfInBounds_toArray, List.set_cons_zero, List.set_cons_succ, i64_w, i32_w]
    rfl
  refine one_ (i := 7) (N := some 27) #[true, true, true, true, true, true, true, true, false, false, false, false] rfl rfl (one_of HT_.out (by kernel_rfl)) (by decide) (fun K hK => ?_)
  refine value_ (v := .slice (some ⟨w3.heap.size, 0, none⟩) 1 1) (w1 := w3.alloc (.cells #[.slice A3 xs.length c3] 32)) (by rfl) rfl (by first | (go_simp; done) | (go_simp; rfl)) (hK.out _ _ (pw_cell_below (below_alloc (Below.refl _ _) _) hHeld) (fun hHeld => ?_))
  clear hK K
  refine norm_ (a' := ?_) ?_ ?_
  rotate_left
  · show Act.put _ (some 27) _ = _
    simp only [Act.put, List.setIfInBounds_toArray, List.set_cons_zero, List.set_cons_succ, i64_w, i32_w]
    rfl
  refine one_ (i := 8) (N := some 28) #[true, true, true, true, true, true, true, true, true, false, false, false] rfl rfl (one_of HT_.out (by kernel_rfl)) (by decide) (fun K hK => ?_)
  refine Kd.R_append_step (Kd.raw 1) (w0 := w3) base (by rfl) (.tmp 24) (.tmp 27) 37 32 (.slice none 0 0) 24 rfl Tryz.underlying37 infoRowsL rfl Nat.one_pos (by decide) o1 (us'.map fun v => [v]) [.slice A3 xs.length c3] [.slice A3 xs.length c3] (fun _ => True) (fun _ => False) rfl rfl ⟨rfl, rfl, fun u hu => by rw [List.mem_singleton.1 hu]; rfl⟩ (fun _ h => h.elim) (fun _ _ => trivial) (Kd.R_below HP1.out HB23.out) (Below.refl _ _) (Nat.le_trans HBASE.out (Nat.le_trans HK2.out.size HB23.out.size)) (by rw [List.length_map]; have := HN'.out; omega) ?_
  intro p1 w4 hO4 hB4 hG4 hA4
  obtain ⟨A1', c1', hp1⟩ := Kd.R_slice hO4
  obtain ⟨n1', hn1⟩ : ∃ q, (us'.map (fun v => [v]) ++ [[Value.slice A3 xs.length c3]]).length = q := ⟨_, rfl⟩
  rw [hn1] at hp1
  subst hp1
  have HO4 := Aside0.mk hO4
  have HG4 := Aside0.mk hG4
  have HA4 := Aside0.mk hA4
  have hb4 := blk_grown (blk_below HBLK2.out HB23.out) hG4 E1.out.symm
  have HB4 := Aside0.mk hb4
  refine hK.out _ _ ((blk_cell hb4 5).trans rfl) (fun hHeld => ?_)
  clear hO4 hB4 hG4 hA4 hb4 hn1
  clear hK K
  refine norm_ (a' := ?_) ?_ ?_
  rotate_left
  · show Act.put _ (some 28) _ = _
    simp only [Act.put, List.setIfInBounds_toArray, List.set_cons_zero, List.set_cons_succ, i64_w, i32_w]
    rfl
  refine take_ (i := 9) (N := some 29) (v := ?_) (a' := ?_) #[true, true, true, true, true, true, true, true, true, true, false, false] rfl rfl (take_ofW HT_.out HW_.out (by kernel_rfl)) (fun _ _ _ h => h) (Or.inl ⟨by rfl, ?_⟩) hHeld ?_ ?_
  rotate_left
  · intro w' s
    go_simp
    with_reducible rfl
  rotate_left
  · simp only [Act.put, List.setIfInBounds_toArray, List.set_cons_zero, List.set_cons_succ, i64_w, i32_w]
    rfl
  refine take_ (i := 10) (N := some 30) (v := ?_) (a' := ?_) #[true, true, true, true, true, true, true, true, true, true, true, false] rfl rfl (take_ofW HT_.out HW_.out (by kernel_rfl)) (fun _ _ _ h => h) (Or.inl ⟨by rfl, ?_⟩) hHeld ?_ ?_
  rotate_left
  · intro w' s
    go_simp
    with_reducible rfl
  rotate_left
  · simp only [Act.put, List.setIfInBounds_toArray, List.set_cons_zero, List.set_cons_succ, i64_w, i32_w]
    rfl
  refine last_ (i := 11) (N := none) #[true, true, true, true, true, true, true, true, true, true, true, true] rfl rfl (one_of HT_.out (by kernel_rfl)) (by decide) (fun K hK => ?_)
  have z0 : w4.cell? ⟨bk, 5, none⟩ = some o1 := (blk_cell HB4.out 5).trans rfl
  have z1 := blk_frozen HB4.out 5
  obtain ⟨w5, hw5⟩ : ∃ x, w4.setCell ⟨bk, 5, none⟩ (.slice A1' n1' c1') = x := ⟨_, rfl⟩
  refine skip_ (w1 := w4.setCell ⟨bk, 5, none⟩ (.slice A1' n1' c1')) (by rfl) rfl (by first | (go_simp; done) | (go_simp; rfl)) (hK.out _ _ ?_)
  rw [hw5]
  have HW5 := Aside0.mk hw5
  clear hw5 z0 z1 hHeld
  clear hK K
  refine done_ (done_of HT_.out (by kernel_rfl)) ?_
  clear hHeld
  go_end0
  have hs0 : ∀ q, (Value.slice A0' n0' c0').ownBlock = some q → o1.ownBlock = some q → False := by
    intro q e1 e2
    rcases HAT.out with h | ⟨b, h, hle⟩
    · exact HSEP.out q (by rw [← h]; exact e1) e2
    · rw [h] at e1
      injection e1 with e1
      have := Kd.R_lt H1.out q e2
      omega
  have hP0a := Kd.R_below HP0.out HB23.out
  have hP0b := Kd.R_grown2 hP0a rfl HG4.out (fun q e1 e2 => hs0 q e2.symm e1)
  have hUb := Kd.R_grown2 HRU.out rfl HG4.out (fun q e1 e2 => types_ne lneRows (Kd.R_below HP1.out HB23.out) HRU.out q e1 e2.symm)
  have hw2le : w.heap.size ≤ w2.heap.size := HK2.out.size
  refine ⟨.slice A0' n0' c0', .slice A1' n1' c1', .slice A3 xs.length c3, rfl, ?_, ?_, ?_, ?_, ?_, ?_⟩
  · rw [← HW5.out]
    exact blk_set HB4.out 5 _
  · rw [List.map_append, ← HW5.out]
    exact Kd.R_set hP0b HB4.out (by intro q hq; rw [show q = 32 by simpa [Kd.raw] using hq]; decide) 5 _
  · rw [List.map_append, ← HW5.out]
    exact Kd.R_set HO4.out HB4.out (by intro q hq; rw [show q = 32 by simpa [Kd.raw] using hq]; decide) 5 _
  · intro q e1 e2
    rcases HA4.out with h | ⟨b, h, hle⟩
    · exact hs0 q e1 (by rw [← h]; exact e2)
    · rw [h] at e2
      injection e2 with e2
      have := Kd.R_lt hP0a q e1
      omega
  · rw [← HW5.out]
    exact Kd.R_lower (Kd.R_set hUb HB4.out (by intro q hq; rw [flatRows.E] at hq; rw [List.mem_singleton.1 hq]; decide) 5 _) hw2le
  · rw [← HW5.out]
    refine ⟨?_, ?_, ?_, ?_, fun q hq e1 e2 e3 => ?_⟩
    · exact HG4.out.os.trans (HB23.out.os.trans HK2.out.os)
    · exact HG4.out.tape.trans (HB23.out.tape.trans HK2.out.tape)
    · exact HG4.out.output.trans (HB23.out.output.trans HK2.out.output)
    · have h1 : w3.heap.size ≤ w4.heap.size := HG4.out.size
      have h2 : w2.heap.size ≤ w3.heap.size := HB23.out.size
      have h3 : (w4.setCell ⟨bk, 5, none⟩ (.slice A1' n1' c1')).heap.size = w4.heap.size := by simp [World.setCell]
      omega
    · have h2 : w2.heap.size ≤ w3.heap.size := HB23.out.size
      rw [Below.heap_setCell w4 ⟨bk, 5, none⟩ _ q e1, HG4.out.block q (by omega) (fun e => e3 e.symm), HB23.out.block q (by omega)]
      exact HK2.out.far q hq e1 e2 e3
end Go.Proofs.YtkcpkecaliegfaaGreat.P

end
section
set_option linter.unusedVariables false
set_option linter.unusedSimpArgs false
namespace Go.Proofs.YtkcpkecaliegfaaGreat.P
open Go.RowKit Go.Proofs.YtkcpkecaliegfaaGreatW.PrintWords Go.Proofs.YtkcpkecaliegfaaGreatW.PrintLast Go.Proofs.YtkcpkecaliegfaaGreatW.PrintMore

theorem stillRows_st {bk base : Nat} {A A' : Option Addr} {n n' c c' : Nat} {us us' : List Value} {xss : List (List S75)} {w : World} (s : Stat us us' xss) (h : StA k75 75 32 base (.slice A n c) (.slice A' n' c') us us' xss w) (h0 : w.cell? ⟨bk, 4, none⟩ = some (.slice A n c)) (h1 : w.cell? ⟨bk, 5, none⟩ = some (.slice A' n' c')) :
    Calls Tryz.prog 44 #[.pointer (some ⟨bk, 0, none⟩)] w fun e w' => e = .returned (.bool true) ∧ Below w.heap.size w w' := by
  obtain ⟨hn, _, hL⟩ := lists_of_raw h.row
  obtain ⟨hn', _, hL'⟩ := lists_of_raw h.row'
  rw [hn] at h0
  rw [hn', s.n] at h1
  exact stillRows_calls bk A A' c c' us us' xss w h0 h1 s.l hL hL' s.n s.x (fun i hi => readsD_of_R (h.own i hi)) h.cop (fun i => by have := s.s i; omega)
theorem putRows_st {bk base : Nat} {A : Option Addr} {n c : Nat} {us us' : List Value} {xss : List (List S75)} {w : World} {cs : Array Value} (s : Stat us us' xss) (h : StB k75 75 32 base (.slice A n c) us (fun i => xss.getD i []) w) (hblk : w.heap[bk]? = some (.cells cs 44 (0, 0))) (h0 : w.cell? ⟨bk, 4, none⟩ = some (.slice A n c)) (hb : base ≤ w.heap.size) :
    Calls Tryz.prog 53 #[.pointer (some ⟨bk, 0, none⟩)] w fun e w' => e = .returned (.tuple #[]) ∧ KeepT 75 w w' ∧ Below base w w' ∧ StB k75 75 32 base (.slice A n c) us (fun i => marksOf mkRows (i : Int) 0 (xss.getD i []).length) w' := by
  obtain ⟨hn, _, hL⟩ := lists_of_raw h.row
  rw [hn] at h0
  refine (putRows_calls bk A c us xss base w h0 s.l hL h.own s.sep (fun i hi => block_ne (by decide) (h.own i hi) hblk) (StB.rowNe lneRows h) (fun i => by have := s.s i; omega)).mono ?_
  rintro e w' ⟨rfl, hp, hR⟩
  have hk := hp.typed h.own
  exact ⟨rfl, hk, hp.under (fun i hi k e => Kd.R_base (h.own i hi) k e) hb, hk.R rfl lneRows h.row, hR⟩
theorem growRows_st {bk base : Nat} {A : Option Addr} {n c : Nat} {us us' : List Value} {xss : List (List S75)} {w : World} {cs : Array Value} (s : Stat us us' xss) (h : StB k75 75 32 base (.slice A n c) us (fun i => marksOf mkRows (i : Int) 0 (xss.getD i []).length) w) (hblk : w.heap[bk]? = some (.cells cs 44 (0, 0))) (h0 : w.cell? ⟨bk, 4, none⟩ = some (.slice A n c)) (hb : base ≤ w.heap.size) :
    Calls Tryz.prog 60 #[.pointer (some ⟨bk, 0, none⟩)] w fun e w' => ∃ (Ag : Option Addr) (ng cg : Nat) (gs : List Value), e = .returned (.slice Ag ng cg) ∧ gs.length = us.length ∧ KeepT 75 w w' ∧ Below base w w' ∧
      StB k75 75 32 base (.slice Ag ng cg) gs (fun i => marksOf mkRows (i : Int) 0 ((xss.getD i []).length + 72)) w' ∧ StB k75 75 32 base (.slice A n c) us (fun i => marksOf mkRows (i : Int) 0 (xss.getD i []).length) w' := by
  obtain ⟨hn, _, hL⟩ := lists_of_raw h.row
  rw [hn] at h0
  refine (growRows_calls bk A c us (xss.map List.length) base w h0 s.l hL (fun i hi => by rw [getD_len]; exact h.own i hi) s.sep (fun i hi => block_ne (by decide) (h.own i hi) hblk) (StB.rowNe lneRows h) (fun i => by rw [getD_len]; exact s.s i) hb).mono ?_
  rintro e w' ⟨Ag, cg, gs, rfl, hgl, hgr, hg, hu, hp⟩
  have hk := hp.typed h.own
  refine ⟨Ag, us.length, cg, gs, rfl, hgl, hk, hp.under (fun i hi k e => Kd.R_base (h.own i hi) k e) hb, ⟨hgr, fun i hi => ?_⟩, ⟨hk.R rfl lneRows h.row, fun i hi => ?_⟩⟩
  · have := hg i hi
    rw [getD_len] at this
    exact this
  · have := hu i hi
    rw [getD_len] at this
    exact this
theorem markedRows_st {base : Nat} {A : Option Addr} {n c : Nat} {us us0 us' : List Value} {xss : List (List S75)} {w : World} {q : Nat} (s : Stat us0 us' xss) (hl : us.length = us0.length) (hq : q ≤ 72) (h : StB k75 75 32 base (.slice A n c) us (fun i => marksOf mkRows (i : Int) 0 ((xss.getD i []).length + q)) w) :
    Calls Tryz.prog 68 #[.slice A n c] w fun e w' => e = .returned (.bool true) ∧ Below w.heap.size w w' :=
  markedRows_calls base A n c us (fun i => (xss.getD i []).length + q) w h.row h.own (by rw [hl]; exact s.l) (fun i => by have := s.s i; omega)
end Go.Proofs.YtkcpkecaliegfaaGreat.P

end
