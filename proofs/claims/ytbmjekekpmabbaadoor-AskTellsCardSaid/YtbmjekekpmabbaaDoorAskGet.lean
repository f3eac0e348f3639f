/- The function Get of package ask reads what the plain function getOf says. Conditions: the bytes are not too many. (Printed by genget.py.) -/
import Derived.Test.YtbmjekekpmabbaaDoorAskV
import Derived.Test.YtbmjekekpmabbaaDoorP7
import Derived.Laws.BitsAllLaws
set_option linter.unusedVariables false
set_option linter.unusedSimpArgs false
namespace Go.Proofs.YtbmjekekpmabbaaDoor.P
open Go.RowKit Go.Proofs.YtbmjekekpmabbaaDoorW.PrintWords Go.Proofs.YtbmjekekpmabbaaDoorW.PrintLast Go.Proofs.YtbmjekekpmabbaaDoorW.PrintMore

def numAt (s : ByteArray) (i : Int) : Int := bt s (1 + 2 * i) * 256 + bt s (2 + 2 * i)
theorem or_i64 (x y : Int) (h0 : 0 ≤ x) (h1 : x ≤ 255) (h2 : 0 ≤ y) (h3 : y ≤ 255) : Go.bits .or .i64 (x * 256) y = x * 256 + y := by
  obtain ⟨a, rfl⟩ := Int.eq_ofNat_of_zero_le h0
  obtain ⟨b, rfl⟩ := Int.eq_ofNat_of_zero_le h2
  rw [show ((a : Int) * 256) = ((a * 256 : Nat) : Int) by omega]
  show IntKind.i64.wrap ((BitVec.ofInt 64 ((a * 256 : Nat) : Int) ||| BitVec.ofInt 64 (b : Int)).toNat : Int) = _
  rw [BitVec.toNat_or, ofInt_u64 _ (by omega), ofInt_u64 _ (by omega), nat_join 8 (a * 256) b (by omega) (by omega), IntWalk.i64_in _ (by omega)]
  omega
set_option maxHeartbeats 1000000 in
set_option maxRecDepth 100000 in
theorem num_calls (s : ByteArray) (sb : Nat) (i : Int) (h0 : 0 ≤ i) (h3 : i ≤ 3) (hs : 10 ≤ s.size) (w : World) (hc : w.cell? ⟨sb, 0, none⟩ = some (.string s)) :
    Calls Tryd.prog 26 #[.int .i64 i, .pointer (some ⟨sb, 0, none⟩)] w fun e w' => e = .returned (.int .i64 (numAt s i)) ∧ Drawn0 w w' := by
  have v1 : IntKind.i64.wrap (2 * i) = 2 * i := IntWalk.i64_in _ (by omega)
  have v2 : IntKind.i64.wrap (1 + 2 * i) = 1 + 2 * i := IntWalk.i64_in _ (by omega)
  have v3 : IntKind.i64.wrap (2 + 2 * i) = 2 + 2 * i := IntWalk.i64_in _ (by omega)
  have p1 : (0 ≤ 1 + 2 * i) = True := eq_true (by omega)
  have p2 : (1 + 2 * i < (s.size : Int)) = True := eq_true (by omega)
  have p3 : (0 ≤ 2 + 2 * i) = True := eq_true (by omega)
  have p4 : (2 + 2 * i < (s.size : Int)) = True := eq_true (by omega)
  have b1 := bt_at s (1 + 2 * i)
  have b2 := bt_at s (2 + 2 * i)
  have n1 : ((1 + 2 * i).toNat < s.size) = True := eq_true (by omega)
  have n2 : ((2 + 2 * i).toNat < s.size) = True := eq_true (by omega)
  obtain ⟨r0, r1⟩ := bt_range s (1 + 2 * i)
  obtain ⟨q0, q1⟩ := bt_range s (2 + 2 * i)
  have m1 := or_i64 (bt s (1 + 2 * i)) (bt s (2 + 2 * i)) r0 r1 q0 q1
  have w1 : wrap64 (bt s (1 + 2 * i)) = bt s (1 + 2 * i) := IntWalk.wrap64_in _ (by omega)
  have w2 : wrap64 (bt s (2 + 2 * i)) = bt s (2 + 2 * i) := IntWalk.wrap64_in _ (by omega)
  have w3 : wrap64 (bt s (1 + 2 * i) * 256) = bt s (1 + 2 * i) * 256 := IntWalk.wrap64_in _ (by omega)
  go_enter Tryd.func26, Tryd.ntmps26
  go_wp2_with fail
  go_quiet (fail)
  go_wp2_with fail
  go_ret
  exact ⟨rfl, ⟨⟨nq, rfl⟩⟩⟩
/-- A request of bytes. -/
def getV (s : ByteArray) : AskV := ⟨bt s 0, numAt s 0, numAt s 1, numAt s 2, numAt s 3, s.extract 10 s.size⟩
def putK (a : AskV) : ByteArray := strOfNums [a.kind % 256, a.id / 256 % 256, a.id % 256, a.fr / 256 % 256, a.fr % 256, a.tt / 256 % 256, a.tt % 256, a.snap / 256 % 256, a.snap % 256, (a.text.size : Int) % 256] ++ a.text
theorem put_ev (a : AskV) (h : a.ok = true) (hs : a.text.size ≤ 1000000) : ask_Put.f 5 a.kind a.id a.fr a.tt a.snap a.text = some (putK a, true) := by
  unfold ask_Put.f ask_Right.f
  rw [show askB a.kind a.id a.fr a.tt a.snap a.text = true from h]
  simp [ask_Put.l0, wrap64]
  exact ⟨by rw [strOfNums_size]; simp; omega, rfl⟩
def putO (a : AskV) : ByteArray × Bool := if a.ok = true then (putK a, true) else (⟨#[]⟩, false)
theorem put_told (a : AskV) (hs : a.text.size ≤ 1000000) : ask_Put.f 5 a.kind a.id a.fr a.tt a.snap a.text = some ((putO a).1, (putO a).2) := by
  unfold putO
  cases h : a.ok with
  | true => exact put_ev a h hs
  | false =>
    unfold ask_Put.f ask_Right.f
    rw [show askB a.kind a.id a.fr a.tt a.snap a.text = false from h]
    rfl
def getOf (s : ByteArray) : Option AskV := if s.size < 10 then none else if (getV s).ok = true ∧ (putK (getV s)).toList = s.toList then some (getV s) else none
def askGet.T4 : Bool × List (List Nat × List Nat) := (true, [([], []), ([0], [0]), ([1], [1]), ([], []), ([3], [3]), ([], []), ([5, 4], [5]), ([], []), ([7, 6], [7]), ([], []), ([9, 8], [9]), ([], []), ([11], [11]), ([2, 4, 6, 8, 10, 12], [2, 4, 6, 8, 10, 12]), ([], []), ([14, 13, 10, 0, 1, 2, 3, 4, 5, 6, 7, 8, 9, 10, 11, 12, 13, 14], [13, 14])])
def askGet.B4 : List Nat := [0, 1, 3, 0, 8, 0, 56, 0, 248, 0, 1016, 0, 2048, 8191, 0, 32767]
theorem askGet.tab4 : rtab .any (opsOf Tryd.f14 4) = askGet.T4 := by kernel_rfl
theorem askGet.bits4 : waitsOk askGet.T4.2 askGet.B4 = true := by kernel_rfl
theorem get_end {W : World} {g : Nat} {a0 : AskV} (tmps : Array Value) (o : Option AskV) (hp : tmps.getD 2 undef = .pointer (some ⟨g, 0, none⟩)) (h3 : tmps.getD 3 undef = .bool o.isSome) (h : W.heap[g]? = some (.cells (o.getD zeroV).cells 23 (0, 0))) :
    (results Tryd.f14 tmps).run Tryd.prog W = .ok (outOf o) W := by
  have := results_ct (P := Tryd.prog) (fn := Tryd.f14) (p := 2) (u := 3) (ty := 23) rfl tmps W g 23 (o.getD zeroV).cells (0, 0) _ hp h Tryd.underlying23 rfl askInfo
  rw [this, h3]
  cases o <;> rfl
set_option maxRecDepth 100000 in
set_option maxHeartbeats 4000000 in
theorem get_calls (s : ByteArray) (w : World) (hs : s.size ≤ 1000000) :
    Calls Tryd.prog 14 #[.string s] w fun e w' => e = .returned (outOf (getOf s)) ∧ Below w.heap.size w w' := by
  obtain ⟨W0, hW0⟩ : ∃ W0, w.alloc (.cells #[.string s] 9) = W0 := ⟨_, rfl⟩
  obtain ⟨W1, hW1⟩ : ∃ W1, W0.alloc (.cells zeroV.cells 23) = W1 := ⟨_, rfl⟩
  obtain ⟨sb, hsb⟩ : ∃ sb, w.heap.size = sb := ⟨_, rfl⟩
  obtain ⟨rb, hrb⟩ : ∃ rb, W0.heap.size = rb := ⟨_, rfl⟩
  have hw0 : Below w.heap.size w W0 := by rw [← hW0]; exact below_alloc (Below.refl _ _) _
  have hw1 : Below W0.heap.size W0 W1 := by rw [← hW1]; exact below_alloc (Below.refl _ _) _
  have HB : Aside0 (Below w.heap.size w W1) := ⟨below_step hw0 hw1⟩
  have hs0 : W0.heap[sb]? = some (.cells #[.string s] 9 (0, 0)) := by rw [← hW0, ← hsb]; exact blk_new _ _
  have SB : Aside0 (W1.heap[sb]? = some (.cells #[.string s] 9 (0, 0))) := ⟨blk_below hs0 hw1⟩
  have RB : Aside0 (W1.heap[rb]? = some (.cells zeroV.cells 23 (0, 0))) := ⟨by rw [← hW1, ← hrb]; exact blk_new _ _⟩
  have RG : Aside0 (w.heap.size ≤ rb) := ⟨by rw [← hrb]; exact hw0.size⟩
  have RBL : Aside0 (rb ≠ sb) := ⟨by have := blk_lt hs0; omega⟩
  have SG : Aside0 (sb < W1.heap.size) := ⟨blk_lt SB.out⟩
  have W1E : Aside0 ((w.alloc (.cells #[.string s] 9)).alloc (.cells #[.int .i64 0, .int .i64 0, .int .i64 0, .int .i64 0, .int .i64 0, .string ⟨#[]⟩] 23) = W1) := ⟨by rw [hW0]; exact hW1⟩
  have RBE : Aside0 (w.heap.size + 1 = rb) := ⟨by rw [← hrb, ← hW0]; exact (Array.size_push _).symm⟩
  have SBE := Aside0.mk hsb
  have HS := Aside0.mk hs
  have hbx : W1.cell? ⟨sb, 0, none⟩ = some (.string s) := blk_cell SB.out 0
  clear hW0 hW1 hsb hrb hw0 hw1 hs0 hs
  by_cases hsh : s.size < 10
  · have HN : Aside0 (getOf s = none) := ⟨by unfold getOf; rw [if_pos hsh]⟩
    have c1 : decide ((s.size : Int) < 10) = true := decide_eq_true (by omega)
    clear hsh
    go_enter Tryd.func14, Tryd.ntmps14
    go_wp2_with fail
    rw [W1E.out, RBE.out]
    refine bodyPost_ret (get_end (g := rb) (a0 := zeroV) _ none rfl rfl RB.out) rfl ⟨?_, HB.out⟩
    rw [HN.out]
  · have c1 : decide ((s.size : Int) < 10) = false := decide_eq_false (by omega)
    have NC := Aside0.mk (fun i h0 h3 w hc => num_calls s sb i h0 h3 (by omega) w hc)
    have hts : (getV s).text.size ≤ 1000000 := by show (s.extract 10 s.size).size ≤ 1000000; rw [ByteArray.size_extract]; have := HS.out; omega
    have hGet : getOf s = if (getV s).ok = true ∧ (putK (getV s)).toList = s.toList then some (getV s) else none := by unfold getOf; rw [if_neg hsh]
    have PC := Aside0.mk (fun w => ask_Put.calls 5 (getV s).kind (getV s).id (getV s).fr (getV s).tt (getV s).snap (getV s).text (putO (getV s)).1 (putO (getV s)).2 w (put_told (getV s) hts))
    have HGT := Aside0.mk hGet
    have p1 : ((0 : Int) < (s.size : Int)) = True := eq_true (by omega)
    have p2 : (0 < s.size) = True := eq_true (by omega)
    have p3 : ((10 : Int) ≤ (s.size : Int)) = True := eq_true (by omega)
    have p4 : (10 ≤ s.size) = True := eq_true (by omega)
    have b1 := bt_at s 0
    rw [show (0 : Int).toNat = 0 from rfl] at b1
    obtain ⟨r0, r1⟩ := bt_range s 0
    have v1 : wrap64 (bt s 0) = bt s 0 := IntWalk.wrap64_in _ (by omega)
    have v2 : IntKind.i64.wrap (bt s 0) = bt s 0 := IntWalk.i64_in _ (by omega)
    clear hsh hts hGet
    go_enter Tryd.func14, Tryd.ntmps14
    go_wp2_with fail
    rw [W1E.out, RBE.out, SBE.out]
    refine start_ (n := 16) (S := fun w' => Below W1.heap.size W1 w') (ds := []) #[false, false, false, false, false, false, false, false, false, false, false, false, false, false, false, false] (by kernel_rfl) rfl rfl (below_drew1 (Below.refl _ _)) (fun hHeld => ?_)
    refine with_tabW askGet.tab4 askGet.bits4 (fun HT_ HW_ => ?_)
    refine take_ (i := 0) (N := some 13) (v := ?_) (a' := ?_) #[true, false, false, false, false, false, false, false, false, false, false, false, false, false, false, false] rfl rfl (take_ofW HT_.out HW_.out (by kernel_rfl)) (fun _ _ _ h => h) (Or.inl ⟨by rfl, ?_⟩) hHeld ?_ ?_
    rotate_left
    · intro w' sg
      have s0 := pw_cell_below sg hbx
      go_simp
      with_reducible rfl
    rotate_left
    · simp only [Act.put, List.setIfInBounds_toArray, List.set_cons_zero, List.set_cons_succ, i64_w, i32_w]
      rfl
    refine take_ (i := 1) (N := some 14) (v := ?_) (a' := ?_) #[true, true, false, false, false, false, false, false, false, false, false, false, false, false, false, false] rfl rfl (take_ofW HT_.out HW_.out (by kernel_rfl)) (fun _ _ _ h => h) (Or.inl ⟨by rfl, ?_⟩) hHeld ?_ ?_
    rotate_left
    · intro w' sg
      have s0 := pw_cell_below sg hbx
      go_simp
      with_reducible rfl
    rotate_left
    · simp only [Act.put, List.setIfInBounds_toArray, List.set_cons_zero, List.set_cons_succ, i64_w, i32_w]
      rfl
    refine take_ (i := 2) (N := some 15) (v := ?_) (a' := ?_) #[true, true, true, false, false, false, false, false, false, false, false, false, false, false, false, false] rfl rfl (take_ofW HT_.out HW_.out (by kernel_rfl)) (fun _ _ _ h => h) (Or.inl ⟨by rfl, ?_⟩) hHeld ?_ ?_
    rotate_left
    · intro w' sg
      have s0 := pw_cell_below sg hbx
      go_simp
      with_reducible rfl
    rotate_left
    · simp only [Act.put, List.setIfInBounds_toArray, List.set_cons_zero, List.set_cons_succ, i64_w, i32_w]
      rfl
    refine take_ (i := 3) (N := some 16) (v := ?_) (a' := ?_) #[true, true, true, true, false, false, false, false, false, false, false, false, false, false, false, false] rfl rfl (take_ofW HT_.out HW_.out (by kernel_rfl)) (fun _ _ _ h => h) (Or.inl ⟨by rfl, ?_⟩) hHeld ?_ ?_
    rotate_left
    · intro w' sg
      have s0 := pw_cell_below sg hbx
      go_simp
      with_reducible rfl
    rotate_left
    · simp only [Act.put, List.setIfInBounds_toArray, List.set_cons_zero, List.set_cons_succ, i64_w, i32_w]
      rfl
    refine take_ (i := 5) (N := some 18) (v := ?_) (a' := ?_) #[true, true, true, true, false, true, false, false, false, false, false, false, false, false, false, false] rfl rfl (take_ofW HT_.out HW_.out (by kernel_rfl)) (fun _ _ _ h => h) (Or.inl ⟨by rfl, ?_⟩) hHeld ?_ ?_
    rotate_left
    · intro w' sg
      have s0 := pw_cell_below sg hbx
      go_simp
      with_reducible rfl
    rotate_left
    · simp only [Act.put, List.setIfInBounds_toArray, List.set_cons_zero, List.set_cons_succ, i64_w, i32_w]
      rfl
    refine take_ (i := 7) (N := some 20) (v := ?_) (a' := ?_) #[true, true, true, true, false, true, false, true, false, false, false, false, false, false, false, false] rfl rfl (take_ofW HT_.out HW_.out (by kernel_rfl)) (fun _ _ _ h => h) (Or.inl ⟨by rfl, ?_⟩) hHeld ?_ ?_
    rotate_left
    · intro w' sg
      have s0 := pw_cell_below sg hbx
      go_simp
      with_reducible rfl
    rotate_left
    · simp only [Act.put, List.setIfInBounds_toArray, List.set_cons_zero, List.set_cons_succ, i64_w, i32_w]
      rfl
    refine take_ (i := 9) (N := some 22) (v := ?_) (a' := ?_) #[true, true, true, true, false, true, false, true, false, true, false, false, false, false, false, false] rfl rfl (take_ofW HT_.out HW_.out (by kernel_rfl)) (fun _ _ _ h => h) (Or.inl ⟨by rfl, ?_⟩) hHeld ?_ ?_
    rotate_left
    · intro w' sg
      have s0 := pw_cell_below sg hbx
      go_simp
      with_reducible rfl
    rotate_left
    · simp only [Act.put, List.setIfInBounds_toArray, List.set_cons_zero, List.set_cons_succ, i64_w, i32_w]
      rfl
    refine take_ (i := 11) (N := some 24) (v := ?_) (a' := ?_) #[true, true, true, true, false, true, false, true, false, true, false, true, false, false, false, false] rfl rfl (take_ofW HT_.out HW_.out (by kernel_rfl)) (fun _ _ _ h => h) (Or.inl ⟨by rfl, ?_⟩) hHeld ?_ ?_
    rotate_left
    · intro w' sg
      have s0 := pw_cell_below sg hbx
      go_simp
      with_reducible rfl
    rotate_left
    · simp only [Act.put, List.setIfInBounds_toArray, List.set_cons_zero, List.set_cons_succ, i64_w, i32_w]
      rfl
    refine take_ (i := 12) (N := some 25) (v := ?_) (a' := ?_) #[true, true, true, true, false, true, false, true, false, true, false, true, true, false, false, false] rfl rfl (take_ofW HT_.out HW_.out (by kernel_rfl)) (fun _ _ _ h => h) (Or.inl ⟨by rfl, ?_⟩) hHeld ?_ ?_
    rotate_left
    · intro w' sg
      have s0 := pw_cell_below sg hbx
      go_simp
      with_reducible rfl
    rotate_left
    · simp only [Act.put, List.setIfInBounds_toArray, List.set_cons_zero, List.set_cons_succ, i64_w, i32_w]
      rfl
    refine join_ (σ := Nat) 1 #[true, true, true, true, true, true, true, true, true, true, true, true, true, true, true, false] (fun gb => [(17, .int .i64 (numAt s 0)), (19, .int .i64 (numAt s 1)), (21, .int .i64 (numAt s 2)), (23, .int .i64 (numAt s 3)), (26, .agg #[.int .i64 (bt s 0), .int .i64 (numAt s 0), .int .i64 (numAt s 1), .int .i64 (numAt s 2), .int .i64 (numAt s 3), .string (s.extract 10 s.size)]), (5, .pointer (some ⟨gb, 0, none⟩))]) (fun gb w' => w'.heap[gb]? = some (.cells #[.int .i64 0, .int .i64 0, .int .i64 0, .int .i64 0, .int .i64 0, .string (⟨#[]⟩ : ByteArray)] 23 (0, 0)) ∧ W1.heap.size ≤ gb ∧ Below W1.heap.size W1 w') ?_ ?_
    rotate_left
    · intro hjoin
      refine two_ (i := 4) (j := 14) (Ni := some 17) (Nj := some 5) #[true, true, true, true, true, true, false, true, false, true, false, true, true, false, false, false] #[true, true, true, true, false, true, false, true, false, true, false, true, true, false, true, false] rfl rfl rfl rfl (two_of HT_.out (by kernel_rfl)) (by decide) (by decide) (fun K hK => ?_) (fun K hK => ?_)
      · refine call_ 26 #[.int .i64 0, .pointer (some ⟨sb, 0, none⟩)] (by rfl) rfl (by first | (go_simp; done) | (go_simp; rfl)) ?_
        refine (NC.out 0 (by decide) (by decide) _ (pw_cell_below hHeld hbx)).mono ?_
        rintro en wn ⟨rfl, hd⟩
        refine ⟨_, rfl, ?_⟩
        have hS := below_step hHeld hd.below
        clear hd
        refine hK.out _ _ hS (fun _ => ?_)
        clear hK K hHeld
        have hHeld := hS
        clear hS
        refine norm_ (a' := ?_) ?_ ?_
        rotate_left
        · show Act.put _ (some 17) _ = _
          simp only [Act.put, List.setIfInBounds_toArray, List.set_cons_zero, List.set_cons_succ, i64_w, i32_w]
          rfl
        refine two_ (i := 6) (j := 14) (Ni := some 19) (Nj := some 5) #[true, true, true, true, true, true, true, true, false, true, false, true, true, false, false, false] #[true, true, true, true, true, true, false, true, false, true, false, true, true, false, true, false] rfl rfl rfl rfl (two_of HT_.out (by kernel_rfl)) (by decide) (by decide) (fun K hK => ?_) (fun K hK => ?_)
        · refine call_ 26 #[.int .i64 1, .pointer (some ⟨sb, 0, none⟩)] (by rfl) rfl (by first | (go_simp; done) | (go_simp; rfl)) ?_
          refine (NC.out 1 (by decide) (by decide) _ (pw_cell_below hHeld hbx)).mono ?_
          rintro en wn ⟨rfl, hd⟩
          refine ⟨_, rfl, ?_⟩
          have hS := below_step hHeld hd.below
          clear hd
          refine hK.out _ _ hS (fun _ => ?_)
          clear hK K hHeld
          have hHeld := hS
          clear hS
          refine norm_ (a' := ?_) ?_ ?_
          rotate_left
          · show Act.put _ (some 19) _ = _
            simp only [Act.put, List.setIfInBounds_toArray, List.set_cons_zero, List.set_cons_succ, i64_w, i32_w]
            rfl
          refine two_ (i := 8) (j := 14) (Ni := some 21) (Nj := some 5) #[true, true, true, true, true, true, true, true, true, true, false, true, true, false, false, false] #[true, true, true, true, true, true, true, true, false, true, false, true, true, false, true, false] rfl rfl rfl rfl (two_of HT_.out (by kernel_rfl)) (by decide) (by decide) (fun K hK => ?_) (fun K hK => ?_)
          · refine call_ 26 #[.int .i64 2, .pointer (some ⟨sb, 0, none⟩)] (by rfl) rfl (by first | (go_simp; done) | (go_simp; rfl)) ?_
            refine (NC.out 2 (by decide) (by decide) _ (pw_cell_below hHeld hbx)).mono ?_
            rintro en wn ⟨rfl, hd⟩
            refine ⟨_, rfl, ?_⟩
            have hS := below_step hHeld hd.below
            clear hd
            refine hK.out _ _ hS (fun _ => ?_)
            clear hK K hHeld
            have hHeld := hS
            clear hS
            refine norm_ (a' := ?_) ?_ ?_
            rotate_left
            · show Act.put _ (some 21) _ = _
              simp only [Act.put, List.setIfInBounds_toArray, List.set_cons_zero, List.set_cons_succ, i64_w, i32_w]
              rfl
            refine two_ (i := 10) (j := 14) (Ni := some 23) (Nj := some 5) #[true, true, true, true, true, true, true, true, true, true, true, true, true, false, false, false] #[true, true, true, true, true, true, true, true, true, true, false, true, true, false, true, false] rfl rfl rfl rfl (two_of HT_.out (by kernel_rfl)) (by decide) (by decide) (fun K hK => ?_) (fun K hK => ?_)
            · refine call_ 26 #[.int .i64 3, .pointer (some ⟨sb, 0, none⟩)] (by rfl) rfl (by first | (go_simp; done) | (go_simp; rfl)) ?_
              refine (NC.out 3 (by decide) (by decide) _ (pw_cell_below hHeld hbx)).mono ?_
              rintro en wn ⟨rfl, hd⟩
              refine ⟨_, rfl, ?_⟩
              have hS := below_step hHeld hd.below
              clear hd
              refine hK.out _ _ hS (fun _ => ?_)
              clear hK K hHeld
              have hHeld := hS
              clear hS
              refine norm_ (a' := ?_) ?_ ?_
              rotate_left
              · show Act.put _ (some 23) _ = _
                simp only [Act.put, List.setIfInBounds_toArray, List.set_cons_zero, List.set_cons_succ, i64_w, i32_w]
                rfl
              refine take_ (i := 13) (N := some 26) (v := ?_) (a' := ?_) #[true, true, true, true, true, true, true, true, true, true, true, true, true, true, false, false] rfl rfl (take_ofW HT_.out HW_.out (by kernel_rfl)) (fun _ _ _ h => h) (Or.inl ⟨by rfl, ?_⟩) hHeld ?_ ?_
              rotate_left
              · intro w' sg
                have s0 := pw_cell_below sg hbx
                go_simp
                with_reducible rfl
              rotate_left
              · simp only [Act.put, List.setIfInBounds_toArray, List.set_cons_zero, List.set_cons_succ, i64_w, i32_w]
                rfl
              refine one_ (i := 14) (N := some 5) #[true, true, true, true, true, true, true, true, true, true, true, true, true, true, true, false] rfl rfl (one_of HT_.out (by kernel_rfl)) (by decide) (fun K hK => ?_)
              refine box_step ?hg (N := 5) ?hd (cs := #[.int .i64 0, .int .i64 0, .int .i64 0, .int .i64 0, .int .i64 0, .string (⟨#[]⟩ : ByteArray)]) (t := 23) ?hr ?_; (case hd => rfl); (case hg => rfl); (case hr => first | (go_simp; done) | (go_simp; rfl))
              intro gb hg wn hbox hb
              have hS := below_step hHeld hb
              have hgb : W1.heap.size ≤ gb := by rw [hg]; exact hHeld.size
              clear hb hg
              refine hK.out _ _ hS (fun _ => ?_)
              clear hK K hHeld
              have hHeld := hS
              clear hS
              refine norm_ (a' := ?_) ?_ ?_
              rotate_left
              · show Act.put _ (some 5) _ = _
                simp only [Act.put, List.setIfInBounds_toArray, List.set_cons_zero, List.set_cons_succ, i64_w, i32_w]
                rfl
              exact norm_ (by first | (simp only [putAll, Act.put, List.setIfInBounds_toArray, List.set_cons_zero, List.set_cons_succ]; done) | (simp only [putAll, Act.put, List.setIfInBounds_toArray, List.set_cons_zero, List.set_cons_succ]; rfl)) (hjoin gb _ ⟨hbox, hgb, hHeld⟩)
            · refine box_step ?hg (N := 5) ?hd (cs := #[.int .i64 0, .int .i64 0, .int .i64 0, .int .i64 0, .int .i64 0, .string (⟨#[]⟩ : ByteArray)]) (t := 23) ?hr ?_; (case hd => rfl); (case hg => rfl); (case hr => first | (go_simp; done) | (go_simp; rfl))
              intro gb hg wn hbox hb
              have hS := below_step hHeld hb
              have hgb : W1.heap.size ≤ gb := by rw [hg]; exact hHeld.size
              clear hb hg
              refine hK.out _ _ hS (fun _ => ?_)
              clear hK K hHeld
              have hHeld := hS
              clear hS
              refine norm_ (a' := ?_) ?_ ?_
              rotate_left
              · show Act.put _ (some 5) _ = _
                simp only [Act.put, List.setIfInBounds_toArray, List.set_cons_zero, List.set_cons_succ, i64_w, i32_w]
                rfl
              refine one_ (i := 10) (N := some 23) #[true, true, true, true, true, true, true, true, true, true, true, true, true, false, true, false] rfl rfl (one_of HT_.out (by kernel_rfl)) (by decide) (fun K hK => ?_)
              refine call_ 26 #[.int .i64 3, .pointer (some ⟨sb, 0, none⟩)] (by rfl) rfl (by first | (go_simp; done) | (go_simp; rfl)) ?_
              refine (NC.out 3 (by decide) (by decide) _ (pw_cell_below hHeld hbx)).mono ?_
              rintro en wn ⟨rfl, hd⟩
              refine ⟨_, rfl, ?_⟩
              have hS := below_step hHeld hd.below
              have hbox2 := blk_below hbox hd.below
              clear hbox
              have hbox := hbox2
              clear hbox2
              clear hd
              refine hK.out _ _ hS (fun _ => ?_)
              clear hK K hHeld
              have hHeld := hS
              clear hS
              refine norm_ (a' := ?_) ?_ ?_
              rotate_left
              · show Act.put _ (some 23) _ = _
                simp only [Act.put, List.setIfInBounds_toArray, List.set_cons_zero, List.set_cons_succ, i64_w, i32_w]
                rfl
              refine take_ (i := 13) (N := some 26) (v := ?_) (a' := ?_) #[true, true, true, true, true, true, true, true, true, true, true, true, true, true, true, false] rfl rfl (take_ofW HT_.out HW_.out (by kernel_rfl)) (fun _ _ _ h => h) (Or.inl ⟨by rfl, ?_⟩) hHeld ?_ ?_
              rotate_left
              · intro w' sg
                have s0 := pw_cell_below sg hbx
                go_simp
                with_reducible rfl
              rotate_left
              · simp only [Act.put, List.setIfInBounds_toArray, List.set_cons_zero, List.set_cons_succ, i64_w, i32_w]
                rfl
              exact norm_ (by first | (simp only [putAll, Act.put, List.setIfInBounds_toArray, List.set_cons_zero, List.set_cons_succ]; done) | (simp only [putAll, Act.put, List.setIfInBounds_toArray, List.set_cons_zero, List.set_cons_succ]; rfl)) (hjoin gb _ ⟨hbox, hgb, hHeld⟩)
          · refine box_step ?hg (N := 5) ?hd (cs := #[.int .i64 0, .int .i64 0, .int .i64 0, .int .i64 0, .int .i64 0, .string (⟨#[]⟩ : ByteArray)]) (t := 23) ?hr ?_; (case hd => rfl); (case hg => rfl); (case hr => first | (go_simp; done) | (go_simp; rfl))
            intro gb hg wn hbox hb
            have hS := below_step hHeld hb
            have hgb : W1.heap.size ≤ gb := by rw [hg]; exact hHeld.size
            clear hb hg
            refine hK.out _ _ hS (fun _ => ?_)
            clear hK K hHeld
            have hHeld := hS
            clear hS
            refine norm_ (a' := ?_) ?_ ?_
            rotate_left
            · show Act.put _ (some 5) _ = _
              simp only [Act.put, List.setIfInBounds_toArray, List.set_cons_zero, List.set_cons_succ, i64_w, i32_w]
              rfl
            refine one_ (i := 8) (N := some 21) #[true, true, true, true, true, true, true, true, true, true, false, true, true, false, true, false] rfl rfl (one_of HT_.out (by kernel_rfl)) (by decide) (fun K hK => ?_)
            refine call_ 26 #[.int .i64 2, .pointer (some ⟨sb, 0, none⟩)] (by rfl) rfl (by first | (go_simp; done) | (go_simp; rfl)) ?_
            refine (NC.out 2 (by decide) (by decide) _ (pw_cell_below hHeld hbx)).mono ?_
            rintro en wn ⟨rfl, hd⟩
            refine ⟨_, rfl, ?_⟩
            have hS := below_step hHeld hd.below
            have hbox2 := blk_below hbox hd.below
            clear hbox
            have hbox := hbox2
            clear hbox2
            clear hd
            refine hK.out _ _ hS (fun _ => ?_)
            clear hK K hHeld
            have hHeld := hS
            clear hS
            refine norm_ (a' := ?_) ?_ ?_
            rotate_left
            · show Act.put _ (some 21) _ = _
              simp only [Act.put, List.setIfInBounds_toArray, List.set_cons_zero, List.set_cons_succ, i64_w, i32_w]
              rfl
            refine one_ (i := 10) (N := some 23) #[true, true, true, true, true, true, true, true, true, true, true, true, true, false, true, false] rfl rfl (one_of HT_.out (by kernel_rfl)) (by decide) (fun K hK => ?_)
            refine call_ 26 #[.int .i64 3, .pointer (some ⟨sb, 0, none⟩)] (by rfl) rfl (by first | (go_simp; done) | (go_simp; rfl)) ?_
            refine (NC.out 3 (by decide) (by decide) _ (pw_cell_below hHeld hbx)).mono ?_
            rintro en wn ⟨rfl, hd⟩
            refine ⟨_, rfl, ?_⟩
            have hS := below_step hHeld hd.below
            have hbox2 := blk_below hbox hd.below
            clear hbox
            have hbox := hbox2
            clear hbox2
            clear hd
            refine hK.out _ _ hS (fun _ => ?_)
            clear hK K hHeld
            have hHeld := hS
            clear hS
            refine norm_ (a' := ?_) ?_ ?_
            rotate_left
            · show Act.put _ (some 23) _ = _
              simp only [Act.put, List.setIfInBounds_toArray, List.set_cons_zero, List.set_cons_succ, i64_w, i32_w]
              rfl
            refine take_ (i := 13) (N := some 26) (v := ?_) (a' := ?_) #[true, true, true, true, true, true, true, true, true, true, true, true, true, true, true, false] rfl rfl (take_ofW HT_.out HW_.out (by kernel_rfl)) (fun _ _ _ h => h) (Or.inl ⟨by rfl, ?_⟩) hHeld ?_ ?_
            rotate_left
            · intro w' sg
              have s0 := pw_cell_below sg hbx
              go_simp
              with_reducible rfl
            rotate_left
            · simp only [Act.put, List.setIfInBounds_toArray, List.set_cons_zero, List.set_cons_succ, i64_w, i32_w]
              rfl
            exact norm_ (by first | (simp only [putAll, Act.put, List.setIfInBounds_toArray, List.set_cons_zero, List.set_cons_succ]; done) | (simp only [putAll, Act.put, List.setIfInBounds_toArray, List.set_cons_zero, List.set_cons_succ]; rfl)) (hjoin gb _ ⟨hbox, hgb, hHeld⟩)
        · refine box_step ?hg (N := 5) ?hd (cs := #[.int .i64 0, .int .i64 0, .int .i64 0, .int .i64 0, .int .i64 0, .string (⟨#[]⟩ : ByteArray)]) (t := 23) ?hr ?_; (case hd => rfl); (case hg => rfl); (case hr => first | (go_simp; done) | (go_simp; rfl))
          intro gb hg wn hbox hb
          have hS := below_step hHeld hb
          have hgb : W1.heap.size ≤ gb := by rw [hg]; exact hHeld.size
          clear hb hg
          refine hK.out _ _ hS (fun _ => ?_)
          clear hK K hHeld
          have hHeld := hS
          clear hS
          refine norm_ (a' := ?_) ?_ ?_
          rotate_left
          · show Act.put _ (some 5) _ = _
            simp only [Act.put, List.setIfInBounds_toArray, List.set_cons_zero, List.set_cons_succ, i64_w, i32_w]
            rfl
          refine one_ (i := 6) (N := some 19) #[true, true, true, true, true, true, true, true, false, true, false, true, true, false, true, false] rfl rfl (one_of HT_.out (by kernel_rfl)) (by decide) (fun K hK => ?_)
          refine call_ 26 #[.int .i64 1, .pointer (some ⟨sb, 0, none⟩)] (by rfl) rfl (by first | (go_simp; done) | (go_simp; rfl)) ?_
          refine (NC.out 1 (by decide) (by decide) _ (pw_cell_below hHeld hbx)).mono ?_
          rintro en wn ⟨rfl, hd⟩
          refine ⟨_, rfl, ?_⟩
          have hS := below_step hHeld hd.below
          have hbox2 := blk_below hbox hd.below
          clear hbox
          have hbox := hbox2
          clear hbox2
          clear hd
          refine hK.out _ _ hS (fun _ => ?_)
          clear hK K hHeld
          have hHeld := hS
          clear hS
          refine norm_ (a' := ?_) ?_ ?_
          rotate_left
          · show Act.put _ (some 19) _ = _
            simp only [Act.put, List.setIfInBounds_toArray, List.set_cons_zero, List.set_cons_succ, i64_w, i32_w]
            rfl
          refine one_ (i := 8) (N := some 21) #[true, true, true, true, true, true, true, true, true, true, false, true, true, false, true, false] rfl rfl (one_of HT_.out (by kernel_rfl)) (by decide) (fun K hK => ?_)
          refine call_ 26 #[.int .i64 2, .pointer (some ⟨sb, 0, none⟩)] (by rfl) rfl (by first | (go_simp; done) | (go_simp; rfl)) ?_
          refine (NC.out 2 (by decide) (by decide) _ (pw_cell_below hHeld hbx)).mono ?_
          rintro en wn ⟨rfl, hd⟩
          refine ⟨_, rfl, ?_⟩
          have hS := below_step hHeld hd.below
          have hbox2 := blk_below hbox hd.below
          clear hbox
          have hbox := hbox2
          clear hbox2
          clear hd
          refine hK.out _ _ hS (fun _ => ?_)
          clear hK K hHeld
          have hHeld := hS
          clear hS
          refine norm_ (a' := ?_) ?_ ?_
          rotate_left
          · show Act.put _ (some 21) _ = _
            simp only [Act.put, List.setIfInBounds_toArray, List.set_cons_zero, List.set_cons_succ, i64_w, i32_w]
            rfl
          refine one_ (i := 10) (N := some 23) #[true, true, true, true, true, true, true, true, true, true, true, true, true, false, true, false] rfl rfl (one_of HT_.out (by kernel_rfl)) (by decide) (fun K hK => ?_)
          refine call_ 26 #[.int .i64 3, .pointer (some ⟨sb, 0, none⟩)] (by rfl) rfl (by first | (go_simp; done) | (go_simp; rfl)) ?_
          refine (NC.out 3 (by decide) (by decide) _ (pw_cell_below hHeld hbx)).mono ?_
          rintro en wn ⟨rfl, hd⟩
          refine ⟨_, rfl, ?_⟩
          have hS := below_step hHeld hd.below
          have hbox2 := blk_below hbox hd.below
          clear hbox
          have hbox := hbox2
          clear hbox2
          clear hd
          refine hK.out _ _ hS (fun _ => ?_)
          clear hK K hHeld
          have hHeld := hS
          clear hS
          refine norm_ (a' := ?_) ?_ ?_
          rotate_left
          · show Act.put _ (some 23) _ = _
            simp only [Act.put, List.setIfInBounds_toArray, List.set_cons_zero, List.set_cons_succ, i64_w, i32_w]
            rfl
          refine take_ (i := 13) (N := some 26) (v := ?_) (a' := ?_) #[true, true, true, true, true, true, true, true, true, true, true, true, true, true, true, false] rfl rfl (take_ofW HT_.out HW_.out (by kernel_rfl)) (fun _ _ _ h => h) (Or.inl ⟨by rfl, ?_⟩) hHeld ?_ ?_
          rotate_left
          · intro w' sg
            have s0 := pw_cell_below sg hbx
            go_simp
            with_reducible rfl
          rotate_left
          · simp only [Act.put, List.setIfInBounds_toArray, List.set_cons_zero, List.set_cons_succ, i64_w, i32_w]
            rfl
          exact norm_ (by first | (simp only [putAll, Act.put, List.setIfInBounds_toArray, List.set_cons_zero, List.set_cons_succ]; done) | (simp only [putAll, Act.put, List.setIfInBounds_toArray, List.set_cons_zero, List.set_cons_succ]; rfl)) (hjoin gb _ ⟨hbox, hgb, hHeld⟩)
      · refine box_step ?hg (N := 5) ?hd (cs := #[.int .i64 0, .int .i64 0, .int .i64 0, .int .i64 0, .int .i64 0, .string (⟨#[]⟩ : ByteArray)]) (t := 23) ?hr ?_; (case hd => rfl); (case hg => rfl); (case hr => first | (go_simp; done) | (go_simp; rfl))
        intro gb hg wn hbox hb
        have hS := below_step hHeld hb
        have hgb : W1.heap.size ≤ gb := by rw [hg]; exact hHeld.size
        clear hb hg
        refine hK.out _ _ hS (fun _ => ?_)
        clear hK K hHeld
        have hHeld := hS
        clear hS
        refine norm_ (a' := ?_) ?_ ?_
        rotate_left
        · show Act.put _ (some 5) _ = _
          simp only [Act.put, List.setIfInBounds_toArray, List.set_cons_zero, List.set_cons_succ, i64_w, i32_w]
          rfl
        refine one_ (i := 4) (N := some 17) #[true, true, true, true, true, true, false, true, false, true, false, true, true, false, true, false] rfl rfl (one_of HT_.out (by kernel_rfl)) (by decide) (fun K hK => ?_)
        refine call_ 26 #[.int .i64 0, .pointer (some ⟨sb, 0, none⟩)] (by rfl) rfl (by first | (go_simp; done) | (go_simp; rfl)) ?_
        refine (NC.out 0 (by decide) (by decide) _ (pw_cell_below hHeld hbx)).mono ?_
        rintro en wn ⟨rfl, hd⟩
        refine ⟨_, rfl, ?_⟩
        have hS := below_step hHeld hd.below
        have hbox2 := blk_below hbox hd.below
        clear hbox
        have hbox := hbox2
        clear hbox2
        clear hd
        refine hK.out _ _ hS (fun _ => ?_)
        clear hK K hHeld
        have hHeld := hS
        clear hS
        refine norm_ (a' := ?_) ?_ ?_
        rotate_left
        · show Act.put _ (some 17) _ = _
          simp only [Act.put, List.setIfInBounds_toArray, List.set_cons_zero, List.set_cons_succ, i64_w, i32_w]
          rfl
        refine one_ (i := 6) (N := some 19) #[true, true, true, true, true, true, true, true, false, true, false, true, true, false, true, false] rfl rfl (one_of HT_.out (by kernel_rfl)) (by decide) (fun K hK => ?_)
        refine call_ 26 #[.int .i64 1, .pointer (some ⟨sb, 0, none⟩)] (by rfl) rfl (by first | (go_simp; done) | (go_simp; rfl)) ?_
        refine (NC.out 1 (by decide) (by decide) _ (pw_cell_below hHeld hbx)).mono ?_
        rintro en wn ⟨rfl, hd⟩
        refine ⟨_, rfl, ?_⟩
        have hS := below_step hHeld hd.below
        have hbox2 := blk_below hbox hd.below
        clear hbox
        have hbox := hbox2
        clear hbox2
        clear hd
        refine hK.out _ _ hS (fun _ => ?_)
        clear hK K hHeld
        have hHeld := hS
        clear hS
        refine norm_ (a' := ?_) ?_ ?_
        rotate_left
        · show Act.put _ (some 19) _ = _
          simp only [Act.put, List.setIfInBounds_toArray, List.set_cons_zero, List.set_cons_succ, i64_w, i32_w]
          rfl
        refine one_ (i := 8) (N := some 21) #[true, true, true, true, true, true, true, true, true, true, false, true, true, false, true, false] rfl rfl (one_of HT_.out (by kernel_rfl)) (by decide) (fun K hK => ?_)
        refine call_ 26 #[.int .i64 2, .pointer (some ⟨sb, 0, none⟩)] (by rfl) rfl (by first | (go_simp; done) | (go_simp; rfl)) ?_
        refine (NC.out 2 (by decide) (by decide) _ (pw_cell_below hHeld hbx)).mono ?_
        rintro en wn ⟨rfl, hd⟩
        refine ⟨_, rfl, ?_⟩
        have hS := below_step hHeld hd.below
        have hbox2 := blk_below hbox hd.below
        clear hbox
        have hbox := hbox2
        clear hbox2
        clear hd
        refine hK.out _ _ hS (fun _ => ?_)
        clear hK K hHeld
        have hHeld := hS
        clear hS
        refine norm_ (a' := ?_) ?_ ?_
        rotate_left
        · show Act.put _ (some 21) _ = _
          simp only [Act.put, List.setIfInBounds_toArray, List.set_cons_zero, List.set_cons_succ, i64_w, i32_w]
          rfl
        refine one_ (i := 10) (N := some 23) #[true, true, true, true, true, true, true, true, true, true, true, true, true, false, true, false] rfl rfl (one_of HT_.out (by kernel_rfl)) (by decide) (fun K hK => ?_)
        refine call_ 26 #[.int .i64 3, .pointer (some ⟨sb, 0, none⟩)] (by rfl) rfl (by first | (go_simp; done) | (go_simp; rfl)) ?_
        refine (NC.out 3 (by decide) (by decide) _ (pw_cell_below hHeld hbx)).mono ?_
        rintro en wn ⟨rfl, hd⟩
        refine ⟨_, rfl, ?_⟩
        have hS := below_step hHeld hd.below
        have hbox2 := blk_below hbox hd.below
        clear hbox
        have hbox := hbox2
        clear hbox2
        clear hd
        refine hK.out _ _ hS (fun _ => ?_)
        clear hK K hHeld
        have hHeld := hS
        clear hS
        refine norm_ (a' := ?_) ?_ ?_
        rotate_left
        · show Act.put _ (some 23) _ = _
          simp only [Act.put, List.setIfInBounds_toArray, List.set_cons_zero, List.set_cons_succ, i64_w, i32_w]
          rfl
        refine take_ (i := 13) (N := some 26) (v := ?_) (a' := ?_) #[true, true, true, true, true, true, true, true, true, true, true, true, true, true, true, false] rfl rfl (take_ofW HT_.out HW_.out (by kernel_rfl)) (fun _ _ _ h => h) (Or.inl ⟨by rfl, ?_⟩) hHeld ?_ ?_
        rotate_left
        · intro w' sg
          have s0 := pw_cell_below sg hbx
          go_simp
          with_reducible rfl
        rotate_left
        · simp only [Act.put, List.setIfInBounds_toArray, List.set_cons_zero, List.set_cons_succ, i64_w, i32_w]
          rfl
        exact norm_ (by first | (simp only [putAll, Act.put, List.setIfInBounds_toArray, List.set_cons_zero, List.set_cons_succ]; done) | (simp only [putAll, Act.put, List.setIfInBounds_toArray, List.set_cons_zero, List.set_cons_succ]; rfl)) (hjoin gb _ ⟨hbox, hgb, hHeld⟩)
    clear hHeld
    rintro gb w5 ⟨hbox, hgb, hHeld⟩
    refine norm_ (a' := ?_) ?_ ?_
    rotate_left
    · simp only [putAll, Act.put, List.setIfInBounds_toArray, List.set_cons_zero, List.set_cons_succ, i64_w, i32_w]
      rfl
    have AB := Aside0.mk (show w5.heap[gb]? = some (.cells zeroV.cells 23 (0, 0)) from hbox)
    obtain ⟨y0, y1, y2, y3, y4, y5, f0, f1, f2, f3, f4, f5⟩ := six_facts AB.out
    have HH := Aside0.mk hHeld
    have HGB := Aside0.mk hgb
    refine one_ (i := 15) (N := none) #[true, true, true, true, true, true, true, true, true, true, true, true, true, true, true, true] rfl rfl (one_of HT_.out (by kernel_rfl)) (by decide) (fun K hK => ?_)
    refine skip_ (w1 := sixSet w5 gb (getV s)) (by rfl) rfl (by first | (go_simp; done) | (go_simp; rfl)) (hK.out _ _ (six_below hHeld hgb) (fun _ => ?_))
    clear hK K y0 y1 y2 y3 y4 y5 f0 f1 f2 f3 f4 f5 hHeld hgb hbox
    refine done_ (done_of HT_.out (by kernel_rfl)) ?_
    have AB2 := Aside0.mk (six_blk (a := getV s) AB.out)
    have HH2 := Aside0.mk (six_below (a := getV s) HH.out HGB.out)
    obtain ⟨w6, hw6⟩ : ∃ w6, sixSet w5 gb (getV s) = w6 := ⟨_, rfl⟩
    rw [hw6] at AB2 HH2
    rw [hw6]
    clear hw6 AB HH
    obtain ⟨y0, y1, y2, y3, y4, y5, _⟩ := six_facts AB2.out
    clear p1 p2 p3 p4 b1 r0 r1 v1 v2 hbx
    go_wp2_with fail
    refine (PC.out _).mono ?_
    rintro en w7 ⟨rfl, hb⟩
    have HBN := Aside0.mk (below_step HB.out (below_step HH2.out hb))
    have RBN := Aside0.mk (blk_below (blk_below RB.out HH2.out) hb)
    have SBN := Aside0.mk (blk_below (blk_below SB.out HH2.out) hb)
    have ABN := Aside0.mk (blk_below AB2.out hb)
    have hbx : w7.cell? ⟨sb, 0, none⟩ = some (.string s) := blk_cell SBN.out 0
    clear hb HB RB SB y0 y1 y2 y3 y4 y5
    have RB := RBN
    have HB := HBN
    clear RBN HBN
    unfold putO
    cases hok : (getV s).ok with
    | false =>
      have HN : Aside0 (getOf s = none) := ⟨by rw [HGT.out, if_neg (fun h => by rw [hok] at h; cases h.1)]⟩
      clear hok
      obtain ⟨y0, y1, y2, y3, y4, y5, f0, f1, f2, f3, f4, f5⟩ := six_facts RB.out
      have hend := six_blk (a := zeroV) RB.out
      have hbl := six_below (a := zeroV) HB.out RG.out
      have HEND := Aside0.mk hend
      have HBL := Aside0.mk hbl
      clear hend hbl
      go_wp2_with fail
      refine bodyPost_ret (w := sixSet _ rb zeroV) (get_end (g := rb) (a0 := zeroV) _ none rfl rfl HEND.out) rfl ⟨?_, HBL.out⟩
      rw [HN.out]
    | true =>
      by_cases heq : (putK (getV s)).toList = s.toList
      · have HN : Aside0 (getOf s = some (getV s)) := ⟨by rw [HGT.out, if_pos ⟨hok, heq⟩]⟩
        have c2 : ((putK (getV s)).toList != s.toList) = false := bne_eq_false_iff_eq.2 heq
        have c3 : ((putK (getV s)).toList == s.toList) = true := beq_iff_eq.2 heq
        clear hok heq
        obtain ⟨z0, z1, z2, z3, z4, z5, _⟩ := six_facts ABN.out
        obtain ⟨y0, y1, y2, y3, y4, y5, f0, f1, f2, f3, f4, f5⟩ := six_facts RB.out
        have hend := six_blk (a := getV s) RB.out
        have hbl := six_below (a := getV s) HB.out RG.out
        have HEND := Aside0.mk hend
        have HBL := Aside0.mk hbl
        clear hend hbl
        go_wp2_with fail
        refine bodyPost_ret (w := sixSet _ rb (getV s)) (get_end (g := rb) (a0 := getV s) _ (some (getV s)) rfl rfl HEND.out) rfl ⟨?_, HBL.out⟩
        rw [HN.out]
      · have HN : Aside0 (getOf s = none) := ⟨by rw [HGT.out, if_neg (fun h => heq h.2)]⟩
        have c2 : ((putK (getV s)).toList != s.toList) = true := bne_iff_ne.2 heq
        have c3 : ((putK (getV s)).toList == s.toList) = false := beq_eq_false_iff_ne.2 heq
        clear hok heq
        obtain ⟨y0, y1, y2, y3, y4, y5, f0, f1, f2, f3, f4, f5⟩ := six_facts RB.out
        have hend := six_blk (a := zeroV) RB.out
        have hbl := six_below (a := zeroV) HB.out RG.out
        have HEND := Aside0.mk hend
        have HBL := Aside0.mk hbl
        clear hend hbl
        go_wp2_with fail
        refine bodyPost_ret (w := sixSet _ rb zeroV) (get_end (g := rb) (a0 := zeroV) _ none rfl rfl HEND.out) rfl ⟨?_, HBL.out⟩
        rw [HN.out]
end Go.Proofs.YtbmjekekpmabbaaDoor.P
