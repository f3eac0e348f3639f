/- Where a List comes in an order. Conditions: how the judge and the events lie in memory. (Printed by genwhere.py.) -/
import Derived.Test.YtgnmpfjpcdidjaaStO
set_option linter.unusedVariables false
set_option linter.unusedSimpArgs false
namespace Go.Proofs.Ytgnmpfjpcdidjaa.P
open Go.RowKit Go.Proofs.YtgnmpfjpcdidjaaW.PrintWords Go.Proofs.YtgnmpfjpcdidjaaW.PrintLast Go.Proofs.YtgnmpfjpcdidjaaW.PrintMore

def whereL.T4 : Bool × List (List Nat × List Nat) := (true, [([], []), ([0], [0]), ([1], [1]), ([2], [2]), ([], []), ([4], [4]), ([5], [5]), ([6], [6]), ([3, 7], [3, 7]), ([8, 0, 1, 2, 3, 4, 5, 6, 7, 8], [8])])
def whereL.B4 : List Nat := [0, 1, 3, 7, 0, 16, 48, 112, 255, 511]
theorem whereL.tab4 : rtab .any (opsOf Try.f13 4) = whereL.T4 := by kernel_rfl
theorem whereL.bits4 : waitsOk whereL.T4.2 whereL.B4 = true := by kernel_rfl
def whereL.T5 : Bool × List (List Nat × List Nat) := (true, [([], []), ([], []), ([1], [1]), ([0, 2], [0, 2]), ([], []), ([4], [4]), ([5], [5]), ([3, 6], [3, 6]), ([], []), ([8], [8]), ([9], [9]), ([10], [10]), ([0, 1, 2, 3, 4, 5, 6, 7], []), ([12, 7, 3, 0, 1, 2, 3, 4, 5, 6, 7], [7, 12]), ([0, 1, 2, 3, 4, 5, 6, 7, 8, 9, 10, 11, 12, 13], []), ([14, 11, 13, 0, 1, 2, 3, 4, 5, 6, 7, 8, 9, 10, 11, 12, 13], [11, 14])])
def whereL.B5 : List Nat := [0, 0, 2, 7, 0, 16, 48, 127, 0, 256, 768, 1792, 255, 4351, 16383, 32767]
theorem whereL.tab5 : rtab .any (opsOf Try.f13 5) = whereL.T5 := by kernel_rfl
theorem whereL.bits5 : waitsOk whereL.T5.2 whereL.B5 = true := by kernel_rfl
def whereL.T11 : Bool × List (List Nat × List Nat) := (true, [([], []), ([0], [0]), ([1], [1]), ([2], [2]), ([3], [3]), ([4, 3], [3, 4]), ([5, 3, 3], [3, 5]), ([6], [6]), ([7, 6], [6, 7]), ([8, 6], [6, 8]), ([9, 6], [6, 9]), ([6], [6]), ([11, 6], [6, 11]), ([10, 12, 6], [6, 10, 12]), ([6, 13, 3], [3, 6, 13]), ([3, 14], [3, 14]), ([15, 6], [15])])
def whereL.B11 : List Nat := [0, 1, 3, 7, 15, 31, 63, 127, 255, 511, 1023, 127, 2175, 8191, 16383, 32767, 65535]
theorem whereL.tab11 : rtab .any (opsOf Try.f13 11) = whereL.T11 := by kernel_rfl
theorem whereL.bits11 : waitsOk whereL.T11.2 whereL.B11 = true := by kernel_rfl
set_option maxRecDepth 100000 in
set_option maxHeartbeats 8000000 in
theorem where_calls (m m0 : Int) (jb gv mb : Nat) (n : Int) (g c : Nat) (w : World) (hj : JOk w jb gv mb n) (hg : w.rangeAt g 0 (evA false m0)) : Calls Try.prog 13 #[.pointer (some ⟨jb, 0, none⟩), .agg (deedL m).toArray, .slice (some ⟨g, 0, none⟩) 2 c] w fun e w' => e = .returned (.agg #[.int .i64 1, .bool false, .int .i64 1, .int .i64 1]) ∧ Below w.heap.size w w' := by
  obtain ⟨X, hX⟩ : ∃ X, (((((w.alloc (.cells (deedL m).toArray 53)).alloc (.cells #[.slice (some ⟨g, 0, none⟩) 2 c] 41)).alloc (.cells #[.int .i64 0, .bool false, .int .i64 0, .int .i64 0] 55)).alloc (.cells (repL m).toArray 31)).alloc (.cells #[.int .i64 1, .bool false, .int .i64 0, .int .i64 1] 55)) = X := ⟨_, rfl⟩
  have hb0 : Below w.heap.size w X := by rw [← hX]; exact below_alloc (below_alloc (below_alloc (below_alloc (below_alloc (Below.refl _ _) _) _) _) _) _
  have hD : X.rangeAt w.heap.size 0 (deedL m) := by rw [← hX]; exact ra_alloc _ (ra_alloc _ (ra_alloc _ (ra_alloc _ (ra_last rfl))))
  have hL : X.cell? ⟨w.heap.size + 1, 0, none⟩ = some (.slice (some ⟨g, 0, none⟩) 2 c) := by rw [← hX]; exact blk_cell' (blk_alloc _ (blk_alloc _ (blk_alloc _ (blk_last (by go_simp))))) 0
  have hO : X.heap[w.heap.size + 2]? = some (.cells #[.int .i64 0, .bool false, .int .i64 0, .int .i64 0] 55 (0, 0)) := by rw [← hX]; exact blk_alloc _ (blk_alloc _ (blk_last (by go_simp)))
  have hR : X.rangeAt (w.heap.size + 3) 0 (repL m) := by rw [← hX]; exact ra_alloc _ (ra_last (by go_simp))
  have hP : X.heap[w.heap.size + 4]? = some (.cells #[.int .i64 1, .bool false, .int .i64 0, .int .i64 1] 55 (0, 0)) := by rw [← hX]; exact blk_last (by go_simp)
  have HR1 := Aside0.mk (show (((w.alloc (.cells (deedL m).toArray 53)).alloc (.cells #[.slice (some ⟨g, 0, none⟩) 2 c] 41)).alloc (.cells #[.int .i64 0, .bool false, .int .i64 0, .int .i64 0] 55)).rangeAt w.heap.size 11 (repL m) from ra_alloc _ (ra_alloc _ (deed_rep (ra_last rfl))))
  have HX := Aside0.mk hX
  have HD := Aside0.mk hD
  have HL := Aside0.mk hL
  have HO := Aside0.mk hO
  have HR := Aside0.mk hR
  have HP := Aside0.mk hP
  have HB := Aside0.mk hb0
  have HJ := Aside0.mk (show JOk X jb gv mb n from hj.below (hb0))
  have HG := Aside0.mk hg
  have CH := Aside0.mk (fun W => changes_calls m W)
  have mo := max_one
  clear hX hD hL hO hR hP hb0 hj hg
  unfold deedL repL at HX HR1
  unfold deedL at CH ⊢
  go_enter Try.func13, Try.ntmps13
  go_wp2_with (first
    | (refine wpList_load_mid rfl 31 (.tmp 12) rfl w.heap.size 11 rfl _ _ HR1.out Try.underlying31 rfl (by kernel_rfl) ?_)
    | (refine wpList_store_row rfl 31 (.tmp 7) (.tmp 13) rfl (w.heap.size + 3) _ rfl rfl 31 _ (blk_last (by go_simp)) (by kernel_rfl) rfl (by simp [Value.oneCell']) ?_; rw [row_last (by go_simp)])
    | (refine wpList_store_row rfl 55 (.tmp 8) (.tmp 18) rfl (w.heap.size + 4) _ rfl rfl 55 _ (blk_last (by go_simp)) (by kernel_rfl) rfl (by simp [Value.oneCell']) ?_; rw [row_last (by go_simp)]))
  rw [HX.out]
  clear HR1 HX
  have j1 : X.cell? ⟨jb, 1, none⟩ = some (.map (some mb)) := HJ.out.row 1 _ rfl
  have d9 : X.cell? ⟨w.heap.size, 9, none⟩ = some (.int .i64 0) := HD.out 9 _ rfl
  refine start_ (n := 10) (S := fun w' => Below X.heap.size X w') (ds := []) #[false, false, false, false, false, false, false, false, false, false] (by kernel_rfl) rfl rfl (below_drew1 (Below.refl _ _)) (fun hHeld => ?_)
  refine with_tabW whereL.tab4 whereL.bits4 (fun HT_ HW_ => ?_)
  refine take_ (i := 0) (N := some 20) (v := ?_) (a' := ?_) #[true, false, false, false, false, false, false, false, false, false] rfl rfl (take_ofW HT_.out HW_.out (by kernel_rfl)) (fun _ _ _ h => h) (Or.inl ⟨by rfl, ?_⟩) hHeld ?_ ?_
  rotate_left
  · intro w' s
    go_simp
    with_reducible rfl
  rotate_left
  · simp only [Act.put, List.setIfInBounds_toArray, List.set_cons_zero, List.set_cons_succ, i64_w, i32_w]
    rfl
  refine take_ (i := 1) (N := some 21) (v := ?_) (a' := ?_) #[true, true, false, false, false, false, false, false, false, false] rfl rfl (take_ofW HT_.out HW_.out (by kernel_rfl)) (fun _ _ _ h => h) (Or.inl ⟨by rfl, ?_⟩) hHeld ?_ ?_
  rotate_left
  · intro w' s
    go_simp
    with_reducible rfl
  rotate_left
  · simp only [Act.put, List.setIfInBounds_toArray, List.set_cons_zero, List.set_cons_succ, i64_w, i32_w]
    rfl
  refine take_ (i := 2) (N := some 22) (v := ?_) (a' := ?_) #[true, true, true, false, false, false, false, false, false, false] rfl rfl (take_ofW HT_.out HW_.out (by kernel_rfl)) (fun _ _ _ h => h) (Or.inl ⟨by rfl, ?_⟩) hHeld ?_ ?_
  rotate_left
  · intro w' s
    go_simp
    with_reducible rfl
  rotate_left
  · simp only [Act.put, List.setIfInBounds_toArray, List.set_cons_zero, List.set_cons_succ, i64_w, i32_w]
    rfl
  refine take_ (i := 3) (N := some 23) (v := ?_) (a' := ?_) #[true, true, true, true, false, false, false, false, false, false] rfl rfl (take_ofW HT_.out HW_.out (by kernel_rfl)) (fun _ _ _ h => h) (Or.inl ⟨by rfl, ?_⟩) hHeld ?_ ?_
  rotate_left
  · intro w' s
    have s0 := pw_cell_below s j1
    go_simp
    with_reducible rfl
  rotate_left
  · simp only [Act.put, List.setIfInBounds_toArray, List.set_cons_zero, List.set_cons_succ, i64_w, i32_w]
    rfl
  refine take_ (i := 4) (N := some 24) (v := ?_) (a' := ?_) #[true, true, true, true, true, false, false, false, false, false] rfl rfl (take_ofW HT_.out HW_.out (by kernel_rfl)) (fun _ _ _ h => h) (Or.inl ⟨by rfl, ?_⟩) hHeld ?_ ?_
  rotate_left
  · intro w' s
    go_simp
    with_reducible rfl
  rotate_left
  · simp only [Act.put, List.setIfInBounds_toArray, List.set_cons_zero, List.set_cons_succ, i64_w, i32_w]
    rfl
  refine take_ (i := 5) (N := some 25) (v := ?_) (a' := ?_) #[true, true, true, true, true, true, false, false, false, false] rfl rfl (take_ofW HT_.out HW_.out (by kernel_rfl)) (fun _ _ _ h => h) (Or.inl ⟨by rfl, ?_⟩) hHeld ?_ ?_
  rotate_left
  · intro w' s
    go_simp
    with_reducible rfl
  rotate_left
  · simp only [Act.put, List.setIfInBounds_toArray, List.set_cons_zero, List.set_cons_succ, i64_w, i32_w]
    rfl
  refine take_ (i := 6) (N := some 26) (v := ?_) (a' := ?_) #[true, true, true, true, true, true, true, false, false, false] rfl rfl (take_ofW HT_.out HW_.out (by kernel_rfl)) (fun _ _ _ h => h) (Or.inl ⟨by rfl, ?_⟩) hHeld ?_ ?_
  rotate_left
  · intro w' s
    go_simp
    with_reducible rfl
  rotate_left
  · simp only [Act.put, List.setIfInBounds_toArray, List.set_cons_zero, List.set_cons_succ, i64_w, i32_w]
    rfl
  refine take_ (i := 7) (N := some 27) (v := ?_) (a' := ?_) #[true, true, true, true, true, true, true, true, false, false] rfl rfl (take_ofW HT_.out HW_.out (by kernel_rfl)) (fun _ _ _ h => h) (Or.inl ⟨by rfl, ?_⟩) hHeld ?_ ?_
  rotate_left
  · intro w' s
    have s0 := pw_cell_below s d9
    go_simp
    with_reducible rfl
  rotate_left
  · simp only [Act.put, List.setIfInBounds_toArray, List.set_cons_zero, List.set_cons_succ, i64_w, i32_w]
    rfl
  refine take_ (i := 8) (N := some 28) (v := ?_) (a' := ?_) #[true, true, true, true, true, true, true, true, true, false] rfl rfl (take_ofW HT_.out HW_.out (by kernel_rfl)) (fun _ _ _ h => h) (Or.inl ⟨by rfl, ?_⟩) hHeld ?_ ?_
  rotate_left
  · intro w' s
    have s0 := look_pins mb 0 w' (blk_below HJ.out.pins s)
    go_simp
    with_reducible rfl
  rotate_left
  · simp only [Act.put, List.setIfInBounds_toArray, List.set_cons_zero, List.set_cons_succ, i64_w, i32_w]
    rfl
  refine take_ (i := 9) (N := some 10) (v := ?_) (a' := ?_) #[true, true, true, true, true, true, true, true, true, true] rfl rfl (take_ofW HT_.out HW_.out (by kernel_rfl)) (fun _ _ _ h => h) (Or.inl ⟨by rfl, ?_⟩) hHeld ?_ ?_
  rotate_left
  · intro w' s
    go_simp
    with_reducible rfl
  rotate_left
  · simp only [Act.put, List.setIfInBounds_toArray, List.set_cons_zero, List.set_cons_succ, i64_w, i32_w]
    rfl
  refine done_ (done_of HT_.out (by kernel_rfl)) ?_
  obtain ⟨X1, hX1⟩ : ∃ W, X.drew = W := ⟨_, rfl⟩
  rw [hX1] at hHeld ⊢
  clear hX1 j1 d9
  try clear HT_ HW_
  have HB1 := Aside0.mk (below_step HB.out hHeld)
  have HD1 := Aside0.mk (ra_below HD.out hHeld)
  have HL1 := Aside0.mk (pw_cell_below hHeld HL.out)
  have HO1 := Aside0.mk (blk_below HO.out hHeld)
  have HR1 := Aside0.mk (ra_below HR.out hHeld)
  have HP1 := Aside0.mk (blk_below HP.out hHeld)
  clear hHeld
  have HE1 := Aside0.mk HD1.out
  unfold deedL at HE1
  go_wp2_with (first | (refine wpList_load_mid rfl 53 (.tmp 4) rfl w.heap.size 0 rfl _ _ HE1.out Try.underlying53 rfl (by kernel_rfl) ?_))
  refine (CH.out _).mono ?_
  rintro en w2 ⟨rfl, hb⟩
  have HB2 := Aside0.mk (below_step HB1.out hb)
  have HD2 := Aside0.mk (ra_below HD1.out hb)
  have HL2 := Aside0.mk (pw_cell_below hb HL1.out)
  have HO2 := Aside0.mk (blk_below HO1.out hb)
  have HR2 := Aside0.mk (ra_below HR1.out hb)
  have HP2 := Aside0.mk (blk_below HP1.out hb)
  clear hb
  have d5 : w2.cell? ⟨w.heap.size, 5, none⟩ = some (.int .i64 6) := HD2.out 5 _ rfl
  have r0 : w2.cell? ⟨w.heap.size + 3, 0, none⟩ = some (.int .i64 0) := HR2.out 0 _ rfl
  go_wp2_with fail
  refine start_ (n := 17) (S := fun w' => Below w2.heap.size w2 w') (ds := []) #[false, false, false, false, false, false, false, false, false, false, false, false, false, false, false, false, false] (by kernel_rfl) rfl rfl (below_drew1 (Below.refl _ _)) (fun hHeld => ?_)
  refine with_tabW whereL.tab11 whereL.bits11 (fun HT_ HW_ => ?_)
  refine take_ (i := 0) (N := some 84) (v := ?_) (a' := ?_) #[true, false, false, false, false, false, false, false, false, false, false, false, false, false, false, false, false] rfl rfl (take_ofW HT_.out HW_.out (by kernel_rfl)) (fun _ _ _ h => h) (Or.inl ⟨by rfl, ?_⟩) hHeld ?_ ?_
  rotate_left
  · intro w' s
    go_simp
    with_reducible rfl
  rotate_left
  · simp only [Act.put, List.setIfInBounds_toArray, List.set_cons_zero, List.set_cons_succ, i64_w, i32_w]
    rfl
  refine take_ (i := 1) (N := some 85) (v := ?_) (a' := ?_) #[true, true, false, false, false, false, false, false, false, false, false, false, false, false, false, false, false] rfl rfl (take_ofW HT_.out HW_.out (by kernel_rfl)) (fun _ _ _ h => h) (Or.inl ⟨by rfl, ?_⟩) hHeld ?_ ?_
  rotate_left
  · intro w' s
    have s0 := pw_cell_below s r0
    go_simp
    with_reducible rfl
  rotate_left
  · simp only [Act.put, List.setIfInBounds_toArray, List.set_cons_zero, List.set_cons_succ, i64_w, i32_w]
    rfl
  refine take_ (i := 2) (N := some 86) (v := ?_) (a' := ?_) #[true, true, true, false, false, false, false, false, false, false, false, false, false, false, false, false, false] rfl rfl (take_ofW HT_.out HW_.out (by kernel_rfl)) (fun _ _ _ h => h) (Or.inl ⟨by rfl, ?_⟩) hHeld ?_ ?_
  rotate_left
  · intro w' s
    go_simp
    with_reducible rfl
  rotate_left
  · simp only [Act.put, List.setIfInBounds_toArray, List.set_cons_zero, List.set_cons_succ, i64_w, i32_w]
    rfl
  refine take_ (i := 3) (N := some 87) (v := ?_) (a' := ?_) #[true, true, true, true, false, false, false, false, false, false, false, false, false, false, false, false, false] rfl rfl (take_ofW HT_.out HW_.out (by kernel_rfl)) (fun _ _ _ h => h) (Or.inl ⟨by rfl, ?_⟩) hHeld ?_ ?_
  rotate_left
  · intro w' s
    go_simp
    with_reducible rfl
  rotate_left
  · simp only [Act.put, List.setIfInBounds_toArray, List.set_cons_zero, List.set_cons_succ, i64_w, i32_w]
    rfl
  refine take_ (i := 4) (N := some 88) (v := undef) (a' := ?_) #[true, true, true, true, true, false, false, false, false, false, false, false, false, false, false, false, false] rfl rfl (take_ofW HT_.out HW_.out (by kernel_rfl)) (fun _ _ _ h => h) (Or.inr ⟨by rfl, rfl⟩) hHeld ?_ ?_
  rotate_left
  · simp only [Act.put, List.setIfInBounds_toArray, List.set_cons_zero, List.set_cons_succ, i64_w, i32_w]
    rfl
  refine take_ (i := 5) (N := some 89) (v := undef) (a' := ?_) #[true, true, true, true, true, true, false, false, false, false, false, false, false, false, false, false, false] rfl rfl (take_ofW HT_.out HW_.out (by kernel_rfl)) (fun _ _ _ h => h) (Or.inr ⟨by rfl, rfl⟩) hHeld ?_ ?_
  rotate_left
  · simp only [Act.put, List.setIfInBounds_toArray, List.set_cons_zero, List.set_cons_succ, i64_w, i32_w]
    rfl
  refine take_ (i := 6) (N := some 90) (v := undef) (a' := ?_) #[true, true, true, true, true, true, true, false, false, false, false, false, false, false, false, false, false] rfl rfl (take_ofW HT_.out HW_.out (by kernel_rfl)) (fun _ _ _ h => h) (Or.inr ⟨by rfl, rfl⟩) hHeld ?_ ?_
  rotate_left
  · simp only [Act.put, List.setIfInBounds_toArray, List.set_cons_zero, List.set_cons_succ, i64_w, i32_w]
    rfl
  refine take_ (i := 7) (N := some 91) (v := undef) (a' := ?_) #[true, true, true, true, true, true, true, true, false, false, false, false, false, false, false, false, false] rfl rfl (take_ofW HT_.out HW_.out (by kernel_rfl)) (fun _ _ _ h => h) (Or.inr ⟨by rfl, rfl⟩) hHeld ?_ ?_
  rotate_left
  · simp only [Act.put, List.setIfInBounds_toArray, List.set_cons_zero, List.set_cons_succ, i64_w, i32_w]
    rfl
  refine take_ (i := 8) (N := some 92) (v := undef) (a' := ?_) #[true, true, true, true, true, true, true, true, true, false, false, false, false, false, false, false, false] rfl rfl (take_ofW HT_.out HW_.out (by kernel_rfl)) (fun _ _ _ h => h) (Or.inr ⟨by rfl, rfl⟩) hHeld ?_ ?_
  rotate_left
  · simp only [Act.put, List.setIfInBounds_toArray, List.set_cons_zero, List.set_cons_succ, i64_w, i32_w]
    rfl
  refine take_ (i := 9) (N := some 93) (v := undef) (a' := ?_) #[true, true, true, true, true, true, true, true, true, true, false, false, false, false, false, false, false] rfl rfl (take_ofW HT_.out HW_.out (by kernel_rfl)) (fun _ _ _ h => h) (Or.inr ⟨by rfl, rfl⟩) hHeld ?_ ?_
  rotate_left
  · simp only [Act.put, List.setIfInBounds_toArray, List.set_cons_zero, List.set_cons_succ, i64_w, i32_w]
    rfl
  refine take_ (i := 10) (N := some 94) (v := undef) (a' := ?_) #[true, true, true, true, true, true, true, true, true, true, true, false, false, false, false, false, false] rfl rfl (take_ofW HT_.out HW_.out (by kernel_rfl)) (fun _ _ _ h => h) (Or.inr ⟨by rfl, rfl⟩) hHeld ?_ ?_
  rotate_left
  · simp only [Act.put, List.setIfInBounds_toArray, List.set_cons_zero, List.set_cons_succ, i64_w, i32_w]
    rfl
  refine take_ (i := 11) (N := some 95) (v := undef) (a' := ?_) #[true, true, true, true, true, true, true, true, true, true, true, true, false, false, false, false, false] rfl rfl (take_ofW HT_.out HW_.out (by kernel_rfl)) (fun _ _ _ h => h) (Or.inr ⟨by rfl, rfl⟩) hHeld ?_ ?_
  rotate_left
  · simp only [Act.put, List.setIfInBounds_toArray, List.set_cons_zero, List.set_cons_succ, i64_w, i32_w]
    rfl
  refine take_ (i := 12) (N := some 96) (v := undef) (a' := ?_) #[true, true, true, true, true, true, true, true, true, true, true, true, true, false, false, false, false] rfl rfl (take_ofW HT_.out HW_.out (by kernel_rfl)) (fun _ _ _ h => h) (Or.inr ⟨by rfl, rfl⟩) hHeld ?_ ?_
  rotate_left
  · simp only [Act.put, List.setIfInBounds_toArray, List.set_cons_zero, List.set_cons_succ, i64_w, i32_w]
    rfl
  refine take_ (i := 13) (N := some 97) (v := undef) (a' := ?_) #[true, true, true, true, true, true, true, true, true, true, true, true, true, true, false, false, false] rfl rfl (take_ofW HT_.out HW_.out (by kernel_rfl)) (fun _ _ _ h => h) (Or.inr ⟨by rfl, rfl⟩) hHeld ?_ ?_
  rotate_left
  · simp only [Act.put, List.setIfInBounds_toArray, List.set_cons_zero, List.set_cons_succ, i64_w, i32_w]
    rfl
  refine take_ (i := 14) (N := some 98) (v := undef) (a' := ?_) #[true, true, true, true, true, true, true, true, true, true, true, true, true, true, true, false, false] rfl rfl (take_ofW HT_.out HW_.out (by kernel_rfl)) (fun _ _ _ h => h) (Or.inr ⟨by rfl, rfl⟩) hHeld ?_ ?_
  rotate_left
  · simp only [Act.put, List.setIfInBounds_toArray, List.set_cons_zero, List.set_cons_succ, i64_w, i32_w]
    rfl
  refine take_ (i := 15) (N := some 99) (v := ?_) (a' := ?_) #[true, true, true, true, true, true, true, true, true, true, true, true, true, true, true, true, false] rfl rfl (take_ofW HT_.out HW_.out (by kernel_rfl)) (fun _ _ _ h => h) (Or.inl ⟨by rfl, ?_⟩) hHeld ?_ ?_
  rotate_left
  · intro w' s
    go_simp
    with_reducible rfl
  rotate_left
  · simp only [Act.put, List.setIfInBounds_toArray, List.set_cons_zero, List.set_cons_succ, i64_w, i32_w]
    rfl
  refine take_ (i := 16) (N := some 83) (v := ?_) (a' := ?_) #[true, true, true, true, true, true, true, true, true, true, true, true, true, true, true, true, true] rfl rfl (take_ofW HT_.out HW_.out (by kernel_rfl)) (fun _ _ _ h => h) (Or.inl ⟨by rfl, ?_⟩) hHeld ?_ ?_
  rotate_left
  · intro w' s
    go_simp
    with_reducible rfl
  rotate_left
  · simp only [Act.put, List.setIfInBounds_toArray, List.set_cons_zero, List.set_cons_succ, i64_w, i32_w]
    rfl
  refine done_ (done_of HT_.out (by kernel_rfl)) ?_
  obtain ⟨X3, hX3⟩ : ∃ W, w2.drew = W := ⟨_, rfl⟩
  rw [hX3] at hHeld ⊢
  clear hX3 d5 r0
  try clear HT_ HW_
  have HB3 := Aside0.mk (below_step HB2.out hHeld)
  have HD3 := Aside0.mk (ra_below HD2.out hHeld)
  have HL3 := Aside0.mk (pw_cell_below hHeld HL2.out)
  have HO3 := Aside0.mk (blk_below HO2.out hHeld)
  have HR3 := Aside0.mk (ra_below HR2.out hHeld)
  have HP3 := Aside0.mk (blk_below HP2.out hHeld)
  clear hHeld
  have d9 : X3.cell? ⟨w.heap.size, 9, none⟩ = some (.int .i64 0) := HD3.out 9 _ rfl
  have r0 : X3.cell? ⟨w.heap.size + 3, 0, none⟩ = some (.int .i64 0) := HR3.out 0 _ rfl
  go_wp2_with fail
  clear d9 r0
  have c1 : X3.cell? ⟨w.heap.size + 3, 1, none⟩ = some (.int .i64 0) := HR3.out 1 _ rfl
  have c0 : X3.cell? ⟨w.heap.size, 0, none⟩ = some (.int .i64 0) := HD3.out 0 _ rfl
  have hd := (below_drew1 (Below.refl X3.heap.size X3))
  refine start_ (n := 16) (S := fun w' => w'.cell? ⟨w.heap.size + 3, 1, none⟩ = some (.int .i64 0) ∧ w'.cell? ⟨w.heap.size, 0, none⟩ = some (.int .i64 0)) (ds := []) #[false, false, false, false, false, false, false, false, false, false, false, false, false, false, false, false] (by kernel_rfl) rfl rfl ⟨pw_cell_below (below_drew1 (Below.refl _ _)) c1, pw_cell_below (below_drew1 (Below.refl _ _)) c0⟩ (fun hHeld => ?_)
  refine with_tabW whereL.tab5 whereL.bits5 (fun HT_ HW_ => ?_)
  refine take_ (i := 0) (N := some 29) (v := ?_) (a' := ?_) #[true, false, false, false, false, false, false, false, false, false, false, false, false, false, false, false] rfl rfl (take_ofW HT_.out HW_.out (by kernel_rfl)) (fun _ _ _ h => h) (Or.inl ⟨by rfl, ?_⟩) hHeld ?_ ?_
  rotate_left
  · intro w' s
    go_simp
    with_reducible rfl
  rotate_left
  · simp only [Act.put, List.setIfInBounds_toArray, List.set_cons_zero, List.set_cons_succ, i64_w, i32_w]
    rfl
  refine take_ (i := 1) (N := some 30) (v := ?_) (a' := ?_) #[true, true, false, false, false, false, false, false, false, false, false, false, false, false, false, false] rfl rfl (take_ofW HT_.out HW_.out (by kernel_rfl)) (fun _ _ _ h => h) (Or.inl ⟨by rfl, ?_⟩) hHeld ?_ ?_
  rotate_left
  · intro w' s
    go_simp
    with_reducible rfl
  rotate_left
  · simp only [Act.put, List.setIfInBounds_toArray, List.set_cons_zero, List.set_cons_succ, i64_w, i32_w]
    rfl
  refine take_ (i := 2) (N := some 31) (v := ?_) (a' := ?_) #[true, true, true, false, false, false, false, false, false, false, false, false, false, false, false, false] rfl rfl (take_ofW HT_.out HW_.out (by kernel_rfl)) (fun _ _ _ h => h) (Or.inl ⟨by rfl, ?_⟩) hHeld ?_ ?_
  rotate_left
  · intro w' s
    have s0 := s.1
    go_simp
    with_reducible rfl
  rotate_left
  · simp only [Act.put, List.setIfInBounds_toArray, List.set_cons_zero, List.set_cons_succ, i64_w, i32_w]
    rfl
  refine take_ (i := 4) (N := some 33) (v := ?_) (a' := ?_) #[true, true, true, false, true, false, false, false, false, false, false, false, false, false, false, false] rfl rfl (take_ofW HT_.out HW_.out (by kernel_rfl)) (fun _ _ _ h => h) (Or.inl ⟨by rfl, ?_⟩) hHeld ?_ ?_
  rotate_left
  · intro w' s
    go_simp
    with_reducible rfl
  rotate_left
  · simp only [Act.put, List.setIfInBounds_toArray, List.set_cons_zero, List.set_cons_succ, i64_w, i32_w]
    rfl
  refine take_ (i := 5) (N := some 34) (v := ?_) (a' := ?_) #[true, true, true, false, true, true, false, false, false, false, false, false, false, false, false, false] rfl rfl (take_ofW HT_.out HW_.out (by kernel_rfl)) (fun _ _ _ h => h) (Or.inl ⟨by rfl, ?_⟩) hHeld ?_ ?_
  rotate_left
  · intro w' s
    have s0 := s.2
    go_simp
    with_reducible rfl
  rotate_left
  · simp only [Act.put, List.setIfInBounds_toArray, List.set_cons_zero, List.set_cons_succ, i64_w, i32_w]
    rfl
  refine take_ (i := 6) (N := some 35) (v := (.int .i64 1)) (a' := ?_) #[true, true, true, false, true, true, true, false, false, false, false, false, false, false, false, false] rfl rfl (take_ofW HT_.out HW_.out (by kernel_rfl)) (fun _ _ _ h => h) (Or.inl ⟨by rfl, ?_⟩) hHeld ?_ ?_
  · intro w' s
    go_simp
    rfl
  rotate_left
  · simp only [Act.put, List.setIfInBounds_toArray, List.set_cons_zero, List.set_cons_succ, i64_w, i32_w]
    rfl
  refine take_ (i := 8) (N := some 37) (v := ?_) (a' := ?_) #[true, true, true, false, true, true, true, false, true, false, false, false, false, false, false, false] rfl rfl (take_ofW HT_.out HW_.out (by kernel_rfl)) (fun _ _ _ h => h) (Or.inl ⟨by rfl, ?_⟩) hHeld ?_ ?_
  rotate_left
  · intro w' s
    go_simp
    with_reducible rfl
  rotate_left
  · simp only [Act.put, List.setIfInBounds_toArray, List.set_cons_zero, List.set_cons_succ, i64_w, i32_w]
    rfl
  refine take_ (i := 9) (N := some 38) (v := ?_) (a' := ?_) #[true, true, true, false, true, true, true, false, true, true, false, false, false, false, false, false] rfl rfl (take_ofW HT_.out HW_.out (by kernel_rfl)) (fun _ _ _ h => h) (Or.inl ⟨by rfl, ?_⟩) hHeld ?_ ?_
  rotate_left
  · intro w' s
    have s0 := s.1
    go_simp
    with_reducible rfl
  rotate_left
  · simp only [Act.put, List.setIfInBounds_toArray, List.set_cons_zero, List.set_cons_succ, i64_w, i32_w]
    rfl
  refine take_ (i := 10) (N := some 39) (v := (.int .i64 0)) (a' := ?_) #[true, true, true, false, true, true, true, false, true, true, true, false, false, false, false, false] rfl rfl (take_ofW HT_.out HW_.out (by kernel_rfl)) (fun _ _ _ h => h) (Or.inl ⟨by rfl, ?_⟩) hHeld ?_ ?_
  · intro w' s
    go_simp
    rfl
  rotate_left
  · simp only [Act.put, List.setIfInBounds_toArray, List.set_cons_zero, List.set_cons_succ, i64_w, i32_w]
    rfl
  refine take_ (i := 11) (N := some 40) (v := (.int .i64 1)) (a' := ?_) #[true, true, true, false, true, true, true, false, true, true, true, true, false, false, false, false] rfl rfl (take_ofW HT_.out HW_.out (by kernel_rfl)) (fun _ _ _ h => h) (Or.inl ⟨by rfl, ?_⟩) hHeld ?_ ?_
  · intro w' s
    go_simp
    rfl
  rotate_left
  · simp only [Act.put, List.setIfInBounds_toArray, List.set_cons_zero, List.set_cons_succ, i64_w, i32_w]
    rfl
  refine one_ (i := 3) (N := some 32) #[true, true, true, true, true, true, true, false, true, true, true, true, false, false, false, false] rfl rfl (one_of HT_.out (by kernel_rfl)) (by decide) (fun K hK => ?_)
  refine goesC_ Try.func30 (by kernel_rfl) rfl #[.int .i64 0] #[.pointer (some ⟨w.heap.size + 1, 0, none⟩)] (by rfl) rfl rfl rfl (by simp only [List.map_toArray, List.map_cons, List.map_nil]; rfl) ?_
  refine (begun_calls m0 g c (w.heap.size + 1) _ (fun j v hj => pw_cell_below (below_step HB3.out hd) (HG.out j v hj)) (pw_cell_below hd HL3.out)).mono ?_
  rintro en w6 ⟨rfl, hb⟩
  refine ⟨_, rfl, ?_⟩
  have h6 := below_step hd hb
  refine hK.out _ _ ⟨pw_cell_below h6 c1, pw_cell_below h6 c0⟩ (fun hHeld => ?_)
  clear hK K
  refine norm_ (a' := ?_) ?_ ?_
  rotate_left
  · show Act.put _ (some 32) _ = _
    simp only [Act.put, List.setIfInBounds_toArray, List.set_cons_zero, List.set_cons_succ, i64_w, i32_w]
    rfl
  refine take_ (i := 7) (N := some 36) (v := ?_) (a' := ?_) #[true, true, true, true, true, true, true, true, true, true, true, true, false, false, false, false] rfl rfl (take_ofW HT_.out HW_.out (by kernel_rfl)) (fun _ _ _ h => h) (Or.inl ⟨by rfl, ?_⟩) hHeld ?_ ?_
  rotate_left
  · intro w' s
    have s0 := mo w'
    go_simp
    with_reducible rfl
  rotate_left
  · simp only [Act.put, List.setIfInBounds_toArray, List.set_cons_zero, List.set_cons_succ, i64_w, i32_w]
    rfl
  refine take_ (i := 12) (N := some 41) (v := ?_) (a' := ?_) #[true, true, true, true, true, true, true, true, true, true, true, true, true, false, false, false] rfl rfl (take_ofW HT_.out HW_.out (by kernel_rfl)) (fun _ _ _ h => h) (Or.inl ⟨by rfl, ?_⟩) hHeld ?_ ?_
  rotate_left
  · intro w' s
    go_simp
    with_reducible rfl
  rotate_left
  · simp only [Act.put, List.setIfInBounds_toArray, List.set_cons_zero, List.set_cons_succ, i64_w, i32_w]
    rfl
  refine one_ (i := 13) (N := none) #[true, true, true, true, true, true, true, true, true, true, true, true, true, true, false, false] rfl rfl (one_of HT_.out (by kernel_rfl)) (by decide) (fun K hK => ?_)
  obtain ⟨w7, hr7, hp7, hj7⟩ := put_just (blk_below HP3.out h6) (o := 0) (by decide) 1
  refine skip_ (w1 := w7) (by rfl) rfl (store_runs rfl rfl rfl hr7) (hK.out _ _ ⟨hj7.cell (by omega) (pw_cell_below h6 c1), hj7.cell (by omega) (pw_cell_below h6 c0)⟩ (fun hHeld => ?_))
  clear hK K
  refine take_ (i := 14) (N := some 42) (v := ?_) (a' := ?_) #[true, true, true, true, true, true, true, true, true, true, true, true, true, true, true, false] rfl rfl (take_ofW HT_.out HW_.out (by kernel_rfl)) (fun _ _ _ h => h) (Or.inl ⟨by rfl, ?_⟩) hHeld ?_ ?_
  rotate_left
  · intro w' s
    go_simp
    with_reducible rfl
  rotate_left
  · simp only [Act.put, List.setIfInBounds_toArray, List.set_cons_zero, List.set_cons_succ, i64_w, i32_w]
    rfl
  refine one_ (i := 15) (N := none) #[true, true, true, true, true, true, true, true, true, true, true, true, true, true, true, true] rfl rfl (one_of HT_.out (by kernel_rfl)) (by decide) (fun K hK => ?_)
  obtain ⟨w8, hr8, hp8, hj8⟩ := put_just hp7 (o := 2) (by decide) 1
  refine skip_ (w1 := w8) (by rfl) rfl (store_runs rfl rfl rfl hr8) (hK.out _ _ ⟨hj8.cell (by omega) (hj7.cell (by omega) (pw_cell_below h6 c1)), hj8.cell (by omega) (hj7.cell (by omega) (pw_cell_below h6 c0))⟩ (fun hHeld => ?_))
  clear hK K
  refine done_ (done_of HT_.out (by kernel_rfl)) ?_
  have HQ := Aside0.mk (show w8.rangeAt (w.heap.size + 4) 0 [.int .i64 1, .bool false, .int .i64 1, .int .i64 1] from fun j v hv => by rw [Nat.zero_add, blk_cell' hp8]; simpa using hv)
  have HO8 := Aside0.mk ((hj8.far (w.heap.size + 2) (by omega)).trans ((hj7.far (w.heap.size + 2) (by omega)).trans (blk_below HO3.out h6)))
  have HB8 := Aside0.mk (hj8.below (hj7.below (below_step HB3.out h6) (by omega)) (by omega))
  clear hr7 hp7 hj7 hr8 hp8 hj8 h6 hd c1 c0 hHeld
  try clear hb
  go_wp2_with (first
    | (refine wpList_load_mid rfl 55 (.tmp 8) rfl (w.heap.size + 4) 0 rfl _ _ HQ.out Try.underlying55 rfl (by kernel_rfl) ?_)
    | (refine wpList_store_row rfl 55 (.tmp 6) (.tmp 132) rfl (w.heap.size + 2) _ rfl rfl 55 _ HO8.out (by kernel_rfl) rfl (by simp [Value.oneCell']) ?_))
  exact bodyPost_ret (where_results _ (w.heap.size + 2) [.int .i64 1, .bool false, .int .i64 1, .int .i64 1] rfl (setRow_at HO8.out) _ rfl) rfl ⟨rfl, setRow_below HB8.out (by omega)⟩
end Go.Proofs.Ytgnmpfjpcdidjaa.P
