/- Lists of places as Book marks, compares and copies them. Conditions: the lists are small. (Printed by genpoint.py.) -/
import Derived.Test.YtckamijajnmbjaaWalkC
import Derived.Test.YtckamijajnmbjaaBookE
set_option linter.unusedVariables false
set_option linter.unusedSimpArgs false
namespace Go.Proofs.Ytckamijajnmbjaa.P
open Go.RowKit Go.Proofs.YtckamijajnmbjaaW.PrintWords Go.Proofs.YtckamijajnmbjaaW.PrintLast Go.Proofs.YtckamijajnmbjaaW.PrintMore

/-- A place as a value; one that is too far is 0. -/
def clampP (p : Int × Int) : Int × Int := if decide (p.1.natAbs < 2 ^ 53) && decide (p.2.natAbs < 2 ^ 53) then p else (0, 0)
def ptV (p : Int × Int) : Value := Wk.encP (clampP p)
def kQ : Kd (Int × Int) := Kd.scalar ptV (fun _ => rfl)
theorem clamp_small (p : Int × Int) : Fpx.small (clampP p).1 ∧ Fpx.small (clampP p).2 := by
  unfold clampP
  split
  · rename_i h
    rw [Bool.and_eq_true, decide_eq_true_eq, decide_eq_true_eq] at h
    exact h
  · exact ⟨Fpx.small0, Fpx.small0⟩
theorem clamp_in {p : Int × Int} (h1 : Fpx.small p.1) (h2 : Fpx.small p.2) : clampP p = p := by
  unfold clampP
  rw [if_pos]
  rw [Bool.and_eq_true, decide_eq_true_eq, decide_eq_true_eq]
  exact ⟨h1, h2⟩
theorem pt_cx (p : Int × Int) : ∃ x y, ptV p = .complex .f64 x y ∧ (FloatKind.f64.format.order x x == some .eq) = true ∧ (FloatKind.f64.format.order y y == some .eq) = true := by
  obtain ⟨h1, h2⟩ := clamp_small p
  exact ⟨_, _, rfl, by rw [Fpx.fmt, Fpx.eq_val (Fpx.Val_fz _ h1) (Fpx.Val_fz _ h1)]; exact decide_eq_true rfl, by rw [Fpx.fmt, Fpx.eq_val (Fpx.Val_fz _ h2) (Fpx.Val_fz _ h2)]; exact decide_eq_true rfl⟩
theorem at_pt {w : World} {A : Option Addr} {n : Nat} {xs : List (Int × Int)} (h : kQ.C w A n xs) (i : Nat) (hi : i < n) : ∃ ad, A = some ad ∧ w.cell? (ad.add i) = some (ptV (xs.getD i (0, 0))) := by
  obtain ⟨ad, h1, h2⟩ := ReadsOf.at_ (Kd.reads_of_C (enc := ptV) (d := ((0 : Int), (0 : Int))) (h1 := fun _ => rfl) h) (i : Int) (by omega) (by omega)
  rw [Int.toNat_natCast] at h2
  exact ⟨ad, h1, by rw [h2]; unfold rdOf; rw [Int.toNat_natCast]⟩
def samePoints.T6 : Bool × List (List Nat × List Nat) := (true, [([], []), ([], []), ([0, 1], [0, 1]), ([2], [2]), ([], []), ([], []), ([4, 5], [4, 5]), ([6], [6]), ([3, 7], [3, 7]), ([8], [8])])
def samePoints.B6 : List Nat := [0, 0, 3, 7, 0, 0, 48, 112, 255, 511]
theorem samePoints.tab6 : rtab .any (opsOf Try.f70 6) = samePoints.T6 := by kernel_rfl
theorem samePoints.bits6 : waitsOk samePoints.T6.2 samePoints.B6 = true := by kernel_rfl
set_option maxRecDepth 100000 in
set_option maxHeartbeats 4000000 in
theorem samePoints_calls (a a' : Option Addr) (k k' : Nat) (xs : List (Int × Int)) (w : World) (hC : kQ.C w a xs.length xs) (hC' : kQ.C w a' xs.length xs) (hl : xs.length ≤ 1000000) :
    Calls Try.prog 70 #[.slice a xs.length k, .slice a' xs.length k'] w fun e w' => e = .returned (.bool true) ∧ Below w.heap.size w w' := by
  have H := Aside0.mk hC
  have H' := Aside0.mk hC'
  have HL := Aside0.mk hl
  obtain ⟨n, hn⟩ : ∃ n, xs.length = n := ⟨_, rfl⟩
  rw [hn] at H H' HL ⊢
  clear hC hC' hl hn
  go_enter Try.func70, Try.ntmps70
  go_wp2_with fail
  go_loopw [5] (fun iv wr => ∃ i : Nat, i ≤ n ∧ iv = .int .i64 i ∧ Aside0 (Below w.heap.size w wr)) (fun iv _ => n - (intOf iv).toNat)
  case atStart => exact ⟨0, Nat.zero_le _, rfl, ⟨Below.refl _ _⟩⟩
  case round =>
  obtain ⟨i, hi, rfl, HB⟩ := hrel
  by_cases hlt : i < n
  · have c1 : decide ((i : Int) < (n : Int)) = true := decide_eq_true (by omega)
    have c2 : decide (i < n) = true := decide_eq_true hlt
    have v1 : (0 ≤ (i : Int)) = True := eq_true (by omega)
    have v2 : ((i : Int) < (n : Int)) = True := eq_true (by omega)
    have v3 : IntKind.i64.wrap ((i : Int) + 1) = (i : Int) + 1 := IntWalk.i64_in _ (by have := HL.out; omega)
    obtain ⟨ad, hA, x0⟩ := at_pt (Kd.C_below H.out HB.out) i hlt
    obtain ⟨ad', hA', x1⟩ := at_pt (Kd.C_below H'.out HB.out) i hlt
    obtain ⟨x, y, hx, hQ1, hQ2⟩ := pt_cx (xs.getD i (0, 0))
    rw [hx] at x0 x1
    subst hA hA'
    clear hx
    go_wp2_with fail
    refine start_ (n := 10) (S := fun w' => Below wr.heap.size wr w') (ds := []) #[false, false, false, false, false, false, false, false, false, false] (by kernel_rfl) rfl rfl (below_drew1 (Below.refl _ _)) (fun hHeld => ?_)
    refine with_tabW samePoints.tab6 samePoints.bits6 (fun HT_ HW_ => ?_)
    refine take_ (i := 0) (N := some 17) (v := ?_) (a' := ?_) #[true, false, false, false, false, false, false, false, false, false] rfl rfl (take_ofW HT_.out HW_.out (by kernel_rfl)) (fun _ _ _ h => h) (Or.inl ⟨by rfl, ?_⟩) hHeld ?_ ?_
    rotate_left
    · intro w' s
      go_simp
      with_reducible rfl
    rotate_left
    · simp only [Act.put, List.setIfInBounds_toArray, List.set_cons_zero, List.set_cons_succ, i64_w, i32_w]
      rfl
    refine take_ (i := 1) (N := some 18) (v := ?_) (a' := ?_) #[true, true, false, false, false, false, false, false, false, false] rfl rfl (take_ofW HT_.out HW_.out (by kernel_rfl)) (fun _ _ _ h => h) (Or.inl ⟨by rfl, ?_⟩) hHeld ?_ ?_
    rotate_left
    · intro w' s
      go_simp
      with_reducible rfl
    rotate_left
    · simp only [Act.put, List.setIfInBounds_toArray, List.set_cons_zero, List.set_cons_succ, i64_w, i32_w]
      rfl
    refine take_ (i := 2) (N := some 19) (v := ?_) (a' := ?_) #[true, true, true, false, false, false, false, false, false, false] rfl rfl (take_ofW HT_.out HW_.out (by kernel_rfl)) (fun _ _ _ h => h) (Or.inl ⟨by rfl, ?_⟩) hHeld ?_ ?_
    rotate_left
    · intro w' s
      go_simp
      with_reducible rfl
    rotate_left
    · simp only [Act.put, List.setIfInBounds_toArray, List.set_cons_zero, List.set_cons_succ, i64_w, i32_w]
      rfl
    refine take_ (i := 3) (N := some 20) (v := ?_) (a' := ?_) #[true, true, true, true, false, false, false, false, false, false] rfl rfl (take_ofW HT_.out HW_.out (by kernel_rfl)) (fun _ _ _ h => h) (Or.inl ⟨by rfl, ?_⟩) hHeld ?_ ?_
    rotate_left
    · intro w' s
      have s0 := pw_cell_below s x0
      have s1 := pw_cell_below s x1
      go_simp
      with_reducible rfl
    rotate_left
    · simp only [Act.put, List.setIfInBounds_toArray, List.set_cons_zero, List.set_cons_succ, i64_w, i32_w]
      rfl
    refine take_ (i := 4) (N := some 21) (v := ?_) (a' := ?_) #[true, true, true, true, true, false, false, false, false, false] rfl rfl (take_ofW HT_.out HW_.out (by kernel_rfl)) (fun _ _ _ h => h) (Or.inl ⟨by rfl, ?_⟩) hHeld ?_ ?_
    rotate_left
    · intro w' s
      go_simp
      with_reducible rfl
    rotate_left
    · simp only [Act.put, List.setIfInBounds_toArray, List.set_cons_zero, List.set_cons_succ, i64_w, i32_w]
      rfl
    refine take_ (i := 5) (N := some 22) (v := ?_) (a' := ?_) #[true, true, true, true, true, true, false, false, false, false] rfl rfl (take_ofW HT_.out HW_.out (by kernel_rfl)) (fun _ _ _ h => h) (Or.inl ⟨by rfl, ?_⟩) hHeld ?_ ?_
    rotate_left
    · intro w' s
      go_simp
      with_reducible rfl
    rotate_left
    · simp only [Act.put, List.setIfInBounds_toArray, List.set_cons_zero, List.set_cons_succ, i64_w, i32_w]
      rfl
    refine take_ (i := 6) (N := some 23) (v := ?_) (a' := ?_) #[true, true, true, true, true, true, true, false, false, false] rfl rfl (take_ofW HT_.out HW_.out (by kernel_rfl)) (fun _ _ _ h => h) (Or.inl ⟨by rfl, ?_⟩) hHeld ?_ ?_
    rotate_left
    · intro w' s
      go_simp
      with_reducible rfl
    rotate_left
    · simp only [Act.put, List.setIfInBounds_toArray, List.set_cons_zero, List.set_cons_succ, i64_w, i32_w]
      rfl
    refine take_ (i := 7) (N := some 24) (v := ?_) (a' := ?_) #[true, true, true, true, true, true, true, true, false, false] rfl rfl (take_ofW HT_.out HW_.out (by kernel_rfl)) (fun _ _ _ h => h) (Or.inl ⟨by rfl, ?_⟩) hHeld ?_ ?_
    rotate_left
    · intro w' s
      have s0 := pw_cell_below s x0
      have s1 := pw_cell_below s x1
      go_simp
      with_reducible rfl
    rotate_left
    · simp only [Act.put, List.setIfInBounds_toArray, List.set_cons_zero, List.set_cons_succ, i64_w, i32_w]
      rfl
    refine take_ (i := 8) (N := some 25) (v := ?_) (a' := ?_) #[true, true, true, true, true, true, true, true, true, false] rfl rfl (take_ofW HT_.out HW_.out (by kernel_rfl)) (fun _ _ _ h => h) (Or.inl ⟨by rfl, ?_⟩) hHeld ?_ ?_
    rotate_left
    · intro w' s
      go_simp
      with_reducible rfl
    rotate_left
    · simp only [Act.put, List.setIfInBounds_toArray, List.set_cons_zero, List.set_cons_succ, i64_w, i32_w]
      rfl
    refine take_ (i := 9) (N := some 26) (v := ?_) (a' := ?_) #[true, true, true, true, true, true, true, true, true, true] rfl rfl (take_ofW HT_.out HW_.out (by kernel_rfl)) (fun _ _ _ h => h) (Or.inl ⟨by rfl, ?_⟩) hHeld ?_ ?_
    rotate_left
    · intro w' s
      go_simp
      with_reducible rfl
    rotate_left
    · simp only [Act.put, List.setIfInBounds_toArray, List.set_cons_zero, List.set_cons_succ, i64_w, i32_w]
      rfl
    refine done_ (done_of HT_.out (by kernel_rfl)) ?_
    have HBn := Aside0.mk (below_step HB.out hHeld)
    clear hHeld x0 x1
    go_wp2_with fail
    go_roundw
    case rel => exact ⟨i + 1, by omega, by go_num, HBn⟩
    case measure => simp [intOf]; omega
  · obtain rfl : i = n := by omega
    have c1 : decide ((i : Int) < (i : Int)) = false := decide_eq_false (by omega)
    go_wp2_with fail
    go_ret
    exact ⟨rfl, HB.out⟩
def markP (i : Int) (k : Nat) : Int × Int := (-1000 * i - (k : Int) - 1, 7)
def marksP (i : Int) (a n : Nat) : List (Int × Int) := (List.range' a n).map (markP i)
theorem marksP_len (i : Int) (a n : Nat) : (marksP i a n).length = n := by
  unfold marksP
  rw [List.length_map, List.length_range']
theorem marksP_succ (i : Int) (a n : Nat) : marksP i a (n + 1) = marksP i a n ++ [markP i (a + n)] := by
  unfold marksP
  rw [List.range'_1_concat, List.map_append]
  rfl
theorem marksP_append (i : Int) (a n m : Nat) : marksP i a n ++ marksP i (a + n) m = marksP i a (n + m) := by
  unfold marksP
  rw [← List.map_append, List.range'_append_1]
theorem fz7 : Fpx.fz 7 = 4619567317775286272 := by decide +kernel
theorem markP_val (i : Int) (k : Nat) (h0 : 0 ≤ i) (h1 : i ≤ 1000) (hk : k ≤ 1000000) : ptV (markP i k) = .complex .f64 (floatOfInt .f64 (-1000 * i - (k : Int) - 1)) 4619567317775286272 := by
  unfold ptV markP
  rw [clamp_in (Fpx.small_of (by omega) (by omega)) (Fpx.small_of (show (-9007199254740992 : Int) < 7 by decide) (show (7 : Int) < 9007199254740992 by decide)), ← fz7]
  rfl
theorem infoPt : ((Try.prog).info? 23).map (fun i => (i.zero, i.size, i.bytes)) = some (some (.complex .f64 0 0), 1, 16) := by kernel_rfl
set_option maxRecDepth 100000 in
set_option maxHeartbeats 4000000 in
theorem markPoints_calls (i : Int) (a n : Nat) (w : World) (h0 : 0 ≤ i) (h1 : i ≤ 1000) (hn : a + n ≤ 1000000) :
    Calls Try.prog 79 #[.int .i64 i, .int .i64 a, .int .i64 n] w fun e w' => ∃ v : Value, e = .returned v ∧ kQ.R 23 w' w.heap.size (fun _ => True) v (marksP i a n) ∧ Below w.heap.size w w' := by
  have HN := Aside0.mk hn
  have HI := Aside0.mk (And.intro h0 h1)
  have s1 : IntKind.i64.wrap ((a : Int) + (n : Int)) = (a : Int) + (n : Int) := IntWalk.i64_in _ (by omega)
  have s2 : IntKind.i64.wrap (-1000 * i) = -1000 * i := IntWalk.i64_in _ (by omega)
  clear hn h0 h1
  go_enter Try.func79, Try.ntmps79
  go_wp2_with fail
  go_loopw [7, 8] (fun v iv wr => ∃ k : Nat, k ≤ n ∧ iv = .int .i64 ((a : Int) + (k : Int)) ∧ Aside0 (kQ.R 23 wr w.heap.size (fun _ => True) v (marksP i a k)) ∧ Aside0 (Below w.heap.size w wr)) (fun _ iv _ => a + n - (intOf iv).toNat)
  case atStart => exact ⟨0, Nat.zero_le _, by simp, ⟨Kd.R_nil _ _ _ _ _⟩, ⟨Below.refl _ _⟩⟩
  case round =>
  obtain ⟨k, hk, rfl, HR, HB⟩ := hrel
  by_cases hlt : k < n
  · have c1 : decide ((a : Int) + (k : Int) < (a : Int) + (n : Int)) = true := decide_eq_true (by omega)
    have c2 : decide (k < n) = true := decide_eq_true hlt
    have c3 : decide ((k : Int) < (n : Int)) = true := decide_eq_true (by omega)
    have v3 : IntKind.i64.wrap ((a : Int) + (k : Int) + 1) = (a : Int) + (k : Int) + 1 := IntWalk.i64_in _ (by have := HN.out; omega)
    have v4 : IntKind.i64.wrap (-1000 * i - ((a : Int) + (k : Int))) = -1000 * i - ((a : Int) + (k : Int)) := IntWalk.i64_in _ (by have := HN.out; have := HI.out; omega)
    have v5 : IntKind.i64.wrap (-1000 * i - ((a : Int) + (k : Int)) - 1) = -1000 * i - ((a : Int) + (k : Int)) - 1 := IntWalk.i64_in _ (by have := HN.out; have := HI.out; omega)
    obtain ⟨Av, cv, hv⟩ := Kd.R_slice HR.out
    rw [marksP_len] at hv
    subst hv
    have hval : ptV (markP i (a + k)) = .complex .f64 (floatOfInt .f64 (-1000 * i - ((a : Int) + (k : Int)) - 1)) 4619567317775286272 := by
      have h := markP_val i (a + k) HI.out.1 HI.out.2 (by have := HN.out; omega)
      rw [h]
      rfl
    have HVAL := Aside0.mk hval
    have HSS := Aside0.mk (marksP_succ i a k)
    clear hval
    go_wp2_with (first
      | ((with_reducible refine gate_builtin (b := .append) (xs := #[.tmp 17, .tmp 25]) rfl ?_); at_builtin; refine Kd.R_append kQ (w0 := w) w.heap.size rfl (.tmp 17) (.tmp 25) 30 23 (.complex .f64 0 0) 16 rfl Try.underlying30 infoPt rfl Nat.one_pos (by decide) (.slice Av k cv) (marksP i a k) (markP i (a + k)) [.complex .f64 (floatOfInt .f64 (-1000 * i - ((a : Int) + (k : Int)) - 1)) 4619567317775286272] (fun _ => True) (fun _ => False) rfl rfl (by show _ = [_]; rw [HVAL.out]) (fun _ h => h.elim) (fun _ _ => trivial) HR.out HB.out HB.out.size (by rw [marksP_len]; have := HN.out; omega) ?_; intro v' w' hO hB' _ _; rw [← HSS.out] at hO; have HO' := Aside0.mk hO; have HB' := Aside0.mk hB'; clear hO hB'))
    go_roundw
    case rel => exact ⟨k + 1, by omega, by first | rfl | (push_cast; simp; omega), HO', HB'⟩
    case measure => simp [intOf]; omega
  · obtain rfl : k = n := by omega
    have c1 : decide ((a : Int) + (k : Int) < (a : Int) + (k : Int)) = false := decide_eq_false (by omega)
    go_wp2_with fail
    go_ret
    exact ⟨_, rfl, HR.out, HB.out⟩
set_option maxRecDepth 100000 in
theorem copyPoints_calls (a : Option Addr) (k : Nat) (xs : List (Int × Int)) (w : World) (hC : kQ.C w a xs.length xs) (hl : xs.length ≤ 900000) :
    Calls Try.prog 31 #[.slice a xs.length k] w fun e w' => ∃ v : Value, e = .returned v ∧ kQ.R 23 w' w.heap.size (fun _ => True) v xs ∧ Below w.heap.size w w' := by
  have H := Aside0.mk hC
  have HL := Aside0.mk hl
  clear hC hl
  go_enter Try.func31, Try.ntmps31
  go_wp2_with (first
    | ((with_reducible refine gate_builtin (b := .append) (xs := #[.const (.slice none 0 0), .tmp 3]) rfl ?_); at_builtin; refine Kd.R_append_rows kQ (Rr := kQ.K w) (w0 := w) w.heap.size rfl (.const (.slice none 0 0)) (.tmp 3) 30 23 (.complex .f64 0 0) 16 rfl Try.underlying30 infoPt rfl Nat.one_pos (by decide) (.slice none 0 0) [] xs _ _ _ (fun _ => True) (fun _ => False) rfl rfl (Kd.R_nil _ _ _ _ _) H.out (fun _ _ h => h) (fun _ h => h.elim) (fun _ _ => trivial) (Below.refl _ _) (Nat.le_refl _) (by rw [List.length_nil]; have := HL.out; omega) ?_; intro v' w' hO hB' _ _; rw [List.nil_append] at hO; have HO' := Aside0.mk hO; have HB' := Aside0.mk hB'; clear hO hB'))
  go_ret
  exact ⟨_, rfl, HO'.out, HB'.out⟩
end Go.Proofs.Ytckamijajnmbjaa.P
