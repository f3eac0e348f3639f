/- Are lists of places marked as they must be? Conditions: the lists are few and small. (Printed by kind.py.) -/
import Derived.Test.YtckamijajnmbjaaPtAdd
set_option linter.unusedVariables false
set_option linter.unusedSimpArgs false
namespace Go.Proofs.Ytckamijajnmbjaa.P
open Go.RowKit Go.Proofs.YtckamijajnmbjaaW.PrintWords Go.Proofs.YtckamijajnmbjaaW.PrintLast Go.Proofs.YtckamijajnmbjaaW.PrintMore

def markedPoints.T4 : Bool × List (List Nat × List Nat) := (true, [([], []), ([], []), ([0, 1], [0, 1]), ([2], [2]), ([], []), ([], []), ([], []), ([5, 6], [5, 6]), ([7], [7]), ([8], [8]), ([4, 9], [4, 9]), ([3, 10, 10], [3, 10]), ([11], [11])])
def markedPoints.B4 : List Nat := [0, 0, 3, 7, 0, 0, 0, 96, 224, 480, 1008, 2047, 4095]
theorem markedPoints.tab4 : rtab .any (opsOf Try.f61 4) = markedPoints.T4 := by kernel_rfl
theorem markedPoints.bits4 : waitsOk markedPoints.T4.2 markedPoints.B4 = true := by kernel_rfl
set_option maxRecDepth 100000 in
set_option maxHeartbeats 4000000 in
theorem marked_reads (w : World) (A : Option Addr) (c : Nat) (us : List Value) (m : Nat → Nat) (h : Lists w A us) (hr : ∀ i, (h : i < us.length) → ReadsP w us[i] (marksP (i : Int) 0 (m i))) (hc : us.length ≤ c) (hl : us.length ≤ 1000) (hm : ∀ i, m i ≤ 1000000) :
    Calls Try.prog 61 #[.slice A us.length c] w fun e w' => e = .returned (.bool true) ∧ Below w.heap.size w w' := by
  have HA := Aside0.mk h
  have HR := Aside0.mk hr
  have HS := Aside0.mk hm
  have HL := Aside0.mk hl
  obtain ⟨n, hnn⟩ : ∃ n, us.length = n := ⟨_, rfl⟩
  have HNN := Aside0.mk hnn
  rw [hnn]
  clear h hr hm hl hc hnn
  go_enter Try.func61, Try.ntmps61
  go_wp2_with fail
  go_loopw [3] (fun iv wr => ∃ i : Nat, i ≤ n ∧ iv = .int .i64 i ∧ Aside0 (Below w.heap.size w wr)) (fun iv _ => n - (intOf iv).toNat)
  case atStart => exact ⟨0, Nat.zero_le _, rfl, ⟨Below.refl _ _⟩⟩
  case round =>
    obtain ⟨i, hi, rfl, HB⟩ := hrel
    by_cases hlt : i < n
    · have c1 : decide ((i : Int) < (n : Int)) = true := decide_eq_true (by omega)
      have c2 : decide (i < n) = true := decide_eq_true hlt
      have v1 : (0 ≤ (i : Int)) = True := eq_true (by omega)
      have v2 : ((i : Int) < (n : Int)) = True := eq_true (by omega)
      have v3 : IntKind.i64.wrap ((i : Int) + 1) = (i : Int) + 1 := IntWalk.i64_in _ (by have := HL.out; have := HNN.out; omega)
      obtain ⟨ad, hAe, x0⟩ := (HA.out.below HB.out).at_ i (by rw [HNN.out]; exact hlt)
      obtain ⟨a, k, hu, hk, hC⟩ := (HR.out i (by rw [HNN.out]; exact hlt)).below HB.out
      rw [hu, marksP_len] at x0
      have hsm := HS.out i
      obtain ⟨mm, hmm⟩ : ∃ q, m i = q := ⟨_, rfl⟩
      rw [hmm] at x0 hk hC hsm
      have HC := Aside0.mk hC
      have HMM := Aside0.mk hsm
      have MK := Aside0.mk (fun w' => markPoints_calls (i : Int) 0 mm w' (by omega) (by have := HL.out; have := HNN.out; omega) (by have := HMM.out; omega))
      subst hAe
      clear hu hC hk hmm hsm
      go_wp2_with fail
      refine start_ (n := 13) (S := fun w' => Below wr.heap.size wr w') (ds := []) #[false, false, false, false, false, false, false, false, false, false, false, false, false] (by kernel_rfl) rfl rfl (below_drew1 (Below.refl _ _)) (fun hHeld => ?_)
      refine with_tabW markedPoints.tab4 markedPoints.bits4 (fun HT_ HW_ => ?_)
      refine take_ (i := 0) (N := some 10) (v := ?_) (a' := ?_) #[true, false, false, false, false, false, false, false, false, false, false, false, false] rfl rfl (take_ofW HT_.out HW_.out (by kernel_rfl)) (fun _ _ _ h => h) (Or.inl ⟨by rfl, ?_⟩) hHeld ?_ ?_
      rotate_left
      · intro w' s
        go_simp
        with_reducible rfl
      rotate_left
      · simp only [Act.put, List.setIfInBounds_toArray, List.set_cons_zero, List.set_cons_succ, i64_w, i32_w]
        rfl
      refine take_ (i := 1) (N := some 11) (v := ?_) (a' := ?_) #[true, true, false, false, false, false, false, false, false, false, false, false, false] rfl rfl (take_ofW HT_.out HW_.out (by kernel_rfl)) (fun _ _ _ h => h) (Or.inl ⟨by rfl, ?_⟩) hHeld ?_ ?_
      rotate_left
      · intro w' s
        go_simp
        with_reducible rfl
      rotate_left
      · simp only [Act.put, List.setIfInBounds_toArray, List.set_cons_zero, List.set_cons_succ, i64_w, i32_w]
        rfl
      refine take_ (i := 2) (N := some 12) (v := ?_) (a' := ?_) #[true, true, true, false, false, false, false, false, false, false, false, false, false] rfl rfl (take_ofW HT_.out HW_.out (by kernel_rfl)) (fun _ _ _ h => h) (Or.inl ⟨by rfl, ?_⟩) hHeld ?_ ?_
      rotate_left
      · intro w' s
        go_simp
        with_reducible rfl
      rotate_left
      · simp only [Act.put, List.setIfInBounds_toArray, List.set_cons_zero, List.set_cons_succ, i64_w, i32_w]
        rfl
      refine take_ (i := 3) (N := some 13) (v := ?_) (a' := ?_) #[true, true, true, true, false, false, false, false, false, false, false, false, false] rfl rfl (take_ofW HT_.out HW_.out (by kernel_rfl)) (fun _ _ _ h => h) (Or.inl ⟨by rfl, ?_⟩) hHeld ?_ ?_
      rotate_left
      · intro w' s
        have s0 := pw_cell_below s x0
        go_simp
        with_reducible rfl
      rotate_left
      · simp only [Act.put, List.setIfInBounds_toArray, List.set_cons_zero, List.set_cons_succ, i64_w, i32_w]
        rfl
      refine take_ (i := 4) (N := some 14) (v := ?_) (a' := ?_) #[true, true, true, true, true, false, false, false, false, false, false, false, false] rfl rfl (take_ofW HT_.out HW_.out (by kernel_rfl)) (fun _ _ _ h => h) (Or.inl ⟨by rfl, ?_⟩) hHeld ?_ ?_
      rotate_left
      · intro w' s
        go_simp
        with_reducible rfl
      rotate_left
      · simp only [Act.put, List.setIfInBounds_toArray, List.set_cons_zero, List.set_cons_succ, i64_w, i32_w]
        rfl
      refine take_ (i := 5) (N := some 15) (v := ?_) (a' := ?_) #[true, true, true, true, true, true, false, false, false, false, false, false, false] rfl rfl (take_ofW HT_.out HW_.out (by kernel_rfl)) (fun _ _ _ h => h) (Or.inl ⟨by rfl, ?_⟩) hHeld ?_ ?_
      rotate_left
      · intro w' s
        go_simp
        with_reducible rfl
      rotate_left
      · simp only [Act.put, List.setIfInBounds_toArray, List.set_cons_zero, List.set_cons_succ, i64_w, i32_w]
        rfl
      refine take_ (i := 6) (N := some 16) (v := ?_) (a' := ?_) #[true, true, true, true, true, true, true, false, false, false, false, false, false] rfl rfl (take_ofW HT_.out HW_.out (by kernel_rfl)) (fun _ _ _ h => h) (Or.inl ⟨by rfl, ?_⟩) hHeld ?_ ?_
      rotate_left
      · intro w' s
        go_simp
        with_reducible rfl
      rotate_left
      · simp only [Act.put, List.setIfInBounds_toArray, List.set_cons_zero, List.set_cons_succ, i64_w, i32_w]
        rfl
      refine take_ (i := 7) (N := some 17) (v := ?_) (a' := ?_) #[true, true, true, true, true, true, true, true, false, false, false, false, false] rfl rfl (take_ofW HT_.out HW_.out (by kernel_rfl)) (fun _ _ _ h => h) (Or.inl ⟨by rfl, ?_⟩) hHeld ?_ ?_
      rotate_left
      · intro w' s
        go_simp
        with_reducible rfl
      rotate_left
      · simp only [Act.put, List.setIfInBounds_toArray, List.set_cons_zero, List.set_cons_succ, i64_w, i32_w]
        rfl
      refine take_ (i := 8) (N := some 18) (v := ?_) (a' := ?_) #[true, true, true, true, true, true, true, true, true, false, false, false, false] rfl rfl (take_ofW HT_.out HW_.out (by kernel_rfl)) (fun _ _ _ h => h) (Or.inl ⟨by rfl, ?_⟩) hHeld ?_ ?_
      rotate_left
      · intro w' s
        have s0 := pw_cell_below s x0
        go_simp
        with_reducible rfl
      rotate_left
      · simp only [Act.put, List.setIfInBounds_toArray, List.set_cons_zero, List.set_cons_succ, i64_w, i32_w]
        rfl
      refine take_ (i := 9) (N := some 19) (v := ?_) (a' := ?_) #[true, true, true, true, true, true, true, true, true, true, false, false, false] rfl rfl (take_ofW HT_.out HW_.out (by kernel_rfl)) (fun _ _ _ h => h) (Or.inl ⟨by rfl, ?_⟩) hHeld ?_ ?_
      rotate_left
      · intro w' s
        go_simp
        with_reducible rfl
      rotate_left
      · simp only [Act.put, List.setIfInBounds_toArray, List.set_cons_zero, List.set_cons_succ, i64_w, i32_w]
        rfl
      refine one_ (i := 10) (N := some 20) #[true, true, true, true, true, true, true, true, true, true, true, false, false] rfl rfl (one_of HT_.out (by kernel_rfl)) (by decide) (fun K hK => ?_)
      refine goes_ Try.func79 (by kernel_rfl) rfl #[.int .i64 i, .int .i64 0, .int .i64 mm] (by rfl) rfl rfl (by (try simp only [List.map_toArray, List.map_cons, List.map_nil]); first | done | rfl | (simp only [List.length_drop, List.length_take]; rfl)) ?_
      refine (MK.out _).mono ?_
      rintro en w8 ⟨mv, rfl, hRm, hb⟩
      refine ⟨_, rfl, ?_⟩
      obtain ⟨Am, cm, hm⟩ := Kd.R_slice hRm
      rw [marksP_len] at hm
      subst hm
      have HRM := Aside0.mk hRm
      refine hK.out _ _ (below_step hHeld hb) (fun hHeld => ?_)
      clear hRm hb
      clear hK K
      refine norm_ (a' := ?_) ?_ ?_
      rotate_left
      · show Act.put _ (some 20) _ = _
        simp only [Act.put, List.setIfInBounds_toArray, List.set_cons_zero, List.set_cons_succ, i64_w, i32_w]
        rfl
      refine one_ (i := 11) (N := some 21) #[true, true, true, true, true, true, true, true, true, true, true, true, false] rfl rfl (one_of HT_.out (by kernel_rfl)) (by decide) (fun K hK => ?_)
      have SM := samePoints_calls a Am k cm (marksP (i : Int) 0 mm) w8 (Kd.C_below HC.out hHeld) (Kd.R_reads' HRM.out).2.2 (by rw [marksP_len]; exact HMM.out)
      rw [marksP_len] at SM
      refine goes_ Try.func70 (by kernel_rfl) rfl #[.slice a mm k, .slice Am mm cm] (by rfl) rfl rfl (by (try simp only [List.map_toArray, List.map_cons, List.map_nil]); first | done | rfl | (simp only [List.length_drop, List.length_take]; rfl)) ?_
      refine SM.mono ?_
      rintro en w9 ⟨rfl, hb⟩
      refine ⟨_, rfl, ?_⟩
      refine hK.out _ _ (below_step hHeld hb) (fun hHeld => ?_)
      clear hb SM
      clear hK K
      refine norm_ (a' := ?_) ?_ ?_
      rotate_left
      · show Act.put _ (some 21) _ = _
        simp only [Act.put, List.setIfInBounds_toArray, List.set_cons_zero, List.set_cons_succ, i64_w, i32_w]
        rfl
      refine take_ (i := 12) (N := some 22) (v := ?_) (a' := ?_) #[true, true, true, true, true, true, true, true, true, true, true, true, true] rfl rfl (take_ofW HT_.out HW_.out (by kernel_rfl)) (fun _ _ _ h => h) (Or.inl ⟨by rfl, ?_⟩) hHeld ?_ ?_
      rotate_left
      · intro w' s
        go_simp
        with_reducible rfl
      rotate_left
      · simp only [Act.put, List.setIfInBounds_toArray, List.set_cons_zero, List.set_cons_succ, i64_w, i32_w]
        rfl
      refine done_ (done_of HT_.out (by kernel_rfl)) ?_
      have HBn := Aside0.mk (below_step HB.out hHeld)
      clear hHeld x0
      go_wp2_with fail
      go_roundw
      case rel => exact ⟨i + 1, by omega, by go_num, HBn⟩
      case measure => simp [intOf]; omega
    · obtain rfl : i = n := by omega
      have c1 : decide ((i : Int) < (i : Int)) = false := decide_eq_false (by omega)
      go_wp2_with fail
      go_ret
      exact ⟨rfl, HB.out⟩
end Go.Proofs.Ytckamijajnmbjaa.P
