/- Whether all that is told may be; what a judge notes. Conditions: how the judge and the deed lie in memory. -/
import Derived.Test.YtgnmpfjpcdidjaaStK
set_option linter.unusedVariables false
set_option linter.unusedSimpArgs false
namespace Go.Proofs.Ytgnmpfjpcdidjaa.P
open Go.RowKit Go.Proofs.YtgnmpfjpcdidjaaW.PrintWords Go.Proofs.YtgnmpfjpcdidjaaW.PrintLast Go.Proofs.YtgnmpfjpcdidjaaW.PrintMore

set_option maxRecDepth 100000 in
set_option maxHeartbeats 4000000 in
theorem wrong_calls (m : Int) (jc jb gv mb : Nat) (n : Int) (w : World) (hc : w.cell? ⟨jc, 0, none⟩ = some (.pointer (some ⟨jb, 0, none⟩))) (hj : JOk w jb gv mb n) (b : Bool) (hm : (m == 0) = b) : Calls Try.prog 28 #[.agg (deedL m).toArray, .pointer (some ⟨jc, 0, none⟩)] w fun e w' => e = .returned (.bool (!b)) ∧ Below w.heap.size w w' := by
  obtain ⟨X, hX⟩ : ∃ X, w.alloc (.cells (deedL m).toArray 53) = X := ⟨_, rfl⟩
  have HB0 := Aside0.mk (show Below w.heap.size w X by rw [← hX]; exact below_alloc (Below.refl _ _) _)
  have RI := Aside0.mk (right_calls m jb gv mb n X (by rw [← hX]; exact hj.below (below_alloc (Below.refl _ _) _)) b hm)
  have c0 : (w.alloc (.cells (deedL m).toArray 53)).cell? ⟨jc, 0, none⟩ = some (.pointer (some ⟨jb, 0, none⟩)) := pw_cell_below (below_alloc (Below.refl w.heap.size w) _) hc
  have HX := Aside0.mk hX
  have HE := Aside0.mk (ra_last (w := w) (cs := deedL m) (t := 53) rfl)
  clear hc hj hX hm
  unfold deedL at HX RI HE c0 ⊢
  go_enter Try.func28, Try.ntmps28
  go_wp2_with (first | (refine wpList_load_mid rfl 53 (.tmp 2) rfl w.heap.size 0 rfl _ _ HE.out Try.underlying53 rfl (by kernel_rfl) ?_))
  rw [HX.out]
  refine RI.out.mono ?_
  rintro en w1 ⟨rfl, hb⟩
  have HB := Aside0.mk (below_step HB0.out hb)
  clear hb c0
  go_wp2_with fail
  go_ret
  exact ⟨rfl, HB.out⟩
set_option maxRecDepth 100000 in
set_option maxHeartbeats 4000000 in
theorem indexJ_calls (m : Int) (jc jb gv mb : Nat) (n : Int) (g c : Nat) (w : World) (hg : w.rangeAt g 0 (deedL m)) (hc : w.cell? ⟨jc, 0, none⟩ = some (.pointer (some ⟨jb, 0, none⟩))) (hj : JOk w jb gv mb n) (b : Bool) (hm : (m == 0) = b) :
    Calls Try.prog 36 #[.slice (some ⟨g, 0, none⟩) 1 c, .func (.func 28) #[] #[.pointer (some ⟨jc, 0, none⟩)]] w fun e w' => e = .returned (.int .i64 (if b then -1 else 0)) ∧ Below w.heap.size w w' := by
  have WR := Aside0.mk (wrong_calls m jc jb gv mb n w hc hj b hm)
  have HG := Aside0.mk hg
  clear hc hj hm hg
  unfold deedL at WR HG
  cases b
  all_goals
    go_enter Try.func36, Try.ntmps36
    go_wp2_with fail
    refine wp_loop_rounds 2 ?_
    rw [rounds_succ]
    go_wp2_with (first | (refine wpList_load_mid rfl 53 (.tmp 14) rfl g 0 rfl _ _ HG.out Try.underlying53 rfl (by kernel_rfl) ?_))
    refine WR.out.mono ?_
    rintro en w1 ⟨rfl, hb⟩
    have HB := Aside0.mk hb
    clear hb
    go_wp2_with fail
  · go_ret
    exact ⟨rfl, HB.out⟩
  · rw [rounds_succ]
    go_wp2_with fail
    go_ret
    exact ⟨rfl, HB.out⟩
theorem containsJ_calls (m : Int) (jc jb gv mb : Nat) (n : Int) (g c : Nat) (w : World) (hg : w.rangeAt g 0 (deedL m)) (hc : w.cell? ⟨jc, 0, none⟩ = some (.pointer (some ⟨jb, 0, none⟩))) (hj : JOk w jb gv mb n) (b : Bool) (hm : (m == 0) = b) :
    Calls Try.prog 27 #[.slice (some ⟨g, 0, none⟩) 1 c, .func (.func 28) #[] #[.pointer (some ⟨jc, 0, none⟩)]] w fun e w' => e = .returned (.bool (!b)) ∧ Below w.heap.size w w' := by
  have IX := Aside0.mk (indexJ_calls m jc jb gv mb n g c w hg hc hj b hm)
  clear hc hj hm hg
  cases b
  all_goals
    go_enter Try.func27, Try.ntmps27
    go_wp2_with fail
    refine IX.out.mono ?_
    rintro en w1 ⟨rfl, hb⟩
    have HB := Aside0.mk hb
    clear hb
    go_wp2_with fail
    go_ret
    exact ⟨rfl, HB.out⟩
theorem containsJ_none (F : Value) (w : World) : Calls Try.prog 27 #[.slice none 0 0, F] w fun e w' => e = .returned (.bool false) ∧ w' = w := by
  go_enter Try.func27, Try.ntmps27
  go_wp2_with fail
  refine (indexD_none F w).mono ?_
  rintro en w1 ⟨rfl, rfl⟩
  go_wp2_with fail
  go_ret
  exact ⟨rfl, rfl⟩
set_option maxRecDepth 100000 in
theorem open_calls (m : Int) (x : Value) (w : World) : Calls Try.prog 26 #[x, .agg (deedL m).toArray] w fun e w' => e = .returned (.bool true) ∧ Below w.heap.size w w' := by
  have HB := Aside0.mk (below_alloc (Below.refl w.heap.size w) (.cells (deedL m).toArray 53))
  unfold deedL at HB ⊢
  go_enter Try.func26, Try.ntmps26
  go_wp2_with fail
  go_ret
  exact ⟨rfl, HB.out⟩
end Go.Proofs.Ytgnmpfjpcdidjaa.P
