/- Replies alike; what is answered of no documents. Conditions: none. -/
import Derived.Test.YtgnmpfjpcdidjaaStF
set_option linter.unusedVariables false
set_option linter.unusedSimpArgs false
namespace Go.Proofs.Ytgnmpfjpcdidjaa.P
open Go.RowKit Go.Proofs.YtgnmpfjpcdidjaaW.PrintWords Go.Proofs.YtgnmpfjpcdidjaaW.PrintLast Go.Proofs.YtgnmpfjpcdidjaaW.PrintMore

/-- A reply that tells a number alone. -/
def repL (n : Int) : List Value := [.int .i64 0, .int .i64 0, .int .i64 n, .string ⟨#[]⟩, .slice none 0 0, .slice none 0 0, .slice none 0 0, .complex .f64 0 0]
theorem eqNone_spots (w : World) : Calls Try.prog 69 #[.slice none 0 0, .slice none 0 0] w fun e w' => e = .returned (.bool true) ∧ w' = w := by
  go_enter Try.func69, Try.ntmps69
  go_wp2_with fail
  refine wp_loop_rounds 1 ?_
  rw [rounds_succ]
  go_wp2_with fail
  go_ret
  exact ⟨rfl, rfl⟩
theorem eqNone_docs (w : World) : Calls Try.prog 70 #[.slice none 0 0, .slice none 0 0] w fun e w' => e = .returned (.bool true) ∧ w' = w := by
  go_enter Try.func70, Try.ntmps70
  go_wp2_with fail
  refine wp_loop_rounds 1 ?_
  rw [rounds_succ]
  go_wp2_with fail
  go_ret
  exact ⟨rfl, rfl⟩
theorem eqNone_ints (w : World) : Calls Try.prog 71 #[.slice none 0 0, .slice none 0 0] w fun e w' => e = .returned (.bool true) ∧ w' = w := by
  go_enter Try.func71, Try.ntmps71
  go_wp2_with fail
  refine wp_loop_rounds 1 ?_
  rw [rounds_succ]
  go_wp2_with fail
  go_ret
  exact ⟨rfl, rfl⟩
theorem eq_zeroC (w : World) : (binOp .eql 29 (.complex .f64 0 0) (.complex .f64 0 0)).run Try.prog w = .ok (.bool true) w := by kernel_rfl
set_option maxRecDepth 100000 in
theorem same_yes (n : Int) (w : World) : Calls Try.prog 44 #[.agg (repL n).toArray, .agg (repL n).toArray] w fun e w' => e = .returned (.bool true) ∧ Below w.heap.size w w' := by
  have hb := Aside0.mk (below_alloc (below_alloc (Below.refl w.heap.size w) (.cells (repL n).toArray 31)) (.cells (repL n).toArray 31))
  unfold repL at hb ⊢
  have q := eq_zeroC
  go_enter Try.func44, Try.ntmps44
  go_wp2_with fail
  refine (eqNone_spots _).mono ?_
  rintro en w1 ⟨rfl, rfl⟩
  go_wp2_with fail
  refine (eqNone_docs _).mono ?_
  rintro en w1 ⟨rfl, rfl⟩
  go_wp2_with fail
  refine (eqNone_ints _).mono ?_
  rintro en w1 ⟨rfl, rfl⟩
  go_wp2_with fail
  go_ret
  exact ⟨rfl, hb.out⟩
set_option maxRecDepth 100000 in
theorem same_no (n n' : Int) (h : (n == n') = false) (w : World) : Calls Try.prog 44 #[.agg (repL n).toArray, .agg (repL n').toArray] w fun e w' => e = .returned (.bool false) ∧ Below w.heap.size w w' := by
  have hb := Aside0.mk (below_alloc (below_alloc (Below.refl w.heap.size w) (.cells (repL n).toArray 31)) (.cells (repL n').toArray 31))
  unfold repL at hb ⊢
  go_enter Try.func44, Try.ntmps44
  go_wp2_with fail
  go_ret
  exact ⟨rfl, hb.out⟩
theorem textsNone (w : World) : Calls Try.prog 62 #[.slice none 0 0] w fun e w' => e = .returned (.slice none 0 0) ∧ w' = w := by
  go_enter Try.func62, Try.ntmps62
  go_wp2_with fail
  refine wp_loop_rounds 1 ?_
  rw [rounds_succ]
  go_wp2_with fail
  go_ret
  exact ⟨rfl, rfl⟩
theorem indexNone (F : Value) (w : World) : Calls Try.prog 89 #[.slice none 0 0, F] w fun e w' => e = .returned (.int .i64 (-1)) ∧ w' = w := by
  go_enter Try.func89, Try.ntmps89
  go_wp2_with fail
  refine wp_loop_rounds 1 ?_
  rw [rounds_succ]
  go_wp2_with fail
  go_ret
  exact ⟨rfl, rfl⟩
theorem containsNone (F : Value) (w : World) : Calls Try.prog 81 #[.slice none 0 0, F] w fun e w' => e = .returned (.bool false) ∧ w' = w := by
  go_enter Try.func81, Try.ntmps81
  go_wp2_with fail
  refine (indexNone F w).mono ?_
  rintro en w1 ⟨rfl, rfl⟩
  go_wp2_with fail
  go_ret
  exact ⟨rfl, rfl⟩
theorem rowsRightNone (w : World) : Calls Try.prog 61 #[.slice none 0 0] w fun e w' => e = .returned (.bool true) ∧ w' = w := by
  go_enter Try.func61, Try.ntmps61
  go_wp2_with fail
  refine (containsNone _ w).mono ?_
  rintro en w1 ⟨rfl, rfl⟩
  go_wp2_with fail
  go_ret
  exact ⟨rfl, rfl⟩
theorem rightNone (w : World) : Calls Try.prog 39 #[.slice none 0 0] w fun e w' => e = .returned (.bool true) ∧ w' = w := by
  go_enter Try.func39, Try.ntmps39
  go_wp2_with fail
  refine wp_loop_rounds 1 ?_
  rw [rounds_succ]
  go_wp2_with fail
  refine (textsNone w).mono ?_
  rintro en w1 ⟨rfl, rfl⟩
  go_wp2_with fail
  refine (rowsRightNone w1).mono ?_
  rintro en w2 ⟨rfl, rfl⟩
  go_wp2_with fail
  go_ret
  exact ⟨rfl, rfl⟩
theorem askList : askB 6 0 0 0 0 ⟨#[]⟩ = true := by decide +kernel
theorem askList_calls (w : World) : Calls Try.prog 40 #[.agg #[.int .i64 6, .int .i64 0, .int .i64 0, .int .i64 0, .int .i64 0, .string ⟨#[]⟩]] w fun e w' => e = .returned (.bool true) ∧ Below w.heap.size w w' :=
  (ask_Right.told 6 0 0 0 0 ⟨#[]⟩ w).mono fun e w' h => by rw [askList] at h; exact h
end Go.Proofs.Ytgnmpfjpcdidjaa.P
