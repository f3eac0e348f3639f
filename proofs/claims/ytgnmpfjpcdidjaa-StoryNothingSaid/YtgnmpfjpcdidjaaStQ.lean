/- At most one place is sorted; what a story's order, its versions, its pending calls are. Conditions: how the events lie in memory. -/
import Derived.Test.YtgnmpfjpcdidjaaStP
set_option linter.unusedVariables false
set_option linter.unusedSimpArgs false
namespace Go.Proofs.Ytgnmpfjpcdidjaa.P
open Go.RowKit Go.Proofs.YtgnmpfjpcdidjaaW.PrintWords Go.Proofs.YtgnmpfjpcdidjaaW.PrintLast Go.Proofs.YtgnmpfjpcdidjaaW.PrintMore

set_option maxRecDepth 100000 in
theorem len64_calls (n : Int) (h : n = 0 ∨ n = 1) (w : World) : Calls Try.prog 58 #[.int .u64 n] w fun e w' => e = .returned (.int .i64 n) ∧ w' = w := by
  rcases h with rfl | rfl
  all_goals
    go_enter Try.func58, Try.ntmps58
    go_wp2_with fail
    go_ret
    exact ⟨by kernel_rfl, rfl⟩
theorem len_calls (n : Int) (h : n = 0 ∨ n = 1) (w : World) : Calls Try.prog 34 #[.int .u64 n] w fun e w' => e = .returned (.int .i64 n) ∧ w' = w := by
  have LE := Aside0.mk (len64_calls n h w)
  clear h
  go_enter Try.func34, Try.ntmps34
  go_wp2_with fail
  refine LE.out.mono ?_
  rintro en w1 ⟨rfl, rfl⟩
  go_wp2_with fail
  go_ret
  exact ⟨rfl, rfl⟩
theorem insP_calls (n : Int) (h : n = 0 ∨ n = 1) (v F : Value) (w : World) : Calls Try.prog 49 #[v, .int .i64 0, .int .i64 n, F] w fun e w' => e = .returned (.tuple #[]) ∧ w' = w := by
  rcases h with rfl | rfl
  all_goals
    go_enter Try.func49, Try.ntmps49
    go_wp2_with fail
    refine wp_loop_rounds 1 ?_
    rw [rounds_succ]
    go_wp2_with fail
    go_end0
    exact ⟨rfl, rfl⟩
theorem pdqP_calls (n k : Int) (h : n = 0 ∨ n = 1) (v F : Value) (w : World) : Calls Try.prog 33 #[v, .int .i64 0, .int .i64 n, .int .i64 k, F] w fun e w' => e = .returned (.tuple #[]) ∧ w' = w := by
  have IN := Aside0.mk (insP_calls n h v F w)
  rcases h with rfl | rfl
  all_goals
    go_enter Try.func33, Try.ntmps33
    go_wp2_with fail
    refine wp_loop_rounds 1 ?_
    rw [rounds_succ]
    go_wp2_with fail
    refine IN.out.mono ?_
    rintro en w1 ⟨rfl, rfl⟩
    go_wp2_with fail
    exact bodyPost_ret (results_none rfl _ _ _) rfl ⟨rfl, rfl⟩
theorem sortP_calls (A : Option Addr) (n c : Nat) (h : n = 0 ∨ n = 1) (F : Value) (w : World) : Calls Try.prog 14 #[.slice A n c, F] w fun e w' => e = .returned (.tuple #[]) ∧ w' = w := by
  rcases h with rfl | rfl
  · have LE := Aside0.mk (len_calls 0 (Or.inl rfl) w)
    have PD := Aside0.mk (pdqP_calls 0 0 (Or.inl rfl) (.slice A 0 c) F w)
    go_enter Try.func14, Try.ntmps14
    go_wp2_with fail
    refine LE.out.mono ?_
    rintro en w1 ⟨rfl, rfl⟩
    go_wp2_with fail
    refine PD.out.mono ?_
    rintro en w2 ⟨rfl, rfl⟩
    go_wp2_with fail
    go_end0
    exact ⟨rfl, rfl⟩
  · have LE := Aside0.mk (len_calls 1 (Or.inr rfl) w)
    have PD := Aside0.mk (pdqP_calls 1 1 (Or.inr rfl) (.slice A 1 c) F w)
    go_enter Try.func14, Try.ntmps14
    go_wp2_with fail
    refine LE.out.mono ?_
    rintro en w1 ⟨rfl, rfl⟩
    go_wp2_with fail
    refine PD.out.mono ?_
    rintro en w2 ⟨rfl, rfl⟩
    go_wp2_with fail
    go_end0
    exact ⟨rfl, rfl⟩
/-- Check of what look tells. -/
theorem check_no (v : Value) (w : World) (D : Calls Try.prog 12 #[v] w fun e w' => e = .returned (.tuple #[.pointer none, .slice none 0 0]) ∧ Below w.heap.size w w') : Calls Try.prog 7 #[v] w fun e w' => e = .returned (.bool false) ∧ Below w.heap.size w w' := by
  have DC := Aside0.mk D
  clear D
  go_enter Try.func7, Try.ntmps7
  go_wp2_with fail
  refine DC.out.mono ?_
  rintro en w1 ⟨rfl, hb⟩
  have HB := Aside0.mk hb
  clear hb
  go_wp2_with fail
  go_ret
  exact ⟨rfl, HB.out⟩
theorem check_yes (v : Value) (w : World) (D : Calls Try.prog 12 #[v] w fun e w' => (∃ jb d, e = .returned (.tuple #[.pointer (some ⟨jb, 0, none⟩), d])) ∧ Below w.heap.size w w') : Calls Try.prog 7 #[v] w fun e w' => e = .returned (.bool true) ∧ Below w.heap.size w w' := by
  have DC := Aside0.mk D
  clear D
  go_enter Try.func7, Try.ntmps7
  go_wp2_with fail
  refine DC.out.mono ?_
  rintro en w1 ⟨⟨jb, d, rfl⟩, hb⟩
  have HB := Aside0.mk hb
  clear hb
  go_wp2_with fail
  go_ret
  exact ⟨rfl, HB.out⟩
theorem check_none (w : World) : Calls Try.prog 7 #[.slice none 0 0] w fun e w' => e = .returned (.bool true) ∧ Below w.heap.size w w' :=
  check_yes _ w ((look_none w).mono fun e w' ⟨⟨jb, h⟩, hb⟩ => ⟨⟨jb, _, h⟩, hb⟩)
theorem check_call (g cap : Nat) (c n k i f t s m : Int) (x : ByteArray) (w : World) (hg : w.rangeAt g 0 (evL c false n k i f t s x m)) : Calls Try.prog 7 #[.slice (some ⟨g, 0, none⟩) 1 cap] w fun e w' => e = .returned (.bool (decide (0 ≤ n))) ∧ Below w.heap.size w w' := by
  by_cases h : 0 ≤ n
  · rw [decide_eq_true h]
    exact check_yes _ w ((look_call g cap c n k i f t s m x w hg).mono fun e w' ⟨h1, _, hb⟩ => ⟨(h1 h).elim fun jb e => ⟨jb, _, e⟩, hb⟩)
  · rw [decide_eq_false h]
    exact check_no _ w ((look_call g cap c n k i f t s m x w hg).mono fun e w' ⟨_, h2, hb⟩ => ⟨h2 (by omega), hb⟩)
theorem check_ret (g cap : Nat) (c n k i f t s m : Int) (x : ByteArray) (w : World) (hg : w.rangeAt g 0 (evL c true n k i f t s x m)) : Calls Try.prog 7 #[.slice (some ⟨g, 0, none⟩) 1 cap] w fun e w' => e = .returned (.bool false) ∧ Below w.heap.size w w' :=
  check_no _ w (look_out _ w (deeds_ret g cap c n k i f t s m x w hg))
theorem check_calls2 (g cap : Nat) (c n k i f t s m m2 : Int) (x : ByteArray) (w : World) (hg : w.rangeAt g 0 (evL c false n k i f t s x m)) (hh : w.rangeAt g 17 (evL c false n k i f t s x m2)) : Calls Try.prog 7 #[.slice (some ⟨g, 0, none⟩) 2 cap] w fun e w' => e = .returned (.bool false) ∧ Below w.heap.size w w' :=
  check_no _ w (look_out _ w (deeds_calls2 g cap c n k i f t s m m2 x w hg hh))
theorem check_list (g cap : Nat) (m : Int) (w : World) (hg : w.rangeAt g 0 (evA false 0)) (hh : w.rangeAt g 17 (evA true m)) (b : Bool) (hm : (m == 0) = b) : Calls Try.prog 7 #[.slice (some ⟨g, 0, none⟩) 2 cap] w fun e w' => e = .returned (.bool b) ∧ Below w.heap.size w w' := by
  cases b with
  | true => exact check_yes _ w ((look_list g cap m w hg hh true hm).mono fun e w' ⟨⟨h1, _⟩, hb⟩ => ⟨(h1 rfl).elim fun jb ⟨_, _, gd, cd, h, _⟩ => ⟨jb, _, h⟩, hb⟩)
  | false => exact check_no _ w ((look_list g cap m w hg hh false hm).mono fun e w' ⟨⟨_, h2⟩, hb⟩ => ⟨h2 rfl, hb⟩)
end Go.Proofs.Ytgnmpfjpcdidjaa.P
