/- Whether a story may be: of no event, of one call, of one return, of two calls. Conditions: how the events lie in memory. -/
import Derived.Test.YtgnmpfjpcdidjaaStL
set_option linter.unusedVariables false
set_option linter.unusedSimpArgs false
namespace Go.Proofs.Ytgnmpfjpcdidjaa.P
open Go.RowKit Go.Proofs.YtgnmpfjpcdidjaaW.PrintWords Go.Proofs.YtgnmpfjpcdidjaaW.PrintLast Go.Proofs.YtgnmpfjpcdidjaaW.PrintMore

/-- One event, of whatever request. -/
def evL (c : Int) (r : Bool) (n k i f t s : Int) (x : ByteArray) (m : Int) : List Value := [.int .i64 c, .bool r, .int .i64 n, .int .i64 k, .int .i64 i, .int .i64 f, .int .i64 t, .int .i64 s, .string x, .int .i64 0, .int .i64 0, .int .i64 m, .string ⟨#[]⟩, .slice none 0 0, .slice none 0 0, .slice none 0 0, .complex .f64 0 0]
theorem run_makePins (w : World) : (Instr.makeMap 71 none).run Try.prog w = .ok (.map (some w.heap.size)) (w.alloc (.map #[] 0)) := run_makeMap _ w
set_option maxRecDepth 100000 in
set_option maxHeartbeats 4000000 in
theorem look_none (w : World) : Calls Try.prog 12 #[.slice none 0 0] w fun e w' => (∃ jb, e = .returned (.tuple #[.pointer (some ⟨jb, 0, none⟩), .slice none 0 0])) ∧ Below w.heap.size w w' := by
  have hmm := run_makePins
  go_enter Try.func12, Try.ntmps12
  go_wp2_with fail
  refine (deeds_none w).mono ?_
  rintro en w1 ⟨rfl, hb⟩
  have HB1 := Aside0.mk hb
  clear hb
  go_wp2_with fail
  refine (versions_nil w1).mono ?_
  rintro en w2 ⟨gv, rfl, hv, hb⟩
  have HB2 := Aside0.mk (below_step HB1.out hb)
  clear hb hv
  go_wp2_with fail
  refine (sorted_none _ w2).mono ?_
  rintro en w3 ⟨rfl, rfl⟩
  go_wp2_with fail
  refine wp_loop_rounds 1 ?_
  rw [rounds_succ]
  go_wp2_with fail
  refine (containsJ_none _ _).mono ?_
  rintro en w4 ⟨rfl, rfl⟩
  go_wp2_with fail
  go_ret2
  exact ⟨⟨_, rfl⟩, below_alloc (below_alloc (below_alloc HB2.out _) _) _⟩
set_option maxRecDepth 100000 in
set_option maxHeartbeats 4000000 in
theorem look_call (g cap : Nat) (c n k i f t s m : Int) (x : ByteArray) (w : World) (hg : w.rangeAt g 0 (evL c false n k i f t s x m)) : Calls Try.prog 12 #[.slice (some ⟨g, 0, none⟩) 1 cap] w fun e w' =>
    (0 ≤ n → ∃ jb, e = .returned (.tuple #[.pointer (some ⟨jb, 0, none⟩), .slice none 0 0])) ∧ (n < 0 → e = .returned (.tuple #[.pointer none, .slice none 0 0])) ∧ Below w.heap.size w w' := by
  have hmm := run_makePins
  have DC := Aside0.mk (deeds_call g cap c n k i f t s m x w hg)
  have HG := Aside0.mk hg
  clear hg
  go_enter Try.func12, Try.ntmps12
  go_wp2_with fail
  refine DC.out.mono ?_
  rintro en w1 ⟨rfl, hb⟩
  have HB1 := Aside0.mk hb
  have HG1 := Aside0.mk (fun j v hj => pw_cell_below hb (HG.out j v hj))
  clear hb
  go_wp2_with fail
  refine (versions_nil w1).mono ?_
  rintro en w2 ⟨gv, rfl, hv, hb⟩
  have HB2 := Aside0.mk (below_step HB1.out hb)
  have g2 : w2.cell? ⟨g, 2, none⟩ = some (.int .i64 n) := pw_cell_below hb (HG1.out 2 _ rfl)
  clear hb hv
  by_cases h0 : n < 0
  · have c0 : decide (n < 0) = true := decide_eq_true h0
    have H0 := Aside0.mk h0
    clear h0
    go_wp2_with fail
    go_ret2
    exact ⟨fun h => absurd H0.out (by omega), fun _ => rfl, HB2.out⟩
  · have c0 : decide (n < 0) = false := decide_eq_false h0
    have H0 := Aside0.mk h0
    clear h0
    go_wp2_with fail
    refine (sorted_one _ _ _ w2).mono ?_
    rintro en w3 ⟨rfl, rfl⟩
    clear c0 g2
    go_wp2_with fail
    refine wp_loop_rounds 1 ?_
    rw [rounds_succ]
    go_wp2_with fail
    refine (containsJ_none _ _).mono ?_
    rintro en w4 ⟨rfl, rfl⟩
    go_wp2_with fail
    go_ret2
    exact ⟨fun _ => ⟨_, rfl⟩, fun h => by have := H0.out; omega, below_alloc (below_alloc (below_alloc HB2.out _) _) _⟩
set_option maxRecDepth 100000 in
set_option maxHeartbeats 4000000 in
theorem look_out (v : Value) (w : World) (D : Calls Try.prog 10 #[v] w fun e w' => e = .returned (.tuple #[.slice none 0 0, .bool false]) ∧ Below w.heap.size w w') : Calls Try.prog 12 #[v] w fun e w' => e = .returned (.tuple #[.pointer none, .slice none 0 0]) ∧ Below w.heap.size w w' := by
  have DC := Aside0.mk D
  clear D
  go_enter Try.func12, Try.ntmps12
  go_wp2_with fail
  refine DC.out.mono ?_
  rintro en w1 ⟨rfl, hb⟩
  have HB1 := Aside0.mk hb
  clear hb
  go_wp2_with fail
  refine (versions_nil w1).mono ?_
  rintro en w2 ⟨gv, rfl, hv, hb⟩
  have HB2 := Aside0.mk (below_step HB1.out hb)
  clear hb hv
  go_wp2_with fail
  go_ret2
  exact ⟨rfl, HB2.out⟩
end Go.Proofs.Ytgnmpfjpcdidjaa.P
