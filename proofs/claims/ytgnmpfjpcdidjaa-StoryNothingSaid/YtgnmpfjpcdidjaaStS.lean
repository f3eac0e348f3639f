/- The versions of a story of nothing; which call is pending. Conditions: how the event lies in memory. -/
import Derived.Test.YtgnmpfjpcdidjaaStR
import Derived.Test.YtgnmpfjpcdidjaaP5
set_option linter.unusedVariables false
set_option linter.unusedSimpArgs false
namespace Go.Proofs.Ytgnmpfjpcdidjaa.P
open Go.RowKit Go.Proofs.YtgnmpfjpcdidjaaW.PrintWords Go.Proofs.YtgnmpfjpcdidjaaW.PrintLast Go.Proofs.YtgnmpfjpcdidjaaW.PrintMore

theorem versionsAll_none (w : World) : Calls Try.prog 5 #[.slice none 0 0] w fun e w' => ∃ g, e = .returned (.tuple #[.slice (some ⟨g, 0, none⟩) 1 1, .bool true]) ∧ OneVersion w.heap.size g w' ∧ Below w.heap.size w w' := by
  go_enter Try.func5, Try.ntmps5
  go_wp2_with fail
  refine (deeds_none w).mono ?_
  rintro en w1 ⟨rfl, hb⟩
  have HB := Aside0.mk hb
  clear hb
  go_wp2_with fail
  refine (versions_nil w1).mono ?_
  rintro en w2 ⟨g, rfl, hv, hb⟩
  have HB2 := Aside0.mk (below_step HB.out hb)
  have HV := Aside0.mk (show OneVersion w.heap.size g w2 from ⟨hv.1, Nat.le_trans HB.out.size hv.2⟩)
  clear hb hv
  go_wp2_with fail
  go_ret2
  exact ⟨g, rfl, HV.out, HB2.out⟩
set_option maxRecDepth 100000 in
set_option maxHeartbeats 4000000 in
theorem pending_one (g c : Nat) (w : World) (hg : w.rangeAt g 0 (evA false 0)) : Calls Try.prog 9 #[.slice (some ⟨g, 0, none⟩) 1 c] w fun e w' => ∃ A c', e = .returned (.slice A 1 c') ∧ Below w.heap.size w w' := by
  have hmm := @run_makeMap Try.prog
  obtain ⟨X, hX⟩ : ∃ X, (w.alloc (.map #[] 0)).alloc (.cells (evA false 0).toArray 33) = X := ⟨_, rfl⟩
  have hB : Below w.heap.size w X := by rw [← hX]; exact below_alloc (below_alloc (Below.refl _ _) _) _
  have HB := Aside0.mk hB
  have HM := Aside0.mk (show X.heap[w.heap.size]? = some (.map #[] 0) by rw [← hX]; exact blk_alloc _ (blk_last rfl))
  have HG := Aside0.mk (show (w.alloc (.map #[] 0)).rangeAt g 0 (evA false 0) from ra_alloc _ hg)
  have HGX := Aside0.mk (show X.rangeAt g 0 (evA false 0) from fun j v hj => pw_cell_below hB (hg j v hj))
  have HX := Aside0.mk hX
  have HL := Aside0.mk (ra_last (w := X) (cs := evA false 0) (t := 33) rfl)
  have HBY := Aside0.mk (show Below w.heap.size w (X.alloc (.cells (evA false 0).toArray 33)) from below_alloc hB _)
  have lk := look_empty w.heap.size 0 (X.alloc (.cells (evA false 0).toArray 33)) (blk_alloc _ HM.out)
  clear hg hX hB
  unfold evA at HG HGX HX HL lk HBY
  go_enter Try.func9, Try.ntmps9
  go_wp2_with fail
  refine wp_loop_rounds 2 ?_
  rw [rounds_succ]
  go_wp2_with (first
    | (refine load_ev 17 rfl rfl rfl HG.out ?_)
    | (refine store_ev 5 18 _ rfl rfl rfl rfl rfl (by go_simp) rfl ?_))
  rw [rounds_succ]
  go_wp2_with fail
  rw [HX.out]
  refine wp_loop_rounds 2 ?_
  rw [rounds_succ]
  go_wp2_with (first
    | (refine load_ev 31 rfl rfl rfl HGX.out ?_)
    | (refine store_ev 8 32 _ rfl rfl rfl rfl rfl rfl rfl ?_)
    | (refine load_ev 8 rfl rfl rfl HL.out ?_))
  rw [rounds_succ]
  go_wp2_with fail
  go_ret
  exact ⟨_, _, rfl, below_drew1 (below_alloc (below_alloc HBY.out _) _)⟩
end Go.Proofs.Ytgnmpfjpcdidjaa.P
