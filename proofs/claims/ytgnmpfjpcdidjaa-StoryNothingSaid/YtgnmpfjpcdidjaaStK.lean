/- A judge of a story without changes and snapshots: whether a List is told as it may be. Conditions: how the judge lies in memory. -/
import Derived.Test.YtgnmpfjpcdidjaaStJ
set_option linter.unusedVariables false
set_option linter.unusedSimpArgs false
namespace Go.Proofs.Ytgnmpfjpcdidjaa.P
open Go.RowKit Go.Proofs.YtgnmpfjpcdidjaaW.PrintWords Go.Proofs.YtgnmpfjpcdidjaaW.PrintLast Go.Proofs.YtgnmpfjpcdidjaaW.PrintMore

set_option maxRecDepth 100000 in
set_option maxHeartbeats 4000000 in
theorem right_calls (m : Int) (jb gv mb : Nat) (n : Int) (w : World) (hj : JOk w jb gv mb n) (b : Bool) (hm : (m == 0) = b) : Calls Try.prog 29 #[.pointer (some ⟨jb, 0, none⟩), .agg (deedL m).toArray] w fun e w' => e = .returned (.bool b) ∧ Below w.heap.size w w' := by
  obtain ⟨X, hX⟩ : ∃ X, (w.alloc (.cells (deedL m).toArray 53)).alloc (.cells (repL m).toArray 31) = X := ⟨_, rfl⟩
  have HB0 := Aside0.mk (show Below w.heap.size w X by rw [← hX]; exact below_alloc (below_alloc (Below.refl _ _) _) _)
  have HD := Aside0.mk (show X.rangeAt w.heap.size 0 (deedL m) by rw [← hX]; exact ra_alloc _ (ra_last rfl))
  have HR := Aside0.mk (show X.rangeAt (w.heap.size + 1) 0 (repL m) by rw [← hX]; exact ra_last (by go_simp))
  have HJ := Aside0.mk (show JOk X jb gv mb n by rw [← hX]; exact (hj.below (below_alloc (Below.refl _ _) _)).below (below_alloc (Below.refl _ _) _))
  have SA := Aside0.mk (fun W => same_is m 0 b hm W)
  have AT := Aside0.mk (fun W h => at_calls m jb gv mb n W h)
  have TD := Aside0.mk (fun W h => told_calls m jb gv mb n W h b hm)
  have AR := Aside0.mk askList_calls
  have HX := Aside0.mk hX
  have HR1 := Aside0.mk (deed_rep (ra_last (w := w) (cs := deedL m) (t := 53) rfl))
  have HR2 := Aside0.mk (show ((w.alloc (.cells (deedL m).toArray 53)).alloc (.cells (repL m).toArray 31)).rangeAt (w.heap.size + 1) 0 (repL m) from ra_last (by go_simp))
  clear hj hX hm
  unfold deedL repL at HX HR1 HR2
  unfold repL at SA
  unfold deedL at AT TD ⊢
  cases b
  all_goals
    go_enter Try.func29, Try.ntmps29
    go_wp2_with (first
      | (refine wpList_load_mid rfl 31 (.tmp 10) rfl w.heap.size 11 rfl _ _ HR1.out Try.underlying31 rfl (by kernel_rfl) ?_)
      | (refine wpList_store_row rfl 31 (.tmp 5) (.tmp 11) rfl (w.heap.size + 1) _ rfl rfl 31 _ (blk_last (by go_simp)) (by kernel_rfl) rfl (by simp [Value.oneCell']) ?_; rw [row_last (by go_simp)])
      | (refine wpList_load_mid rfl 31 (.tmp 5) rfl (w.heap.size + 1) 0 rfl _ _ HR2.out Try.underlying31 rfl (by kernel_rfl) ?_))
    rw [HX.out]
    refine (SA.out _).mono ?_
    rintro en w1 ⟨rfl, hb⟩
    have HB1 := Aside0.mk (below_step HB0.out hb)
    have HD1 := Aside0.mk (ra_below HD.out hb)
    have HQ1 := Aside0.mk (ra_below HR.out hb)
    have HJ1 := Aside0.mk (HJ.out.below hb)
    have r0 : w1.cell? ⟨w.heap.size + 1, 0, none⟩ = some (.int .i64 0) := HQ1.out 0 _ rfl
    have r1 : w1.cell? ⟨w.heap.size + 1, 1, none⟩ = some (.int .i64 0) := HQ1.out 1 _ rfl
    have k5 : w1.cell? ⟨w.heap.size, 5, none⟩ = some (.int .i64 6) := HD1.out 5 _ rfl
    have k6 : w1.cell? ⟨w.heap.size, 6, none⟩ = some (.int .i64 0) := HD1.out 6 _ rfl
    have k7 : w1.cell? ⟨w.heap.size, 7, none⟩ = some (.int .i64 0) := HD1.out 7 _ rfl
    have k8 : w1.cell? ⟨w.heap.size, 8, none⟩ = some (.int .i64 0) := HD1.out 8 _ rfl
    have k9 : w1.cell? ⟨w.heap.size, 9, none⟩ = some (.int .i64 0) := HD1.out 9 _ rfl
    have k10 : w1.cell? ⟨w.heap.size, 10, none⟩ = some (.string ⟨#[]⟩) := HD1.out 10 _ rfl
    clear hb
    go_wp2_with fail
    refine (AR.out _).mono ?_
    rintro en w2 ⟨rfl, hb⟩
    clear r0 r1 k5 k6 k7 k8 k9 k10
    have HB2 := Aside0.mk (below_step HB1.out hb)
    have HD2 := Aside0.mk (ra_below HD1.out hb)
    have HQ2 := Aside0.mk (ra_below HQ1.out hb)
    have HJ2 := Aside0.mk (HJ1.out.below hb)
    have r0 : w2.cell? ⟨w.heap.size + 1, 0, none⟩ = some (.int .i64 0) := HQ2.out 0 _ rfl
    have k5 : w2.cell? ⟨w.heap.size, 5, none⟩ = some (.int .i64 6) := HD2.out 5 _ rfl
    have k9 : w2.cell? ⟨w.heap.size, 9, none⟩ = some (.int .i64 0) := HD2.out 9 _ rfl
    clear hb
    have HE2 := Aside0.mk HD2.out
    unfold deedL at HE2
    go_wp2_with (first | (refine wpList_load_mid rfl 53 (.tmp 3) rfl w.heap.size 0 rfl _ _ HE2.out Try.underlying53 rfl (by kernel_rfl) ?_))
    refine (AT.out _ HJ2.out).mono ?_
    rintro en w3 ⟨rfl, hb⟩
    clear r0 k5 k9
    have HB3 := Aside0.mk (below_step HB2.out hb)
    have HQ3 := Aside0.mk (ra_below HQ2.out hb)
    have HJ3 := Aside0.mk (HJ2.out.below hb)
    have HE3 := Aside0.mk (ra_below HE2.out hb)
    have r1 : w3.cell? ⟨w.heap.size + 1, 1, none⟩ = some (.int .i64 0) := HQ3.out 1 _ rfl
    clear hb
    go_wp2_with (first | ((try (refine gate_guard (by rfl) ?_; dsimp only)); refine wpList_load_mid rfl 53 (.tmp 3) rfl w.heap.size 0 rfl _ _ HE3.out Try.underlying53 rfl (by kernel_rfl) ?_))
    refine (TD.out _ HJ3.out).mono ?_
    rintro en w4 ⟨rfl, hb⟩
    have HB4 := Aside0.mk (below_step HB3.out hb)
    clear hb r1
    go_wp2_with fail
    go_ret
    exact ⟨rfl, HB4.out⟩
end Go.Proofs.Ytgnmpfjpcdidjaa.P
