/- What is answered of no documents: of a List. Conditions: none. -/
import Derived.Test.YtgnmpfjpcdidjaaStG
set_option linter.unusedVariables false
set_option linter.unusedSimpArgs false
namespace Go.Proofs.Ytgnmpfjpcdidjaa.P
open Go.RowKit Go.Proofs.YtgnmpfjpcdidjaaW.PrintWords Go.Proofs.YtgnmpfjpcdidjaaW.PrintLast Go.Proofs.YtgnmpfjpcdidjaaW.PrintMore

def askL : List Value := [.int .i64 6, .int .i64 0, .int .i64 0, .int .i64 0, .int .i64 0, .string ⟨#[]⟩]
theorem row_at (t : TypeId) (d : TypeDesc) (n : Nat) (hu : Try.prog.underlying t = some d) (hd : d.isRow = true) (hi : (Try.prog.info? t).map (·.size) = some n) (W : World) (b : Nat) (cs : List Value) (hn : cs.length = n) (hb : W.rangeAt b 0 cs) : (loadVar t ⟨b, 0, none⟩).run Try.prog W = .ok (.agg cs.toArray) W :=
  run_loadVar_mid W b 0 t cs d hb hu hd (by rw [hn]; exact hi)
theorem ans_results (W : World) (b : Nat) (cs : List Value) (hn : cs.length = 8) (hb : W.rangeAt b 0 cs) (tmps : Array Value) (h4 : tmps[4]?.getD undef = .pointer (some ⟨b, 0, none⟩)) :
    (results Try.f74 tmps).run Try.prog W = .ok (.agg cs.toArray) W := by
  have hr : (Try.f74).results = #[.cell 4 31] := rfl
  have hl := row_at 31 _ 8 Try.underlying31 rfl (by kernel_rfl) W b cs hn hb
  have ha : (asAddr (tmps[4]?.getD undef)).run Try.prog W = .ok ⟨b, 0, none⟩ W := by rw [h4]; rfl
  simp [results, hr]
  rw [ha]
  simp only [Result.andThen]
  rw [hl]
theorem setRow_at {W : World} {g : Nat} {cs : List Value} {old : Array Value} {t : TypeId} (hb : W.heap[g]? = some (.cells old t (0, 0))) : (W.setRow g cs.toArray).rangeAt g 0 cs := fun j v hj => by
  have h : (W.setRow g cs.toArray).heap[g]? = some (.cells cs.toArray t (0, 0)) := setRow_heap W g old cs.toArray t (0, 0) hb
  rw [Nat.zero_add, blk_cell' h]
  simpa using hj
theorem setRow_below {w W : World} {g base : Nat} {cs : Array Value} (h : Below base w W) (hg : base ≤ g) : Below base w (W.setRow g cs) :=
  ⟨h.os, h.tape, h.output, by simp only [World.setRow, Array.size_modify]; exact h.size, fun q hq => by
    have : g ≠ q := by omega
    refine Eq.trans ?_ (h.block q hq)
    simp only [World.setRow, Array.getElem?_modify, if_neg this]⟩
set_option maxRecDepth 100000 in
set_option maxHeartbeats 4000000 in
theorem ansNone (w : World) : Calls Try.prog 74 #[.slice none 0 0, .agg askL.toArray] w fun e w' => e = .returned (.agg (repL 0).toArray) ∧ Below w.heap.size w w' := by
  obtain ⟨X, hX⟩ : ∃ X, (w.alloc (.cells askL.toArray 23)).alloc (.cells (repL 0).toArray 31) = X := ⟨_, rfl⟩
  have hA : X.rangeAt w.heap.size 0 askL := by rw [← hX]; exact ra_alloc _ (ra_last rfl)
  have hR : X.heap[w.heap.size + 1]? = some (.cells (repL 0).toArray 31 (0, 0)) := by rw [← hX]; exact blk_last (by go_simp)
  have HB0 := Aside0.mk (show Below w.heap.size w X by rw [← hX]; exact below_alloc (below_alloc (Below.refl _ _) _) _)
  have AR := Aside0.mk (askList_calls X)
  have HX := Aside0.mk hX
  have HA := Aside0.mk hA
  have HR := Aside0.mk hR
  clear hA hR hX
  unfold askL repL at HX
  unfold askL
  go_enter Try.func74, Try.ntmps74
  go_wp2_with fail
  rw [HX.out]
  refine (rightNone X).mono ?_
  rintro en w1 ⟨rfl, rfl⟩
  have k0 : w1.cell? ⟨w.heap.size, 0, none⟩ = some (.int .i64 6) := HA.out 0 _ rfl
  have k1 : w1.cell? ⟨w.heap.size, 1, none⟩ = some (.int .i64 0) := HA.out 1 _ rfl
  have k2 : w1.cell? ⟨w.heap.size, 2, none⟩ = some (.int .i64 0) := HA.out 2 _ rfl
  have k3 : w1.cell? ⟨w.heap.size, 3, none⟩ = some (.int .i64 0) := HA.out 3 _ rfl
  have k4 : w1.cell? ⟨w.heap.size, 4, none⟩ = some (.int .i64 0) := HA.out 4 _ rfl
  have k5 : w1.cell? ⟨w.heap.size, 5, none⟩ = some (.string ⟨#[]⟩) := HA.out 5 _ rfl
  go_wp2_with fail
  refine AR.out.mono ?_
  rintro en w2 ⟨rfl, hb⟩
  have y0 := pw_cell_below hb k0
  have HR2 := Aside0.mk (blk_below HR.out hb)
  have HB2 := Aside0.mk (below_step HB0.out hb)
  clear k0 k1 k2 k3 k4 k5 hb
  have y1 : (w2.alloc (.cells (repL 0).toArray 31)).cell? ⟨w.heap.size, 0, none⟩ = some (.int .i64 6) := pw_cell_below (below_alloc (Below.refl _ _) _) y0
  unfold repL at y1
  go_wp2_with fail
  refine wp_loop_rounds 1 ?_
  rw [rounds_succ]
  go_wp2_with (first | (refine wpList_store_row rfl 31 (.tmp 4) (.tmp 133) rfl (w.heap.size + 1) _ rfl rfl 31 _ (blk_alloc _ HR2.out) (by kernel_rfl) rfl (by simp [Value.oneCell']) ?_))
  exact bodyPost_ret (ans_results _ (w.heap.size + 1) (repL 0) rfl (setRow_at (blk_alloc _ HR2.out)) _ rfl) rfl ⟨rfl, setRow_below (below_alloc HB2.out _) (by omega)⟩
end Go.Proofs.Ytgnmpfjpcdidjaa.P
