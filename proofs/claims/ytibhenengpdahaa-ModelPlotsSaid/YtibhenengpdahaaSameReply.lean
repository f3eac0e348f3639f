/- The function SameReply, of two replies that are one and tell a place alone. Conditions: the place's parts are equal to themselves. -/
import Derived.Test.YtibhenengpdahaaParts
set_option linter.unusedVariables false
set_option linter.unusedSimpArgs false
namespace Go.Proofs.Ytibhenengpdahaa.P
open Go.RowKit Go.Proofs.YtibhenengpdahaaW.PrintWords Go.Proofs.YtibhenengpdahaaW.PrintLast Go.Proofs.YtibhenengpdahaaW.PrintMore
attribute [local go_sem] run_store_cx

set_option maxRecDepth 100000 in
set_option maxHeartbeats 4000000 in
theorem sameReply_plot (er : Int) (ea eb : Nat) (hQ1 : (FloatKind.f64.format.order ea ea == some .eq) = true) (hQ2 : (FloatKind.f64.format.order eb eb == some .eq) = true) (w : World) :
    Calls Try.prog 17 #[.agg #[.int .i64 er, .int .i64 0, .int .i64 0, .string ⟨#[]⟩, .slice none 0 0, .slice none 0 0, .slice none 0 0, .complex .f64 ea eb], .agg #[.int .i64 er, .int .i64 0, .int .i64 0, .string ⟨#[]⟩, .slice none 0 0, .slice none 0 0, .slice none 0 0, .complex .f64 ea eb]] w fun e w' => e = .returned (.bool true) ∧ Below w.heap.size w w' := by
  obtain ⟨W1, hW1, hb1, hc1⟩ := rep_alloc w #[.int .i64 er, .int .i64 0, .int .i64 0, .string ⟨#[]⟩, .slice none 0 0, .slice none 0 0, .slice none 0 0, .complex .f64 ea eb]
  obtain ⟨W2, hW2, hb2, hc2⟩ := rep_alloc W1 #[.int .i64 er, .int .i64 0, .int .i64 0, .string ⟨#[]⟩, .slice none 0 0, .slice none 0 0, .slice none 0 0, .complex .f64 ea eb]
  have HB := Aside0.mk (below_step hb1 hb2)
  have x0 := pw_cell_below hb2 (hc1 0 _ rfl)
  have x1 := pw_cell_below hb2 (hc1 1 _ rfl)
  have x2 := pw_cell_below hb2 (hc1 2 _ rfl)
  have x3 := pw_cell_below hb2 (hc1 3 _ rfl)
  have x4 := pw_cell_below hb2 (hc1 4 _ rfl)
  have x5 := pw_cell_below hb2 (hc1 5 _ rfl)
  have x6 := pw_cell_below hb2 (hc1 6 _ rfl)
  have x7 := pw_cell_below hb2 (hc1 7 _ rfl)
  have y0 := hc2 0 _ rfl
  have y1 := hc2 1 _ rfl
  have y2 := hc2 2 _ rfl
  have y3 := hc2 3 _ rfl
  have y4 := hc2 4 _ rfl
  have y5 := hc2 5 _ rfl
  have y6 := hc2 6 _ rfl
  have y7 := hc2 7 _ rfl
  clear hb1 hc1 hb2 hc2
  go_enter Try.func17, Try.ntmps17
  go_wp2_with fail
  go_loopw [5] (fun i wr => i = .int .i64 0 ∧ wr = W2) (fun _ _ => 0)
  case atStart => exact ⟨rfl, rfl⟩
  case round =>
  obtain ⟨rfl, rfl⟩ := hrel
  go_wp2_with fail
  go_loopw [6] (fun i wr' => i = .int .i64 0 ∧ wr' = wr) (fun _ _ => 0)
  case atStart => exact ⟨rfl, rfl⟩
  case round =>
  obtain ⟨rfl, rfl⟩ := hrel
  go_wp2_with fail
  go_loopw [7] (fun i wr' => i = .int .i64 0 ∧ wr' = wr) (fun _ _ => 0)
  case atStart => exact ⟨rfl, rfl⟩
  case round =>
  obtain ⟨rfl, rfl⟩ := hrel
  go_wp2_with fail
  go_ret
  exact ⟨rfl, HB.out⟩
end Go.Proofs.Ytibhenengpdahaa.P
