/- The function Name of package ask; a request's bounds. Conditions: none. -/
import Derived.Test.YtbmjekekpmabbaaDoorAskWalk
set_option linter.unusedVariables false
set_option linter.unusedSimpArgs false
namespace Go.Proofs.YtbmjekekpmabbaaDoor.P
open Go.RowKit Go.Proofs.YtbmjekekpmabbaaDoorW.PrintWords Go.Proofs.YtbmjekekpmabbaaDoorW.PrintLast Go.Proofs.YtbmjekekpmabbaaDoorW.PrintMore

theorem shape_field0 (w : World) (x y : Value) : (Instr.field 54 (.agg #[x, y]) 0).run Tryd.prog w = .ok x w := by
  unfold Instr.field
  go_simp
  rfl
theorem shape_field1 (w : World) (x y : Value) : (Instr.field 54 (.agg #[x, y]) 1).run Tryd.prog w = .ok y w := by
  unfold Instr.field
  go_simp
  rfl
attribute [local go_sem] shape_field0 shape_field1
theorem name_calls (k : Int) (w : World) : Calls Tryd.prog 19 #[.int .i64 k] w fun e w' => e = .returned (.string (nameOf k)) ∧ Below w.heap.size w w' := by
  have OC := Aside0.mk (of_calls k)
  go_enter Tryd.func19, Tryd.ntmps19
  go_wp2_with fail
  refine (OC.out _).mono ?_
  rintro en w2 ⟨rfl, hb⟩
  have HB := Aside0.mk hb
  clear hb OC
  go_wp2_with fail
  go_ret
  exact ⟨rfl, HB.out⟩
theorem ask_load (W : World) (b : Nat) (x0 x1 x2 x3 x4 x5 : Value) (h0 : W.cell? ⟨b, 0, none⟩ = some x0) (h1 : W.cell? ⟨b, 1, none⟩ = some x1) (h2 : W.cell? ⟨b, 2, none⟩ = some x2) (h3 : W.cell? ⟨b, 3, none⟩ = some x3) (h4 : W.cell? ⟨b, 4, none⟩ = some x4) (h5 : W.cell? ⟨b, 5, none⟩ = some x5) : (loadVar 23 ⟨b, 0, none⟩).run Tryd.prog W = .ok (.agg #[x0, x1, x2, x3, x4, x5]) W := by
  have hs : (isAgg 23).run Tryd.prog W = .ok true W := by kernel_rfl
  have hz : (sizeOf 23).run Tryd.prog W = .ok 6 W := by kernel_rfl
  unfold loadVar
  go_simp
theorem letOk_rng {has : ByteArray} {c : UInt8} {n : Int} (h : letOk has c n = true) : 0 ≤ n ∧ n ≤ 65535 := by
  unfold letOk at h
  simp only [Bool.and_eq_true, decide_eq_true_eq] at h
  exact ⟨h.1, h.2.1⟩
theorem askB_rng {kind id fr tt snap : Int} {text : ByteArray} (h : askB kind id fr tt snap text = true) : (1 ≤ kind ∧ kind ≤ 9) ∧ (0 ≤ id ∧ id ≤ 65535) ∧ (0 ≤ fr ∧ fr ≤ 65535) ∧ (0 ≤ tt ∧ tt ≤ 65535) ∧ (0 ≤ snap ∧ snap ≤ 65535) ∧ text.size ≤ 40 := by
  unfold askB at h
  simp only [Bool.and_eq_true, decide_eq_true_eq] at h
  obtain ⟨h1, h2, _, h4, h5, h6, h7⟩ := h
  refine ⟨?_, letOk_rng h4, letOk_rng h5, letOk_rng h6, letOk_rng h7, by omega⟩
  rcases (show kind < 0 ∨ 10 ≤ kind ∨ kind = 0 ∨ (1 ≤ kind ∧ kind ≤ 9) by omega) with hk | hk | rfl | hk
  · rw [(of_first kind (Or.inl hk)).1] at h1
    exact absurd h1 (by decide +kernel)
  · rw [(of_first kind (Or.inr hk)).1] at h1
    exact absurd h1 (by decide +kernel)
  · exact absurd h1 (by decide +kernel)
  · exact hk
end Go.Proofs.YtbmjekekpmabbaaDoor.P
