/- A request among a law's arguments, opened. Conditions: none. -/
import Derived.Test.YtgnmpfjpcdidjaaP0
import Derived.SizedLaws
import Derived.SliceStrings
import Derived.Deep.SlicePairs
import Derived.Lib.SmallJoins
set_option linter.unusedVariables false
set_option linter.unusedSimpArgs false
namespace Go.Proofs.Ytgnmpfjpcdidjaa.P
open Go.RowKit Go.Proofs.YtgnmpfjpcdidjaaW.PrintWords Go.Proofs.YtgnmpfjpcdidjaaW.PrintLast Go.Proofs.YtgnmpfjpcdidjaaW.PrintMore
open Go.ChangeShapes Go.WideShapes Go.Deep

theorem array6 {α : Type} {cs : Array α} (h : cs.size = 6) : ∃ c0 c1 c2 c3 c4 c5, cs = #[c0, c1, c2, c3, c4, c5] := by
  obtain ⟨l⟩ := cs
  match l, h with
  | [c0, c1, c2, c3, c4, c5], _ => exact ⟨c0, c1, c2, c3, c4, c5, rfl⟩
theorem open_ask {H : Type} {enc : TypeId × Value → H} {P : Program} {W : World} {base : Nat} {spare : Nat → Bool} {held : Bool} {r : Reach} {b0 : Nat} {t : TypeId} {f0 f1 f2 f3 f4 f5 : Field} {v : Value} {d : DataW H} {p : List MemPlace}
    (hs : P.underlying t = some (.struct #[f0, f1, f2, f3, f4, f5])) (hone : oneCellFields P #[f0, f1, f2, f3, f4, f5] = true) (hC : P.cellsOf t = 6) (u0 : P.underlying f0.type = some (.int .i64)) (u1 : P.underlying f1.type = some (.int .i64)) (u2 : P.underlying f2.type = some (.int .i64))
    (u3 : P.underlying f3.type = some (.int .i64)) (u4 : P.underlying f4.type = some (.int .i64)) (u5 : P.underlying f5.type = some .string) (hv : Value.okWide P W r b0 t v) (h : DataW.Trod enc P W base spare held t v d p) :
    ∃ (a0 a1 a2 a3 a4 : Int) (a5 : ByteArray), v = .agg #[.int .i64 a0, .int .i64 a1, .int .i64 a2, .int .i64 a3, .int .i64 a4, .string a5] ∧ d = .agg [.lit (.int .i64 a0), .lit (.int .i64 a1), .lit (.int .i64 a2), .lit (.int .i64 a3), .lit (.int .i64 a4), .lit (.string a5.data.toList)] ∧
      ((Lit.int .i64 a0).wf = true ∧ (Lit.int .i64 a1).wf = true ∧ (Lit.int .i64 a2).wf = true ∧ (Lit.int .i64 a3).wf = true ∧ (Lit.int .i64 a4).wf = true) ∧ a5.size ≤ 9223372036854775807 := by
  obtain ⟨cs, rfl, hsz⟩ := okWide_struct hs hv
  obtain ⟨c0, c1, c2, c3, c4, c5, rfl⟩ := array6 (hsz.trans hC)
  obtain ⟨fuel, hf⟩ := h
  obtain ⟨xs, n, _, hx, hl, hlen, hfl⟩ := DataW.trod_struct hs hf
  obtain ⟨o0, k0⟩ := hone_of hone 0 f0 rfl
  obtain ⟨o1, k1⟩ := hone_of hone 1 f1 rfl
  obtain ⟨o2, k2⟩ := hone_of hone 2 f2 rfl
  obtain ⟨o3, k3⟩ := hone_of hone 3 f3 rfl
  obtain ⟨o4, k4⟩ := hone_of hone 4 f4 rfl
  obtain ⟨o5, k5⟩ := hone_of hone 5 f5 rfl
  obtain ⟨y0, y1, y2, y3, y4, y5, rfl⟩ : ∃ y0 y1 y2 y3 y4 y5, xs = [y0, y1, y2, y3, y4, y5] := by
    match xs, hlen with
    | [y0, y1, y2, y3, y4, y5], _ => exact ⟨y0, y1, y2, y3, y4, y5, rfl⟩
  have g0 : DataW.trod enc P W base spare held n f0.type [c0] = some y0 := by simpa [Value.cells, o0, k0] using hfl 0 f0 rfl
  have g1 : DataW.trod enc P W base spare held n f1.type [c1] = some y1 := by simpa [Value.cells, o1, k1] using hfl 1 f1 rfl
  have g2 : DataW.trod enc P W base spare held n f2.type [c2] = some y2 := by simpa [Value.cells, o2, k2] using hfl 2 f2 rfl
  have g3 : DataW.trod enc P W base spare held n f3.type [c3] = some y3 := by simpa [Value.cells, o3, k3] using hfl 3 f3 rfl
  have g4 : DataW.trod enc P W base spare held n f4.type [c4] = some y4 := by simpa [Value.cells, o4, k4] using hfl 4 f4 rfl
  have g5 : DataW.trod enc P W base spare held n f5.type [c5] = some y5 := by simpa [Value.cells, o5, k5] using hfl 5 f5 rfl
  obtain ⟨z0, e0, r0, w0⟩ := DataW.trod_int u0 g0
  obtain ⟨z1, e1, r1, w1⟩ := DataW.trod_int u1 g1
  obtain ⟨z2, e2, r2, w2⟩ := DataW.trod_int u2 g2
  obtain ⟨z3, e3, r3, w3⟩ := DataW.trod_int u3 g3
  obtain ⟨z4, e4, r4, w4⟩ := DataW.trod_int u4 g4
  obtain ⟨z5, e5, r5, w5⟩ := DataW.trod_string u5 g5
  simp only [List.cons.injEq, and_true] at e0 e1 e2 e3 e4 e5
  subst e0 e1 e2 e3 e4 e5 r0 r1 r2 r3 r4 r5
  simp only [Prod.mk.injEq] at hx
  exact ⟨z0, z1, z2, z3, z4, z5, rfl, hx.1, ⟨w0, w1, w2, w3, w4⟩, by unfold maxLen at w5; exact w5⟩
end Go.Proofs.Ytgnmpfjpcdidjaa.P
