/- The statement ModelTells, of all inputs. Conditions: the row's. -/
import Derived.Test.YtibhenengpdahaaGreatModelTells
import Derived.Test.YtibhenengpdahaaGreatP23
import Derived.SizedLaws
import Derived.SliceStrings
import Derived.Deep.SlicePairs
import Derived.Lib.SmallJoins
section
set_option linter.unusedVariables false
set_option linter.unusedSimpArgs false
namespace Go.Proofs.YtibhenengpdahaaGreat.P
open Go.RowKit Go.Proofs.YtibhenengpdahaaGreatW.PrintWords Go.Proofs.YtibhenengpdahaaGreatW.PrintLast Go.Proofs.YtibhenengpdahaaGreatW.PrintMore

set_option maxRecDepth 100000 in
set_option maxHeartbeats 4000000 in
theorem modelTells_long (A0 : Option Addr) (c0 : Nat) (l0 : List S27) (kind id fr tt snap : Int) (text : ByteArray) (nid : Int) (w : World) (h : 14 < l0.length ∨ 60 < text.size) :
  Calls Tryz.prog 3 #[.slice A0 l0.length c0, .agg #[.int .i64 kind, .int .i64 id, .int .i64 fr, .int .i64 tt, .int .i64 snap, .string text], .int .i64 nid] w fun e w' => e = .returned (.bool true) ∧ Below w.heap.size w w' := by
 have AL := Aside0.mk aliveM_calls
 obtain ⟨W1, hW1⟩ : ∃ W1, w.alloc (.cells #[.int .i64 kind, .int .i64 id, .int .i64 fr, .int .i64 tt, .int .i64 snap, .string text] 24) = W1 := ⟨_, rfl⟩
 have HB1 : Aside0 (Below w.heap.size w W1) := ⟨by rw [← hW1]; exact below_alloc (Below.refl _ _) _⟩
 have k5 : W1.cell? ⟨w.heap.size, 5, none⟩ = some (.string text) := by rw [← hW1]; exact cell_newA w _ _ 5 _ rfl
 have W1E := Aside0.mk hW1
 clear hW1
 by_cases h1 : 14 < l0.length
 ·have d1 : decide ((14 : Int) < (l0.length : Int)) = true := decide_eq_true (by omega)
  have d2 : decide (14 < l0.length) = true := decide_eq_true h1
  clear h h1
  go_enter Tryz.func3, Tryz.ntmps3
  go_wp2_with fail
  try rw [W1E.out]
  refine (AL.out _).mono ?_
  rintro en w2 ⟨rfl, hb⟩
  have HB2 := Aside0.mk (below_step HB1.out hb)
  clear hb
  go_wp2_with fail
  go_ret
  exact ⟨rfl, HB2.out⟩
 ·have d1 : decide ((14 : Int) < (l0.length : Int)) = false := decide_eq_false (by omega)
  have d2 : decide (14 < l0.length) = false := decide_eq_false h1
  have d3 : decide ((60 : Int) < (text.size : Int)) = true := decide_eq_true (by omega)
  have d4 : decide (60 < text.size) = true := decide_eq_true (by omega)
  clear h h1
  go_enter Tryz.func3, Tryz.ntmps3
  go_wp2_with fail
  try rw [W1E.out]
  try go_wp2_with fail
  refine (AL.out _).mono ?_
  rintro en w2 ⟨rfl, hb⟩
  have HB2 := Aside0.mk (below_step HB1.out hb)
  clear hb
  go_wp2_with fail
  go_ret
  exact ⟨rfl, HB2.out⟩
set_option maxRecDepth 100000 in
set_option maxHeartbeats 4000000 in
theorem modelTells_far (A0 : Option Addr) (c0 : Nat) (l0 : List S27) (kind id fr tt snap : Int) (text : ByteArray) (nid : Int) (w : World) (hr0 : Kd.C k27 w A0 l0.length l0) (h14 : l0.length ≤ 14) (h60 : text.size ≤ 60) (z : Nat) (hz : z < l0.length) (hzs : 100 < l0[z].f1.size) (hzf : ∀ j, (h : j < z) → l0[j].f1.size ≤ 100) :
  Calls Tryz.prog 3 #[.slice A0 l0.length c0, .agg #[.int .i64 kind, .int .i64 id, .int .i64 fr, .int .i64 tt, .int .i64 snap, .string text], .int .i64 nid] w fun e w' => e = .returned (.bool true) ∧ Below w.heap.size w w' := by
 have AL := Aside0.mk aliveM_calls
 have HR := Aside0.mk hr0
 have HL := Aside0.mk h14
 have HZ := Aside0.mk hz
 have HZS := Aside0.mk hzs
 have HZF := Aside0.mk hzf
 have d1 : decide ((14 : Int) < (l0.length : Int)) = false := decide_eq_false (by omega)
 have d2 : decide ((60 : Int) < (text.size : Int)) = false := decide_eq_false (by omega)
 obtain ⟨W1, hW1⟩ : ∃ W1, w.alloc (.cells #[.int .i64 kind, .int .i64 id, .int .i64 fr, .int .i64 tt, .int .i64 snap, .string text] 24) = W1 := ⟨_, rfl⟩
 have HB1 : Aside0 (Below w.heap.size w W1) := ⟨by rw [← hW1]; exact below_alloc (Below.refl _ _) _⟩
 have k5 : W1.cell? ⟨w.heap.size, 5, none⟩ = some (.string text) := by rw [← hW1]; exact cell_newA w _ _ 5 _ rfl
 have W1E := Aside0.mk hW1
 clear hW1 hr0 h14 h60 hzs hzf
 go_enter Tryz.func3, Tryz.ntmps3
 go_wp2_with fail
 try rw [W1E.out]
 refine (AL.out _).mono ?_
 rintro en w2 ⟨rfl, hb⟩
 have HB2 := Aside0.mk (below_step HB1.out hb)
 clear hb k5 d1 d2
 go_wp2_with fail
 go_loopw [34] (fun iv wr => ∃ k : Nat, k ≤ z ∧ iv = .int .i64 k ∧ Aside0 (Below w2.heap.size w2 wr)) (fun iv _ => z - (intOf iv).toNat)
 case atStart => exact ⟨0, Nat.zero_le _, rfl, ⟨Below.refl _ _⟩⟩
 case round =>
 obtain ⟨wq, hwq⟩ : ∃ x, x = wr := ⟨_, rfl⟩
 subst hwq
 obtain ⟨k, hk, rfl, HBr⟩ := hrel
 have HBw := Aside0.mk (below_step HB2.out HBr.out)
 have hkl : k < l0.length := by have := HZ.out; omega
 obtain ⟨ad, hA, x0, x1⟩ := at_T27 (Kd.C_below HR.out HBw.out) (k : Int) (by omega) (by omega)
 rw [rd_doc_get l0 k hkl, Int.toNat_natCast] at x0 x1
 have hs1 : k < z → l0[k].f1.size ≤ 100 := fun h => HZF.out k h
 have hs2 : k = z → 100 < l0[k].f1.size := fun h => by subst h; exact HZS.out
 obtain ⟨did, hid⟩ : ∃ x, l0[k].f0 = x := ⟨_, rfl⟩
 obtain ⟨tx, htx⟩ : ∃ x, l0[k].f1 = x := ⟨_, rfl⟩
 rw [hid] at x0
 rw [htx] at x1 hs1 hs2
 subst hA
 have c1 : decide ((k : Int) < (l0.length : Int)) = true := decide_eq_true (by omega)
 have c2 : decide (k < l0.length) = true := decide_eq_true hkl
 have q1 : (0 ≤ (k : Int)) = True := eq_true (by omega)
 have q2 : ((k : Int) < (l0.length : Int)) = True := eq_true (by omega)
 have q3 : IntKind.i64.wrap ((k : Int) + 1) = (k : Int) + 1 := IntWalk.i64_in _ (by have := HL.out; omega)
 have HBn := Aside0.mk (below_step HBr.out (below_alloc (Below.refl wq.heap.size wq) (.cells #[.int .i64 did, .string tx] 27)))
 clear hid htx
 by_cases hlt : k < z
 ·have q4 : decide ((100 : Int) < (tx.size : Int)) = false := decide_eq_false (by have := hs1 hlt; omega)
  have q5 : decide (100 < tx.size) = false := decide_eq_false (by have := hs1 hlt; omega)
  clear hs1 hs2
  go_wp2_with fail
  go_roundw
  case rel => exact ⟨k + 1, by omega, by go_num, HBn⟩
  case measure => simp [intOf]; omega
 ·have q4 : decide ((100 : Int) < (tx.size : Int)) = true := decide_eq_true (by have := hs2 (by omega); omega)
  have q5 : decide (100 < tx.size) = true := decide_eq_true (by have := hs2 (by omega); omega)
  have HBe := Aside0.mk (below_step HB2.out HBn.out)
  clear hs1 hs2
  go_wp2_with fail
  go_ret
  exact ⟨rfl, HBe.out⟩
theorem modelTells_calls (A0 : Option Addr) (c0 : Nat) (l0 : List S27) (kind id fr tt snap : Int) (text : ByteArray) (nid : Int) (w : World) (hr0 : Kd.C k27 w A0 l0.length l0) (hc0 : l0.length ≤ c0) :
  Calls Tryz.prog 3 #[.slice A0 l0.length c0, .agg #[.int .i64 kind, .int .i64 id, .int .i64 fr, .int .i64 tt, .int .i64 snap, .string text], .int .i64 nid] w fun e w' => e = .returned (.bool true) ∧ Below w.heap.size w w' := by
 by_cases h : 14 < l0.length ∨ 60 < text.size
 ·exact modelTells_long A0 c0 l0 kind id fr tt snap text nid w h
 cases hf : l0.findIdx? (fun d => decide (100 < d.f1.size)) with
 | none =>
  rw [List.findIdx?_eq_none_iff] at hf
  exact modelTells_main A0 c0 l0 kind id fr tt snap text nid w hr0 hc0 (by omega) (by omega) (fun d hd => by have := hf d hd; simpa using this)
 | some z =>
  rw [List.findIdx?_eq_some_iff_getElem] at hf
  obtain ⟨hz, h1, h2⟩ := hf
  exact modelTells_far A0 c0 l0 kind id fr tt snap text nid w hr0 (by omega) (by omega) z hz (by simpa using h1) (fun j hj => by simpa using h2 j hj)
/-- The same, in the row's form. -/
theorem ModelTells_all (A0 : Option Addr) (c0 : Nat) (l0 : List S27) (kind id fr tt snap : Int) (text : ByteArray) (a2 : Int) (w : World) (hr0 : Kd.C k27 w A0 l0.length l0) (hc0 : l0.length ≤ c0) (hs : ∀ x ∈ l0, (Lit.int .i64 x.f0).wf = true ∧ x.f1.size ≤ 9223372036854775807) (hl : l0.length * 24 ≤ 140737488351232)
  (ws : (Lit.int .i64 kind).wf = true ∧ (Lit.int .i64 id).wf = true ∧ (Lit.int .i64 fr).wf = true ∧ (Lit.int .i64 tt).wf = true ∧ (Lit.int .i64 snap).wf = true) (wt : text.size ≤ 9223372036854775807) (w2 : (Lit.int .i64 a2).wf = true) :
  Calls Tryz.prog 3 #[.slice A0 l0.length c0, .agg #[.int .i64 kind, .int .i64 id, .int .i64 fr, .int .i64 tt, .int .i64 snap, .string text], .int .i64 a2] w fun e w' => e = .returned (.bool true) ∧ Below w.heap.size w w' := modelTells_calls A0 c0 l0 kind id fr tt snap text a2 w hr0 hc0
end Go.Proofs.YtibhenengpdahaaGreat.P

end
section
set_option linter.unusedVariables false
set_option linter.unusedSimpArgs false
namespace Go.Proofs.YtibhenengpdahaaGreat.P
open Go.RowKit Go.Proofs.YtibhenengpdahaaGreatW.PrintWords Go.Proofs.YtibhenengpdahaaGreatW.PrintLast Go.Proofs.YtibhenengpdahaaGreatW.PrintMore
open Go.ChangeShapes Go.WideShapes Go.Deep

theorem open_docs {H : Type} {enc : TypeId × Value → H} {P : Program} {W : World} {base : Nat} {spare : Nat → Bool} {held : Bool} {t e : TypeId} {f0 f1 : Field} {a : Option Addr} {len cap : Nat} {d : DataW H} {ps : List MemPlace} {ts : List TypeId} {ds : List (DataW H)} {j : Nat}
  (hsz : (DataW.weightsEach P ts ds).all (· ≤ reachBytes) = true) (ht : ts[j]? = some t) (hd : ds[j]? = some d) (hu : P.underlying t = some (.slice e)) (he : P.underlying e = some (.struct #[f0, f1])) (ce : P.cellsOf e = 2) (o0 : f0.offset = 0) (o1 : f1.offset = 1) (c0 : P.cellsOf f0.type = 1) (c1 : P.cellsOf f1.type = 1)
  (u0 : P.underlying f0.type = some (.int .i64)) (u1 : P.underlying f1.type = some .string) (hB : P.bytesOf e = 24)
  (h : DataW.Trod enc P W base spare held t (.slice a len cap) d ps) : ∃ l : List S27, len = l.length ∧ l.length ≤ cap ∧ Kd.C k27 W a l.length l ∧ (∀ x ∈ l, (Lit.int .i64 x.f0).wf = true ∧ x.f1.size ≤ 9223372036854775807) ∧ l.length * 24 ≤ 140737488351232 := by
 obtain ⟨fuel, hf⟩ := h
 rcases Go.Deep.open_slice_pairs hu he ce o0 o1 c0 c1 hf with ⟨hcs, _⟩ | ⟨x, len', cap', m, n, V0, V1, D0, D1, P0, P1, hcs, hb, hl, hm, hmm, hx, hcell⟩
 ·simp [Value.cells] at hcs
  obtain ⟨rfl, rfl, rfl⟩ := hcs
  exact ⟨[], rfl, Nat.zero_le _, Kd.C_nil _ _, (fun s hs => by cases hs), by decide⟩
 ·simp [Value.cells] at hcs
  obtain ⟨rfl, rfl, rfl⟩ := hcs
  obtain ⟨hx, _⟩ := Prod.mk.inj hx
  have hlm : len ≤ m := by rw [hmm]; split <;> omega
  haveI hin : Inhabited S27 := ⟨z27⟩
  obtain ⟨f, hfi⟩ := Go.Deep.choose_lt (n := len) (p := fun i (q : S27) => (W.cell? (x.add (i * 2)) = some (.int .i64 q.f0) ∧ W.cell? (x.add (i * 2 + 1)) = some (.string q.f1)) ∧ (Lit.int .i64 q.f0).wf = true ∧ q.f1.size ≤ 9223372036854775807) (fun i hi => by
   obtain ⟨g0, g1, r0, r1⟩ := hcell i (by omega)
   obtain ⟨z, e0, _, w0⟩ := DataW.trod_int u0 r0
   obtain ⟨s, e1, _, w1⟩ := DataW.trod_string u1 r1
   simp only [List.cons.injEq, and_true] at e0 e1
   rw [e0] at g0
   rw [e1] at g1
   exact ⟨⟨z, s⟩, ⟨g0, g1⟩, w0, by unfold maxLen at w1; exact w1⟩)
  have hll : ((List.range len).map f).length = len := by simp
  refine ⟨(List.range len).map f, hll.symm, by rw [hll]; exact hl, ?_, ?_, ?_⟩
  ·refine ⟨rfl, by rw [hll]; unfold maxLen at hm; omega, fun _ => ⟨x, rfl, fun j p hj => ?_⟩⟩
   rw [List.getElem?_map] at hj
   obtain ⟨i, hi, rfl⟩ := Option.map_eq_some_iff.1 hj
   obtain ⟨hil, rfl⟩ := List.getElem?_eq_some_iff.1 hi
   rw [List.length_range] at hil
   rw [List.getElem_range]
   obtain ⟨⟨g0, g1⟩, _, _⟩ := hfi j hil
   refine ⟨[.int .i64 (f j).f0, .string (f j).f1], rfl, k27_mk _ _, fun i u hu => ?_⟩
   rcases i with _ | _ | i
   ·obtain rfl : u = .int .i64 (f j).f0 := by simpa using hu.symm
    exact g0
   ·obtain rfl : u = .string (f j).f1 := by simpa using hu.symm
    exact g1
   ·simp at hu
  ·intro y hy
   obtain ⟨i, hi, rfl⟩ := List.mem_map.1 hy
   rw [List.mem_range] at hi
   exact ⟨(hfi i hi).2.1, (hfi i hi).2.2⟩
  ·rw [hx] at hd
   have h3 := sized_slice hsz ht hd hu
   rw [hB, List.length_map, List.length_map, List.length_range, List.length_range] at h3
   rw [hll]
   have h4 : reachBytes = 140737488351232 := rfl
   omega
theorem array6 {α : Type} {cs : Array α} (h : cs.size = 6) : ∃ c0 c1 c2 c3 c4 c5, cs = #[c0, c1, c2, c3, c4, c5] := by
 obtain ⟨l⟩ := cs
 match l, h with
 | [c0, c1, c2, c3, c4, c5], _ => exact ⟨c0, c1, c2, c3, c4, c5, rfl⟩
theorem open_ask {H : Type} {enc : TypeId × Value → H} {P : Program} {W : World} {base : Nat} {spare : Nat → Bool} {held : Bool} {r : Reach} {b0 : Nat} {t : TypeId} {f0 f1 f2 f3 f4 f5 : Field} {v : Value} {d : DataW H} {p : List MemPlace}
  (hs : P.underlying t = some (.struct #[f0, f1, f2, f3, f4, f5])) (hone : oneCellFields P #[f0, f1, f2, f3, f4, f5] = true) (hC : P.cellsOf t = 6) (u0 : P.underlying f0.type = some (.int .i64)) (u1 : P.underlying f1.type = some (.int .i64)) (u2 : P.underlying f2.type = some (.int .i64))
  (u3 : P.underlying f3.type = some (.int .i64)) (u4 : P.underlying f4.type = some (.int .i64)) (u5 : P.underlying f5.type = some .string) (hv : Value.okWide P W r b0 t v) (h : DataW.Trod enc P W base spare held t v d p) :
  ∃ (a0 a1 a2 a3 a4 : Int) (a5 : ByteArray), v = .agg #[.int .i64 a0, .int .i64 a1, .int .i64 a2, .int .i64 a3, .int .i64 a4, .string a5] ∧ d = .agg [.lit (.int .i64 a0), .lit (.int .i64 a1), .lit (.int .i64 a2), .lit (.int .i64 a3), .lit (.int .i64 a4), .lit (.string a5.data.toList)] ∧
   ((Lit.int .i64 a0).wf = true ∧ (Lit.int .i64 a1).wf = true ∧ (Lit.int .i64 a2).wf = true ∧ (Lit.int .i64 a3).wf = true ∧ (Lit.int .i64 a4).wf = true) ∧ a5.size ≤ 9223372036854775807 := by
 obtain ⟨cs, rfl, hsz⟩ := okWide_struct hs hv
 obtain ⟨c0, c1, c2, c3, c4, c5, rfl⟩ := array6 (hsz.trans hC)
 obtain ⟨fuel, hf⟩ := h
 obtain ⟨xs, n, _, hx, hl, hlen, hfl⟩ := DataW.trod_struct hs hf
 obtain ⟨o0, k0⟩ := hone_of hone 0 f0 rfl
 obtain ⟨o1, k1⟩ := hone_of hone 1 f1 rfl
 obtain ⟨o2, k2⟩ := hone_of hone 2 f2 rfl
 obtain ⟨o3, k3⟩ := hone_of hone 3 f3 rfl
 obtain ⟨o4, k4⟩ := hone_of hone 4 f4 rfl
 obtain ⟨o5, k5⟩ := hone_of hone 5 f5 rfl
 obtain ⟨y0, y1, y2, y3, y4, y5, rfl⟩ : ∃ y0 y1 y2 y3 y4 y5, xs = [y0, y1, y2, y3, y4, y5] := by
  match xs, hlen with
  | [y0, y1, y2, y3, y4, y5], _ => exact ⟨y0, y1, y2, y3, y4, y5, rfl⟩
 have g0 : DataW.trod enc P W base spare held n f0.type [c0] = some y0 := by simpa [Value.cells, o0, k0] using hfl 0 f0 rfl
 have g1 : DataW.trod enc P W base spare held n f1.type [c1] = some y1 := by simpa [Value.cells, o1, k1] using hfl 1 f1 rfl
 have g2 : DataW.trod enc P W base spare held n f2.type [c2] = some y2 := by simpa [Value.cells, o2, k2] using hfl 2 f2 rfl
 have g3 : DataW.trod enc P W base spare held n f3.type [c3] = some y3 := by simpa [Value.cells, o3, k3] using hfl 3 f3 rfl
 have g4 : DataW.trod enc P W base spare held n f4.type [c4] = some y4 := by simpa [Value.cells, o4, k4] using hfl 4 f4 rfl
 have g5 : DataW.trod enc P W base spare held n f5.type [c5] = some y5 := by simpa [Value.cells, o5, k5] using hfl 5 f5 rfl
 obtain ⟨z0, e0, r0, w0⟩ := DataW.trod_int u0 g0
 obtain ⟨z1, e1, r1, w1⟩ := DataW.trod_int u1 g1
 obtain ⟨z2, e2, r2, w2⟩ := DataW.trod_int u2 g2
 obtain ⟨z3, e3, r3, w3⟩ := DataW.trod_int u3 g3
 obtain ⟨z4, e4, r4, w4⟩ := DataW.trod_int u4 g4
 obtain ⟨z5, e5, r5, w5⟩ := DataW.trod_string u5 g5
 simp only [List.cons.injEq, and_true] at e0 e1 e2 e3 e4 e5
 subst e0 e1 e2 e3 e4 e5 r0 r1 r2 r3 r4 r5
 simp only [Prod.mk.injEq] at hx
 exact ⟨z0, z1, z2, z3, z4, z5, rfl, hx.1, ⟨w0, w1, w2, w3, w4⟩, by unfold maxLen at w5; exact w5⟩
end Go.Proofs.YtibhenengpdahaaGreat.P

end
