/- The law AskTells answers true: its walk. Conditions: none. (Printed by gentells.py.) -/
import Derived.Test.YtbmjekekpmabbaaDoorRefM
import Derived.Test.YtbmjekekpmabbaaDoorAskAlive
import Derived.Test.YtbmjekekpmabbaaDoorAskG
set_option linter.unusedVariables false
set_option linter.unusedSimpArgs false
namespace Go.Proofs.YtbmjekekpmabbaaDoor.P
open Go.RowKit Go.Proofs.YtbmjekekpmabbaaDoorW.PrintWords Go.Proofs.YtbmjekekpmabbaaDoorW.PrintLast Go.Proofs.YtbmjekekpmabbaaDoorW.PrintMore

theorem out_eq (o : Option AskV) : outOf o = .tuple #[(o.getD zeroV).val, .bool o.isSome] := by cases o <;> rfl
set_option maxRecDepth 100000 in
set_option maxHeartbeats 4000000 in
theorem tells_out (a : AskV) (b line : ByteArray) (kind : Int) (w : World) (h : 300 < a.text.size ∨ 300 < b.size ∨ 300 < line.size) :
    Calls Tryd.prog 3 #[a.val, .string b, .string line, .int .i64 kind] w fun e w' => e = .returned (.bool true) ∧ Below w.heap.size w w' := by
  have AC := Aside0.mk (fun w => scriniumlaw20_alive.calls 6 true w alive_ok)
  have hb1 : Below w.heap.size w (w.alloc (.cells #[.int .i64 a.kind, .int .i64 a.id, .int .i64 a.fr, .int .i64 a.tt, .int .i64 a.snap, .string a.text] 23)) := below_alloc (Below.refl _ _) _
  have HB := Aside0.mk hb1
  have h3 : (decide ((a.text.size : Int) > 300) = true ∧ (300 < a.text.size) = True) ∨ ((decide ((a.text.size : Int) > 300) = false ∧ (300 < a.text.size) = False) ∧ (decide ((b.size : Int) > 300) = true ∧ (300 < b.size) = True)) ∨ ((decide ((a.text.size : Int) > 300) = false ∧ (300 < a.text.size) = False) ∧ (decide ((b.size : Int) > 300) = false ∧ (300 < b.size) = False) ∧ (decide ((line.size : Int) > 300) = true ∧ (300 < line.size) = True)) := by
    by_cases h1 : 300 < a.text.size
    · exact Or.inl ⟨decide_eq_true (by omega), eq_true h1⟩
    · by_cases h2 : 300 < b.size
      · exact Or.inr (Or.inl ⟨⟨decide_eq_false (by omega), eq_false h1⟩, decide_eq_true (by omega), eq_true h2⟩)
      · exact Or.inr (Or.inr ⟨⟨decide_eq_false (by omega), eq_false h1⟩, ⟨decide_eq_false (by omega), eq_false h2⟩, decide_eq_true (by omega), eq_true (by omega)⟩)
  clear h hb1
  unfold AskV.val AskV.cells
  rcases h3 with ⟨c1, d1⟩ | ⟨⟨c1, d1⟩, c2, d2⟩ | ⟨⟨c1, d1⟩, ⟨c2, d2⟩, c3, d3⟩
  all_goals
    go_enter Tryd.func3, Tryd.ntmps3
    go_wp2_with fail
    refine (AC.out _).mono ?_
    rintro e w2 ⟨rfl, hb⟩
    have HB2 := Aside0.mk (below_step HB.out hb)
    clear hb
    go_wp2_with fail
    go_ret
    exact ⟨rfl, HB2.out⟩
set_option maxRecDepth 100000 in
set_option maxHeartbeats 4000000 in
theorem tells_in (a : AskV) (b line : ByteArray) (kind : Int) (w : World) (ha : a.text.size ≤ 300) (hb0 : b.size ≤ 300) (hl : line.size ≤ 300) :
    Calls Tryd.prog 3 #[a.val, .string b, .string line, .int .i64 kind] w fun e w' => e = .returned (.bool true) ∧ Below w.heap.size w w' := by
  have AC := Aside0.mk (fun w => scriniumlaw20_alive.calls 6 true w alive_ok)
  have PC := Aside0.mk (fun w => ask_Put.calls 5 a.kind a.id a.fr a.tt a.snap a.text (putO a).1 (putO a).2 w (put_told a (by omega)))
  have PR := Aside0.mk (fun w => scriniumref1_AskPut.calls 20 a.kind a.id a.fr a.tt a.snap a.text (putO a).1 (putO a).2 w (refPut_same a (by omega)))
  have hG := fun w => get_calls b w (by omega)
  have hR := fun w => read_calls line w (by omega)
  have hG2 := fun w => rget_calls b w (by omega)
  have hR2 := fun w => rread_calls line w (by omega)
  have hT := fun w => ask_Right.told a.kind a.id a.fr a.tt a.snap a.text w
  rw [show askB a.kind a.id a.fr a.tt a.snap a.text = a.ok from rfl] at hT
  rw [out_eq] at hG hG2 hR hR2
  have N1 := Aside0.mk (name_calls kind)
  have N2 := Aside0.mk (fun w => scriniumref1_Name.calls kind _ w (refName_same kind))
  obtain ⟨x, hx⟩ : ∃ x, (getOf b).getD zeroV = x := ⟨_, rfl⟩
  obtain ⟨bx, hbx⟩ : ∃ x, (getOf b).isSome = x := ⟨_, rfl⟩
  obtain ⟨y, hy⟩ : ∃ x, (readOf line).getD zeroV = x := ⟨_, rfl⟩
  obtain ⟨by_, hby⟩ : ∃ x, (readOf line).isSome = x := ⟨_, rfl⟩
  rw [hx, hbx] at hG
  rw [hy, hby] at hR hR2
  rw [hx, hbx] at hG2
  have GC := Aside0.mk hG
  have GR := Aside0.mk hG2
  have RC := Aside0.mk hR
  have RR := Aside0.mk hR2
  have TC := Aside0.mk hT
  have hGP : a.ok = true → ∀ w, Calls Tryd.prog 14 #[.string (putO a).1] w fun e w' => e = .returned (outOf (some a)) ∧ Below w.heap.size w w' := fun h w => by
    have h1 := get_calls (putK a) w (by rw [putK_size]; omega)
    rw [get_put h] at h1
    rw [putO_ok h]
    exact h1
  have GP := Aside0.mk hGP
  have hq : (putO a).2 = a.ok := by
    cases h : a.ok with
    | false => rw [putO_no h]
    | true => rw [putO_ok h]
  obtain ⟨s, hs⟩ : ∃ s, (putO a).1 = s := ⟨_, rfl⟩
  obtain ⟨q, hq2⟩ : ∃ q, a.ok = q := ⟨_, rfl⟩
  rw [hq] at PC PR
  rw [hs, hq2] at PC PR GP
  rw [hq2] at TC
  have c1 : decide ((a.text.size : Int) > 300) = false := decide_eq_false (by omega)
  have d1 : (300 < a.text.size) = False := eq_false (by omega)
  have c2 : decide ((b.size : Int) > 300) = false := decide_eq_false (by omega)
  have d2 : (300 < b.size) = False := eq_false (by omega)
  have c3 : decide ((line.size : Int) > 300) = false := decide_eq_false (by omega)
  have d3 : (300 < line.size) = False := eq_false (by omega)
  obtain ⟨ab, hbb⟩ : ∃ b, w.heap.size = b := ⟨_, rfl⟩
  obtain ⟨W1, hW1⟩ : ∃ W1, w.alloc (.cells a.cells 23) = W1 := ⟨_, rfl⟩
  have W1E : Aside0 (w.alloc (.cells #[.int .i64 a.kind, .int .i64 a.id, .int .i64 a.fr, .int .i64 a.tt, .int .i64 a.snap, .string a.text] 23) = W1) := ⟨hW1⟩
  have BE := Aside0.mk hbb
  have AB : Aside0 (W1.heap[ab]? = some (.cells a.cells 23 (0, 0))) := ⟨by rw [← hW1, ← hbb]; exact blk_new _ _⟩
  have HB : Aside0 (Below w.heap.size w W1) := ⟨by rw [← hW1]; exact below_alloc (Below.refl _ _) _⟩
  clear hT hq hs hq2 hG hR hG2 hR2 hx hbx hy hby hGP ha hb0 hl hbb hW1
  unfold AskV.val AskV.cells
  go_enter Tryd.func3, Tryd.ntmps3
  go_wp2_with fail
  rw [W1E.out, BE.out]
  refine (AC.out _).mono ?_
  rintro e w1 ⟨rfl, hb⟩
  have AB2 := Aside0.mk (blk_below AB.out hb)
  have HB2 := Aside0.mk (below_step HB.out hb)
  clear hb AB HB
  have AB := AB2
  have HB := HB2
  clear AB2 HB2
  clear AC W1E BE c1 c2 c3 d1 d2 d3
  obtain ⟨y0, y1, y2, y3, y4, y5, _⟩ := six_facts AB.out
  go_wp2_with fail
  skip
  refine (PC.out _).mono ?_
  rintro e w2 ⟨rfl, hb⟩
  have AB2 := Aside0.mk (blk_below AB.out hb)
  have HB2 := Aside0.mk (below_step HB.out hb)
  clear hb AB HB
  have AB := AB2
  have HB := HB2
  clear AB2 HB2
  clear y0 y1 y2 y3 y4 y5
  obtain ⟨y0, y1, y2, y3, y4, y5, _⟩ := six_facts AB.out
  go_wp2_with fail
  refine (PR.out _).mono ?_
  rintro e w3 ⟨rfl, hb⟩
  have AB2 := Aside0.mk (blk_below AB.out hb)
  have HB2 := Aside0.mk (below_step HB.out hb)
  clear hb AB HB
  have AB := AB2
  have HB := HB2
  clear AB2 HB2
  clear y0 y1 y2 y3 y4 y5
  clear PC PR
  go_wp2_with fail
  refine (GC.out _).mono ?_
  rintro e w4 ⟨rfl, hb⟩
  have AB2 := Aside0.mk (blk_below AB.out hb)
  have HB2 := Aside0.mk (below_step HB.out hb)
  clear hb AB HB
  have AB := AB2
  have HB := HB2
  clear AB2 HB2
  obtain ⟨xb, hg⟩ : ∃ g, w4.heap.size = g := ⟨_, rfl⟩
  obtain ⟨w5, hw⟩ : ∃ W, w4.alloc (.cells x.cells 23) = W := ⟨_, rfl⟩
  have WE : Aside0 (w4.alloc (.cells #[.int .i64 x.kind, .int .i64 x.id, .int .i64 x.fr, .int .i64 x.tt, .int .i64 x.snap, .string x.text] 23) = w5) := ⟨hw⟩
  have GE := Aside0.mk hg
  have hd : Below w4.heap.size w4 w5 := by rw [← hw]; exact below_alloc (Below.refl _ _) _
  have XB : Aside0 (w5.heap[xb]? = some (.cells x.cells 23 (0, 0))) := ⟨by rw [← hw, ← hg]; exact blk_new _ _⟩
  have AB2 := Aside0.mk (blk_below AB.out hd)
  have HB2 := Aside0.mk (below_step HB.out hd)
  clear hd AB HB
  have AB := AB2
  have HB := HB2
  clear AB2 HB2
  clear hw hg
  unfold AskV.val AskV.cells
  go_wp2_with fail
  rw [WE.out, GE.out]
  refine (GR.out _).mono ?_
  rintro e w6 ⟨rfl, hb⟩
  have AB2 := Aside0.mk (blk_below AB.out hb)
  have XB2 := Aside0.mk (blk_below XB.out hb)
  have HB2 := Aside0.mk (below_step HB.out hb)
  clear hb AB XB HB
  have AB := AB2
  have XB := XB2
  have HB := HB2
  clear AB2 XB2 HB2
  clear WE GE GC GR
  obtain ⟨zb, hg⟩ : ∃ g, w6.heap.size = g := ⟨_, rfl⟩
  obtain ⟨w7, hw⟩ : ∃ W, w6.alloc (.cells x.cells 23) = W := ⟨_, rfl⟩
  have WE : Aside0 (w6.alloc (.cells #[.int .i64 x.kind, .int .i64 x.id, .int .i64 x.fr, .int .i64 x.tt, .int .i64 x.snap, .string x.text] 23) = w7) := ⟨hw⟩
  have GE := Aside0.mk hg
  have hd : Below w6.heap.size w6 w7 := by rw [← hw]; exact below_alloc (Below.refl _ _) _
  have ZB : Aside0 (w7.heap[zb]? = some (.cells x.cells 23 (0, 0))) := ⟨by rw [← hw, ← hg]; exact blk_new _ _⟩
  have AB2 := Aside0.mk (blk_below AB.out hd)
  have XB2 := Aside0.mk (blk_below XB.out hd)
  have HB2 := Aside0.mk (below_step HB.out hd)
  clear hd AB XB HB
  have AB := AB2
  have XB := XB2
  have HB := HB2
  clear AB2 XB2 HB2
  clear hw hg
  unfold AskV.val AskV.cells
  go_wp2_with fail
  rw [WE.out, GE.out]
  refine (RC.out _).mono ?_
  rintro e w8 ⟨rfl, hb⟩
  have AB2 := Aside0.mk (blk_below AB.out hb)
  have XB2 := Aside0.mk (blk_below XB.out hb)
  have ZB2 := Aside0.mk (blk_below ZB.out hb)
  have HB2 := Aside0.mk (below_step HB.out hb)
  clear hb AB XB ZB HB
  have AB := AB2
  have XB := XB2
  have ZB := ZB2
  have HB := HB2
  clear AB2 XB2 ZB2 HB2
  clear WE GE RC
  obtain ⟨yb, hg⟩ : ∃ g, w8.heap.size = g := ⟨_, rfl⟩
  obtain ⟨w9, hw⟩ : ∃ W, w8.alloc (.cells y.cells 23) = W := ⟨_, rfl⟩
  have WE : Aside0 (w8.alloc (.cells #[.int .i64 y.kind, .int .i64 y.id, .int .i64 y.fr, .int .i64 y.tt, .int .i64 y.snap, .string y.text] 23) = w9) := ⟨hw⟩
  have GE := Aside0.mk hg
  have hd : Below w8.heap.size w8 w9 := by rw [← hw]; exact below_alloc (Below.refl _ _) _
  have YB : Aside0 (w9.heap[yb]? = some (.cells y.cells 23 (0, 0))) := ⟨by rw [← hw, ← hg]; exact blk_new _ _⟩
  have AB2 := Aside0.mk (blk_below AB.out hd)
  have XB2 := Aside0.mk (blk_below XB.out hd)
  have ZB2 := Aside0.mk (blk_below ZB.out hd)
  have HB2 := Aside0.mk (below_step HB.out hd)
  clear hd AB XB ZB HB
  have AB := AB2
  have XB := XB2
  have ZB := ZB2
  have HB := HB2
  clear AB2 XB2 ZB2 HB2
  clear hw hg
  unfold AskV.val AskV.cells
  go_wp2_with fail
  rw [WE.out, GE.out]
  refine (RR.out _).mono ?_
  rintro e w10 ⟨rfl, hb⟩
  have AB2 := Aside0.mk (blk_below AB.out hb)
  have XB2 := Aside0.mk (blk_below XB.out hb)
  have ZB2 := Aside0.mk (blk_below ZB.out hb)
  have YB2 := Aside0.mk (blk_below YB.out hb)
  have HB2 := Aside0.mk (below_step HB.out hb)
  clear hb AB XB ZB YB HB
  have AB := AB2
  have XB := XB2
  have ZB := ZB2
  have YB := YB2
  have HB := HB2
  clear AB2 XB2 ZB2 YB2 HB2
  clear WE GE RR
  obtain ⟨vb, hg⟩ : ∃ g, w10.heap.size = g := ⟨_, rfl⟩
  obtain ⟨w11, hw⟩ : ∃ W, w10.alloc (.cells y.cells 23) = W := ⟨_, rfl⟩
  have WE : Aside0 (w10.alloc (.cells #[.int .i64 y.kind, .int .i64 y.id, .int .i64 y.fr, .int .i64 y.tt, .int .i64 y.snap, .string y.text] 23) = w11) := ⟨hw⟩
  have GE := Aside0.mk hg
  have hd : Below w10.heap.size w10 w11 := by rw [← hw]; exact below_alloc (Below.refl _ _) _
  have VB : Aside0 (w11.heap[vb]? = some (.cells y.cells 23 (0, 0))) := ⟨by rw [← hw, ← hg]; exact blk_new _ _⟩
  have AB2 := Aside0.mk (blk_below AB.out hd)
  have XB2 := Aside0.mk (blk_below XB.out hd)
  have ZB2 := Aside0.mk (blk_below ZB.out hd)
  have YB2 := Aside0.mk (blk_below YB.out hd)
  have HB2 := Aside0.mk (below_step HB.out hd)
  clear hd AB XB ZB YB HB
  have AB := AB2
  have XB := XB2
  have ZB := ZB2
  have YB := YB2
  have HB := HB2
  clear AB2 XB2 ZB2 YB2 HB2
  clear hw hg
  obtain ⟨y0, y1, y2, y3, y4, y5, _⟩ := six_facts AB.out
  rw [← WE.out] at y0
  rw [← WE.out] at y1
  rw [← WE.out] at y2
  rw [← WE.out] at y3
  rw [← WE.out] at y4
  rw [← WE.out] at y5
  unfold AskV.val AskV.cells
  go_wp2_with fail
  rw [WE.out, GE.out]
  refine (TC.out _).mono ?_
  rintro e w12 ⟨rfl, hb⟩
  have AB2 := Aside0.mk (blk_below AB.out hb)
  have XB2 := Aside0.mk (blk_below XB.out hb)
  have ZB2 := Aside0.mk (blk_below ZB.out hb)
  have YB2 := Aside0.mk (blk_below YB.out hb)
  have VB2 := Aside0.mk (blk_below VB.out hb)
  have HB2 := Aside0.mk (below_step HB.out hb)
  clear hb AB XB ZB YB VB HB
  have AB := AB2
  have XB := XB2
  have ZB := ZB2
  have YB := YB2
  have VB := VB2
  have HB := HB2
  clear AB2 XB2 ZB2 YB2 VB2 HB2
  clear y0 y1 y2 y3 y4 y5
  clear WE GE TC
  obtain ⟨y0, y1, y2, y3, y4, y5, _⟩ := six_facts XB.out
  obtain ⟨z0, z1, z2, z3, z4, z5, _⟩ := six_facts ZB.out
  obtain ⟨t0, t1, t2, t3, t4, t5, _⟩ := six_facts YB.out
  obtain ⟨v0, v1, v2, v3, v4, v5, _⟩ := six_facts VB.out
  go_wp2_with fail
  refine (N1.out _).mono ?_
  rintro e w13 ⟨rfl, hb⟩
  have AB2 := Aside0.mk (blk_below AB.out hb)
  have XB2 := Aside0.mk (blk_below XB.out hb)
  have ZB2 := Aside0.mk (blk_below ZB.out hb)
  have YB2 := Aside0.mk (blk_below YB.out hb)
  have VB2 := Aside0.mk (blk_below VB.out hb)
  have HB2 := Aside0.mk (below_step HB.out hb)
  clear hb AB XB ZB YB VB HB
  have AB := AB2
  have XB := XB2
  have ZB := ZB2
  have YB := YB2
  have VB := VB2
  have HB := HB2
  clear AB2 XB2 ZB2 YB2 VB2 HB2
  clear y0 y1 y2 y3 y4 y5
  clear z0 z1 z2 z3 z4 z5
  clear t0 t1 t2 t3 t4 t5
  clear v0 v1 v2 v3 v4 v5
  go_wp2_with fail
  refine (N2.out _).mono ?_
  rintro e w14 ⟨rfl, hb⟩
  replace hb := hb.below
  have AB2 := Aside0.mk (blk_below AB.out hb)
  have XB2 := Aside0.mk (blk_below XB.out hb)
  have ZB2 := Aside0.mk (blk_below ZB.out hb)
  have YB2 := Aside0.mk (blk_below YB.out hb)
  have VB2 := Aside0.mk (blk_below VB.out hb)
  have HB2 := Aside0.mk (below_step HB.out hb)
  clear hb AB XB ZB YB VB HB
  have AB := AB2
  have XB := XB2
  have ZB := ZB2
  have YB := YB2
  have VB := VB2
  have HB := HB2
  clear AB2 XB2 ZB2 YB2 VB2 HB2
  clear N1 N2
  cases q with
  | false =>
    go_wp2_with fail
    go_ret
    exact ⟨rfl, HB.out⟩
  | true =>
    have GP2 := Aside0.mk (GP.out rfl)
    clear GP
    go_wp2_with fail
    refine (GP2.out _).mono ?_
    rintro e w15 ⟨rfl, hb⟩
    have AB2 := Aside0.mk (blk_below AB.out hb)
    have HB2 := Aside0.mk (below_step HB.out hb)
    clear hb AB HB XB YB ZB VB GP2
    have hd : Below w15.heap.size w15 (w15.alloc (.cells #[.int .i64 a.kind, .int .i64 a.id, .int .i64 a.fr, .int .i64 a.tt, .int .i64 a.snap, .string a.text] 23)) := below_alloc (Below.refl _ _) _
    obtain ⟨y0, y1, y2, y3, y4, y5, _⟩ := six_facts (blk_below AB2.out hd)
    have HB3 := Aside0.mk (below_step HB2.out hd)
    clear hd AB2 HB2
    unfold outOf AskV.val AskV.cells
    go_wp2_with fail
    go_ret
    exact ⟨rfl, HB3.out⟩
theorem tells_calls20 (k i f t s : Int) (x : ByteArray) (b line : ByteArray) (kind : Int) (w : World) (_ : ((Lit.int .i64 k).wf = true ∧ (Lit.int .i64 i).wf = true ∧ (Lit.int .i64 f).wf = true ∧ (Lit.int .i64 t).wf = true ∧ (Lit.int .i64 s).wf = true)) (_ : x.size ≤ 9223372036854775807) (_ : b.size ≤ 140737488351232) (_ : line.size ≤ 140737488351232) (_ : (Lit.int .i64 kind).wf = true) : Calls Tryd.prog 3 #[.agg #[.int .i64 k, .int .i64 i, .int .i64 f, .int .i64 t, .int .i64 s, .string x], .string b, .string line, .int .i64 kind] w fun e w' => e = .returned (.bool true) ∧ Below w.heap.size w w' := by
  by_cases h : 300 < x.size ∨ 300 < b.size ∨ 300 < line.size
  · exact tells_out ⟨k, i, f, t, s, x⟩ b line kind w h
  · exact tells_in ⟨k, i, f, t, s, x⟩ b line kind w (by show x.size ≤ 300; omega) (by omega) (by omega)
end Go.Proofs.YtbmjekekpmabbaaDoor.P
