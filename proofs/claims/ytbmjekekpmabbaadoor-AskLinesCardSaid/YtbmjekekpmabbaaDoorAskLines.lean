/- The law AskLines answers true: its walk. Conditions: none. (Printed by genlines.py.) -/
import Derived.Test.YtbmjekekpmabbaaDoorTaleM
import Derived.Test.YtbmjekekpmabbaaDoorAskAlive
import Derived.Test.YtbmjekekpmabbaaDoorAskG
import Derived.Test.YtbmjekekpmabbaaDoorP6
set_option linter.unusedVariables false
set_option linter.unusedSimpArgs false
namespace Go.Proofs.YtbmjekekpmabbaaDoor.P
open Go.RowKit Go.Proofs.YtbmjekekpmabbaaDoorW.PrintWords Go.Proofs.YtbmjekekpmabbaaDoorW.PrintLast Go.Proofs.YtbmjekekpmabbaaDoorW.PrintMore

def askLines.T13 : Bool × List (List Nat × List Nat) := (true, [([], []), ([0], [0]), ([1], [1]), ([], []), ([3], [3]), ([4, 2], [4]), ([2, 5, 0, 1, 2], [2]), ([5, 6, 0, 1, 2, 3, 4, 5, 6], [5])])
def askLines.B13 : List Nat := [0, 1, 3, 0, 8, 31, 63, 127]
theorem askLines.tab13 : rtab .any (opsOf Tryd.f4 13) = askLines.T13 := by kernel_rfl
theorem askLines.bits13 : waitsOk askLines.T13.2 askLines.B13 = true := by kernel_rfl
theorem blk_grown {W w1 : World} {r : Option Nat} {g : Nat} {t : TypeId} {cs : Array Value} (h : W.heap[g]? = some (.cells cs t (0, 0))) (hg : W.grownBy w1 r) (hne : r ≠ some g) : w1.heap[g]? = some (.cells cs t (0, 0)) :=
  (hg.block g (blk_lt h) (fun e => hne e.symm)).trans h
theorem R_ok {e base : Nat} {ok : Nat → Prop} {W : World} {v : Value} {xs : List ByteArray} (h : Kd.string.R e W base (fun _ => True) v xs) (hk : ∀ k, v.ownBlock = some k → ok k) : Kd.string.R e W base ok v xs :=
  Kd.R_of_own (Kd.own_of_R h) hk
set_option maxRecDepth 100000 in
set_option maxHeartbeats 4000000 in
theorem lines_out (a : AskV) (w : World) (h : a.ok = false) :
    Calls Tryd.prog 4 #[a.val] w fun e w' => e = .returned (.bool true) ∧ Below w.heap.size w w' := by
  have AC := Aside0.mk (fun w => scriniumlaw20_alive.calls 6 true w alive_ok)
  have ht := fun w => ask_Right.told a.kind a.id a.fr a.tt a.snap a.text w
  rw [show askB a.kind a.id a.fr a.tt a.snap a.text = false from h] at ht
  have TC := Aside0.mk ht
  have hb1 : Below w.heap.size w (w.alloc (.cells #[.int .i64 a.kind, .int .i64 a.id, .int .i64 a.fr, .int .i64 a.tt, .int .i64 a.snap, .string a.text] 23)) := below_alloc (Below.refl _ _) _
  have HB := Aside0.mk hb1
  clear ht h hb1
  unfold AskV.val AskV.cells
  go_enter Tryd.func4, Tryd.ntmps4
  go_wp2_with fail
  refine (TC.out _).mono ?_
  rintro e w1 ⟨rfl, hb⟩
  have HB1 := Aside0.mk (below_step HB.out hb)
  clear hb
  go_wp2_with fail
  refine (AC.out _).mono ?_
  rintro e w2 ⟨rfl, hb⟩
  have HB2 := Aside0.mk (below_step HB1.out hb)
  clear hb
  go_wp2_with fail
  go_ret
  exact ⟨rfl, HB2.out⟩
set_option maxRecDepth 100000 in
set_option maxHeartbeats 4000000 in
theorem lines_in (a : AskV) (w : World) (h : a.ok = true) :
    Calls Tryd.prog 4 #[a.val] w fun e w' => e = .returned (.bool true) ∧ Below w.heap.size w w' := by
  have AC := Aside0.mk (fun w => scriniumlaw20_alive.calls 6 true w alive_ok)
  have ht := fun w => ask_Right.told a.kind a.id a.fr a.tt a.snap a.text w
  rw [show askB a.kind a.id a.fr a.tt a.snap a.text = true from h] at ht
  have TC := Aside0.mk ht
  obtain ⟨hk, hi, hf, ht_, hsn, hx⟩ := ok_rng h
  have FC := Aside0.mk (fun w => scriniumref1_Fields.calls 20 a.kind _ _ _ _ _ w (fields_in a.kind hk.1 hk.2))
  have NC := Aside0.mk (name_calls a.kind)
  have XC := Aside0.mk (fun w => scriniumref1_Hex.calls (a.text.size + 1) a.text _ w (hex_ok a.text (by omega) _ (Nat.le_refl _)))
  have DC : Aside0 (∀ i w, Calls Tryd.prog 23 #[.int .i64 (fldI a i)] w fun e w' => e = .returned (.string (digB (fldI a i))) ∧ Below w.heap.size w w') := ⟨fun i w => by
    have hr : 0 ≤ fldI a i ∧ fldI a i ≤ 65535 := by unfold fldI; split <;> (try split) <;> (try split) <;> omega
    exact scriniumlaw20_digits.calls 6 (fldI a i) _ w (digits_at (fldI a i) 6 (Nat.le_refl _) hr.1 (by omega))⟩
  have RC := Aside0.mk (fun s w (hs : s.size ≤ 1000000) => read_calls s w hs)
  have OK := Aside0.mk h
  have SX : Aside0 (a.text.size ≤ 40) := ⟨hx⟩
  obtain ⟨b, hbb⟩ : ∃ b, w.heap.size = b := ⟨_, rfl⟩
  obtain ⟨W1, hW1⟩ : ∃ W1, w.alloc (.cells a.cells 23) = W1 := ⟨_, rfl⟩
  have W1E : Aside0 (w.alloc (.cells #[.int .i64 a.kind, .int .i64 a.id, .int .i64 a.fr, .int .i64 a.tt, .int .i64 a.snap, .string a.text] 23) = W1) := ⟨hW1⟩
  have BE := Aside0.mk hbb
  have AB : Aside0 (W1.heap[b]? = some (.cells a.cells 23 (0, 0))) := ⟨by rw [← hW1, ← hbb]; exact blk_new _ _⟩
  have HB : Aside0 (Below w.heap.size w W1) := ⟨by rw [← hW1]; exact below_alloc (Below.refl _ _) _⟩
  clear ht h hk hi hf ht_ hsn hx hbb hW1
  unfold AskV.val AskV.cells
  go_enter Tryd.func4, Tryd.ntmps4
  go_wp2_with fail
  rw [W1E.out, BE.out]
  refine (TC.out _).mono ?_
  rintro e w1 ⟨rfl, hb⟩
  have AB1 := Aside0.mk (blk_below AB.out hb)
  have HB1 := Aside0.mk (below_step HB.out hb)
  clear hb AB HB W1E BE
  go_wp2_with fail
  refine (AC.out _).mono ?_
  rintro e w2 ⟨rfl, hb⟩
  have AB := Aside0.mk (blk_below AB1.out hb)
  have HB := Aside0.mk (below_step HB1.out hb)
  clear hb AB1 HB1 AC TC
  obtain ⟨y0, y1, y2, y3, y4, y5, _⟩ := six_facts AB.out
  clear y1 y2 y3 y4 y5
  go_wp2_with fail
  refine (FC.out _).mono ?_
  rintro e w3 ⟨rfl, hd⟩
  have AB3 := Aside0.mk (blk_below AB.out hd.below)
  have HB3 := Aside0.mk (below_step HB.out hd.below)
  clear hd AB HB y0 FC
  have AB := AB3
  have HB := HB3
  clear AB3 HB3
  have hfirst : ∃ (t i f o s : Bool), (hasC (hasOf a.kind) 116 = t ∧ hasC (hasOf a.kind) 105 = i ∧ hasC (hasOf a.kind) 102 = f ∧ hasC (hasOf a.kind) 111 = o ∧ hasC (hasOf a.kind) 115 = s) := ⟨_, _, _, _, _, rfl, rfl, rfl, rfl, rfl⟩
  obtain ⟨t, i, f, o, s, et, ei, ef, eo, es⟩ := hfirst
  rw [et, ei, ef, eo, es]
  have FT : Aside0 (hasB a.kind = (t, i, f, o, s)) := ⟨by unfold hasB; rw [et, ei, ef, eo, es]⟩
  have FLG : Aside0 (∀ j, flag a.kind j = fourC i f o s j) := ⟨fun j => by unfold flag fourC; rw [FT.out]⟩
  clear et ei ef eo es
  cases t with
  | true =>
    have W0 : Aside0 (wTo a 0 = [hexB a.text]) := ⟨by show w0Of a = _; unfold w0Of; rw [FT.out]; rfl⟩
    obtain ⟨y0, y1, y2, y3, y4, y5, _⟩ := six_facts AB.out
    clear y0 y1 y2 y3 y4
    go_wp2_with fail
    refine (XC.out _).mono ?_
    rintro e w5 ⟨rfl, hd⟩
    have AB5 := Aside0.mk (blk_below AB.out hd.below)
    have HB5 := Aside0.mk (below_step HB.out hd.below)
    clear hd AB HB y5 XC
    have HSZ : Aside0 (w.heap.size ≤ w5.heap.size) := ⟨HB5.out.size⟩
    go_wp2_with (first | ((with_reducible refine gate_builtin (b := .append) (xs := #[.tmp 43, .tmp 47]) rfl ?_); at_builtin; refine Kd.R_append Kd.string (w0 := w) w.heap.size rfl (.tmp 43) (.tmp 47) 34 9 (.string ⟨#[]⟩) 16 rfl Tryd.underlying34 infoStr rfl (by decide) (by decide) (.slice none 0 0) ([] : List ByteArray) (hexB a.text) [.string (hexB a.text)] (fun _ => True) (fun _ => False) rfl (by first | (go_simp; done) | (go_simp; rfl)) (by rfl) (fun _ hk => hk.elim) (fun _ _ => trivial) (Kd.R_nil _ _ _ _ _) HB5.out HSZ.out (by decide) ?_; intro v w6 ho hb hg hat; have GA := Aside0.mk hg; have HO := Aside0.mk ho; have HB := Aside0.mk hb; clear ho hb hg hat))
    have AB := Aside0.mk (blk_grown AB5.out GA.out (by show (none : Option Nat) ≠ some _; exact fun h => by cases h))
    rw [List.nil_append, ← W0.out] at HO
    clear HB5 AB5 HSZ W0 GA
    obtain ⟨fb, hfb⟩ : ∃ fb, w6.heap.size = fb := ⟨_, rfl⟩
    obtain ⟨W7, hW7⟩ : ∃ W7, w6.alloc (.cells #[.bool i, .bool f, .bool o, .bool s] 4) = W7 := ⟨_, rfl⟩
    rw [hW7]
    have hd7 : Below w6.heap.size w6 W7 := by rw [← hW7]; exact below_alloc (Below.refl _ _) _
    have AB7 := Aside0.mk (blk_below AB.out hd7)
    have HB7 := Aside0.mk (below_step HB.out hd7)
    have HO7 := Aside0.mk (Kd.R_below HO.out hd7)
    have FB7 : Aside0 (W7.heap[fb]? = some (.cells #[.bool i, .bool f, .bool o, .bool s] 4 (0, 0))) := ⟨by rw [← hW7, ← hfb]; exact blk_new _ _⟩
    have BLT : Aside0 (w.heap.size ≤ fb) := ⟨by have := HB.out.size; omega⟩
    try rw [hfb]
    clear hfb hW7 hd7 AB HB HO
    go_loopw [8, 55] (fun s8 s55 wr => ∃ j : Nat, s55 = .int .i64 (j : Int) ∧ j ≤ 4 ∧ Aside0 (Kd.string.R 9 wr w.heap.size (fun _ => True) s8 (wTo a j)) ∧ Aside0 (wr.heap[b]? = some (.cells a.cells 23 (0, 0))) ∧ Aside0 (wr.heap[fb]? = some (.cells #[.bool i, .bool f, .bool o, .bool s] 4 (0, 0))) ∧ Aside0 (Below w.heap.size w wr)) (fun _ s55 _ => 4 - (intOf s55).toNat)
    case atStart => exact ⟨0, rfl, by decide, HO7, AB7, FB7, HB7⟩
    case round =>
      clear AB7 FB7 HB7 HO7
      obtain ⟨j, rfl, hj, HO, AB, FB, HB⟩ := hrel
      rcases (show j = 0 ∨ j = 1 ∨ j = 2 ∨ j = 3 ∨ j = 4 by omega) with rfl | rfl | rfl | rfl | rfl
      · have k1 := blk_cell FB.out 0
        rw [show (#[Value.bool i, Value.bool f, Value.bool o, Value.bool s] : Array Value)[0]? = some (.bool i) from rfl] at k1
        have hq : flag a.kind 0 = i := FLG.out 0
        have hA : wTo a (0 + 1) = if flag a.kind 0 = true then wTo a 0 ++ [digB a.id] else wTo a 0 := rfl
        have hlw := wTo_len a 0
        rw [hq] at hA
        have HA := Aside0.mk hA
        have DJ : Aside0 (∀ w, Calls Tryd.prog 23 #[.int .i64 a.id] w fun e w' => e = .returned (.string (digB a.id)) ∧ Below w.heap.size w w') := ⟨DC.out 0⟩
        have LW := Aside0.mk hlw
        clear hA hq hlw
        cases i with
        | true =>
          obtain ⟨y0, y1, y2, y3, y4, y5, _⟩ := six_facts AB.out
          obtain ⟨wa, hwa⟩ : ∃ wa, (wr.alloc (.cells #[.int .i64 a.id, .int .i64 a.fr, .int .i64 a.tt, .int .i64 a.snap] 3)) = wa := ⟨_, rfl⟩
          have hda : Below wr.heap.size wr wa := by rw [← hwa]; exact below_alloc (Below.refl _ _) _
          have ABA := Aside0.mk (blk_below AB.out hda)
          have HBA := Aside0.mk (below_step HB.out hda)
          have FBA := Aside0.mk (blk_below FB.out hda)
          have HOA := Aside0.mk (Kd.R_below HO.out hda)
          have HWA := Aside0.mk hwa
          clear hda hwa HO
          go_wp2_with fail
          rw [HWA.out]
          refine (DJ.out _).mono ?_
          rintro e w7 ⟨rfl, hb⟩
          have ABN := Aside0.mk (blk_below ABA.out hb)
          have HBN := Aside0.mk (below_step HBA.out hb)
          have FBN := Aside0.mk (blk_below FBA.out hb)
          have HON := Aside0.mk (Kd.R_below HOA.out hb)
          have HSZ : Aside0 (w.heap.size ≤ w7.heap.size) := ⟨HBN.out.size⟩
          clear hb HWA AB HB FB k1 HBA ABA FBA HOA y0 y1 y2 y3 y4 y5 wa
          go_wp2_with (first | ((with_reducible refine gate_builtin (b := .append) (xs := #[.tmp 61, .tmp 75]) rfl ?_); at_builtin; refine Kd.R_append Kd.string (w0 := w) w.heap.size rfl (.tmp 61) (.tmp 75) 34 9 (.string ⟨#[]⟩) 16 rfl Tryd.underlying34 infoStr rfl (by decide) (by decide) _ (wTo a 0) (digB a.id) [.string (digB a.id)] (fun _ => True) (fun _ => False) rfl (by first | (go_simp; done) | (go_simp; rfl)) (by rfl) (fun _ hk => hk.elim) (fun _ _ => trivial) HON.out HBN.out HSZ.out (by have := LW.out; omega) ?_; intro v8 w8 ho hb hg hat; have GA := Aside0.mk hg; have HO8 := Aside0.mk ho; have HB8 := Aside0.mk hb; clear ho hb hg hat))
          have AB8 := Aside0.mk (blk_grown ABN.out GA.out (fun e => Kd.R_ne HON.out ABN.out (by decide) e.symm))
          have FB8 := Aside0.mk (blk_grown FBN.out GA.out (fun e => Kd.R_ne HON.out FBN.out (by decide) e.symm))
          refine ⟨⟨1, by go_num, by decide, by rw [HA.out]; exact HO8, AB8, FB8, HB8⟩, ?_⟩
          simp [intOf]
        | false =>
          go_wp2_with fail
          refine ⟨⟨1, by go_num, by decide, by rw [HA.out]; exact HO, AB, FB, HB⟩, ?_⟩
          simp [intOf]
      · have k1 := blk_cell FB.out 1
        rw [show (#[Value.bool i, Value.bool f, Value.bool o, Value.bool s] : Array Value)[1]? = some (.bool f) from rfl] at k1
        have hq : flag a.kind 1 = f := FLG.out 1
        have hA : wTo a (1 + 1) = if flag a.kind 1 = true then wTo a 1 ++ [digB a.fr] else wTo a 1 := rfl
        have hlw := wTo_len a 1
        rw [hq] at hA
        have HA := Aside0.mk hA
        have DJ : Aside0 (∀ w, Calls Tryd.prog 23 #[.int .i64 a.fr] w fun e w' => e = .returned (.string (digB a.fr)) ∧ Below w.heap.size w w') := ⟨DC.out 1⟩
        have LW := Aside0.mk hlw
        clear hA hq hlw
        cases f with
        | true =>
          obtain ⟨y0, y1, y2, y3, y4, y5, _⟩ := six_facts AB.out
          obtain ⟨wa, hwa⟩ : ∃ wa, (wr.alloc (.cells #[.int .i64 a.id, .int .i64 a.fr, .int .i64 a.tt, .int .i64 a.snap] 3)) = wa := ⟨_, rfl⟩
          have hda : Below wr.heap.size wr wa := by rw [← hwa]; exact below_alloc (Below.refl _ _) _
          have ABA := Aside0.mk (blk_below AB.out hda)
          have HBA := Aside0.mk (below_step HB.out hda)
          have FBA := Aside0.mk (blk_below FB.out hda)
          have HOA := Aside0.mk (Kd.R_below HO.out hda)
          have HWA := Aside0.mk hwa
          clear hda hwa HO
          go_wp2_with fail
          rw [HWA.out]
          refine (DJ.out _).mono ?_
          rintro e w7 ⟨rfl, hb⟩
          have ABN := Aside0.mk (blk_below ABA.out hb)
          have HBN := Aside0.mk (below_step HBA.out hb)
          have FBN := Aside0.mk (blk_below FBA.out hb)
          have HON := Aside0.mk (Kd.R_below HOA.out hb)
          have HSZ : Aside0 (w.heap.size ≤ w7.heap.size) := ⟨HBN.out.size⟩
          clear hb HWA AB HB FB k1 HBA ABA FBA HOA y0 y1 y2 y3 y4 y5 wa
          go_wp2_with (first | ((with_reducible refine gate_builtin (b := .append) (xs := #[.tmp 61, .tmp 75]) rfl ?_); at_builtin; refine Kd.R_append Kd.string (w0 := w) w.heap.size rfl (.tmp 61) (.tmp 75) 34 9 (.string ⟨#[]⟩) 16 rfl Tryd.underlying34 infoStr rfl (by decide) (by decide) _ (wTo a 1) (digB a.fr) [.string (digB a.fr)] (fun _ => True) (fun _ => False) rfl (by first | (go_simp; done) | (go_simp; rfl)) (by rfl) (fun _ hk => hk.elim) (fun _ _ => trivial) HON.out HBN.out HSZ.out (by have := LW.out; omega) ?_; intro v8 w8 ho hb hg hat; have GA := Aside0.mk hg; have HO8 := Aside0.mk ho; have HB8 := Aside0.mk hb; clear ho hb hg hat))
          have AB8 := Aside0.mk (blk_grown ABN.out GA.out (fun e => Kd.R_ne HON.out ABN.out (by decide) e.symm))
          have FB8 := Aside0.mk (blk_grown FBN.out GA.out (fun e => Kd.R_ne HON.out FBN.out (by decide) e.symm))
          refine ⟨⟨2, by go_num, by decide, by rw [HA.out]; exact HO8, AB8, FB8, HB8⟩, ?_⟩
          simp [intOf]
        | false =>
          go_wp2_with fail
          refine ⟨⟨2, by go_num, by decide, by rw [HA.out]; exact HO, AB, FB, HB⟩, ?_⟩
          simp [intOf]
      · have k1 := blk_cell FB.out 2
        rw [show (#[Value.bool i, Value.bool f, Value.bool o, Value.bool s] : Array Value)[2]? = some (.bool o) from rfl] at k1
        have hq : flag a.kind 2 = o := FLG.out 2
        have hA : wTo a (2 + 1) = if flag a.kind 2 = true then wTo a 2 ++ [digB a.tt] else wTo a 2 := rfl
        have hlw := wTo_len a 2
        rw [hq] at hA
        have HA := Aside0.mk hA
        have DJ : Aside0 (∀ w, Calls Tryd.prog 23 #[.int .i64 a.tt] w fun e w' => e = .returned (.string (digB a.tt)) ∧ Below w.heap.size w w') := ⟨DC.out 2⟩
        have LW := Aside0.mk hlw
        clear hA hq hlw
        cases o with
        | true =>
          obtain ⟨y0, y1, y2, y3, y4, y5, _⟩ := six_facts AB.out
          obtain ⟨wa, hwa⟩ : ∃ wa, (wr.alloc (.cells #[.int .i64 a.id, .int .i64 a.fr, .int .i64 a.tt, .int .i64 a.snap] 3)) = wa := ⟨_, rfl⟩
          have hda : Below wr.heap.size wr wa := by rw [← hwa]; exact below_alloc (Below.refl _ _) _
          have ABA := Aside0.mk (blk_below AB.out hda)
          have HBA := Aside0.mk (below_step HB.out hda)
          have FBA := Aside0.mk (blk_below FB.out hda)
          have HOA := Aside0.mk (Kd.R_below HO.out hda)
          have HWA := Aside0.mk hwa
          clear hda hwa HO
          go_wp2_with fail
          rw [HWA.out]
          refine (DJ.out _).mono ?_
          rintro e w7 ⟨rfl, hb⟩
          have ABN := Aside0.mk (blk_below ABA.out hb)
          have HBN := Aside0.mk (below_step HBA.out hb)
          have FBN := Aside0.mk (blk_below FBA.out hb)
          have HON := Aside0.mk (Kd.R_below HOA.out hb)
          have HSZ : Aside0 (w.heap.size ≤ w7.heap.size) := ⟨HBN.out.size⟩
          clear hb HWA AB HB FB k1 HBA ABA FBA HOA y0 y1 y2 y3 y4 y5 wa
          go_wp2_with (first | ((with_reducible refine gate_builtin (b := .append) (xs := #[.tmp 61, .tmp 75]) rfl ?_); at_builtin; refine Kd.R_append Kd.string (w0 := w) w.heap.size rfl (.tmp 61) (.tmp 75) 34 9 (.string ⟨#[]⟩) 16 rfl Tryd.underlying34 infoStr rfl (by decide) (by decide) _ (wTo a 2) (digB a.tt) [.string (digB a.tt)] (fun _ => True) (fun _ => False) rfl (by first | (go_simp; done) | (go_simp; rfl)) (by rfl) (fun _ hk => hk.elim) (fun _ _ => trivial) HON.out HBN.out HSZ.out (by have := LW.out; omega) ?_; intro v8 w8 ho hb hg hat; have GA := Aside0.mk hg; have HO8 := Aside0.mk ho; have HB8 := Aside0.mk hb; clear ho hb hg hat))
          have AB8 := Aside0.mk (blk_grown ABN.out GA.out (fun e => Kd.R_ne HON.out ABN.out (by decide) e.symm))
          have FB8 := Aside0.mk (blk_grown FBN.out GA.out (fun e => Kd.R_ne HON.out FBN.out (by decide) e.symm))
          refine ⟨⟨3, by go_num, by decide, by rw [HA.out]; exact HO8, AB8, FB8, HB8⟩, ?_⟩
          simp [intOf]
        | false =>
          go_wp2_with fail
          refine ⟨⟨3, by go_num, by decide, by rw [HA.out]; exact HO, AB, FB, HB⟩, ?_⟩
          simp [intOf]
      · have k1 := blk_cell FB.out 3
        rw [show (#[Value.bool i, Value.bool f, Value.bool o, Value.bool s] : Array Value)[3]? = some (.bool s) from rfl] at k1
        have hq : flag a.kind 3 = s := FLG.out 3
        have hA : wTo a (3 + 1) = if flag a.kind 3 = true then wTo a 3 ++ [digB a.snap] else wTo a 3 := rfl
        have hlw := wTo_len a 3
        rw [hq] at hA
        have HA := Aside0.mk hA
        have DJ : Aside0 (∀ w, Calls Tryd.prog 23 #[.int .i64 a.snap] w fun e w' => e = .returned (.string (digB a.snap)) ∧ Below w.heap.size w w') := ⟨DC.out 3⟩
        have LW := Aside0.mk hlw
        clear hA hq hlw
        cases s with
        | true =>
          obtain ⟨y0, y1, y2, y3, y4, y5, _⟩ := six_facts AB.out
          obtain ⟨wa, hwa⟩ : ∃ wa, (wr.alloc (.cells #[.int .i64 a.id, .int .i64 a.fr, .int .i64 a.tt, .int .i64 a.snap] 3)) = wa := ⟨_, rfl⟩
          have hda : Below wr.heap.size wr wa := by rw [← hwa]; exact below_alloc (Below.refl _ _) _
          have ABA := Aside0.mk (blk_below AB.out hda)
          have HBA := Aside0.mk (below_step HB.out hda)
          have FBA := Aside0.mk (blk_below FB.out hda)
          have HOA := Aside0.mk (Kd.R_below HO.out hda)
          have HWA := Aside0.mk hwa
          clear hda hwa HO
          go_wp2_with fail
          rw [HWA.out]
          refine (DJ.out _).mono ?_
          rintro e w7 ⟨rfl, hb⟩
          have ABN := Aside0.mk (blk_below ABA.out hb)
          have HBN := Aside0.mk (below_step HBA.out hb)
          have FBN := Aside0.mk (blk_below FBA.out hb)
          have HON := Aside0.mk (Kd.R_below HOA.out hb)
          have HSZ : Aside0 (w.heap.size ≤ w7.heap.size) := ⟨HBN.out.size⟩
          clear hb HWA AB HB FB k1 HBA ABA FBA HOA y0 y1 y2 y3 y4 y5 wa
          go_wp2_with (first | ((with_reducible refine gate_builtin (b := .append) (xs := #[.tmp 61, .tmp 75]) rfl ?_); at_builtin; refine Kd.R_append Kd.string (w0 := w) w.heap.size rfl (.tmp 61) (.tmp 75) 34 9 (.string ⟨#[]⟩) 16 rfl Tryd.underlying34 infoStr rfl (by decide) (by decide) _ (wTo a 3) (digB a.snap) [.string (digB a.snap)] (fun _ => True) (fun _ => False) rfl (by first | (go_simp; done) | (go_simp; rfl)) (by rfl) (fun _ hk => hk.elim) (fun _ _ => trivial) HON.out HBN.out HSZ.out (by have := LW.out; omega) ?_; intro v8 w8 ho hb hg hat; have GA := Aside0.mk hg; have HO8 := Aside0.mk ho; have HB8 := Aside0.mk hb; clear ho hb hg hat))
          have AB8 := Aside0.mk (blk_grown ABN.out GA.out (fun e => Kd.R_ne HON.out ABN.out (by decide) e.symm))
          have FB8 := Aside0.mk (blk_grown FBN.out GA.out (fun e => Kd.R_ne HON.out FBN.out (by decide) e.symm))
          refine ⟨⟨4, by go_num, by decide, by rw [HA.out]; exact HO8, AB8, FB8, HB8⟩, ?_⟩
          simp [intOf]
        | false =>
          go_wp2_with fail
          refine ⟨⟨4, by go_num, by decide, by rw [HA.out]; exact HO, AB, FB, HB⟩, ?_⟩
          simp [intOf]
      · have r0 := tale_reads OK.out 0
        have r2 := tale_reads OK.out 2
        have ra := tale_ahead (sayTo 0 (nameOf a.kind) (wTo a 4) (wTo a 4).length)
        have rb := tale_behind (sayTo 0 (nameOf a.kind) (wTo a 4) (wTo a 4).length)
        have rw_ := tale_word OK.out
        have hfit := fun w hw => (word_fits OK.out w hw).2
        have hln := wTo_len a 4
        have hnm := name_small a.kind
        obtain ⟨ws, hws⟩ : ∃ ws, wTo a 4 = ws := ⟨_, rfl⟩
        rw [hws] at HO r0 r2 ra rb rw_ hfit hln
        have hz : ∀ k j, k ≤ 2 → j ≤ ws.length → (sayTo k (nameOf a.kind) ws j).size ≤ 1000 := fun k j hk hj => by
          have h1 := say_size k (nameOf a.kind) ws hfit j hj
          have h2 : (k + 82) * j ≤ 84 * 5 := Nat.mul_le_mul (by omega) (by omega)
          omega
        have hws2 : ∀ j : Nat, (rdOf ⟨#[]⟩ ws (j : Int)).size ≤ 81 := fun j => by
          unfold rdOf
          rw [Int.toNat_natCast, List.getD_eq_getElem?_getD]
          cases hq : ws[j]? with
          | none => exact Nat.zero_le _
          | some x => exact hfit x (List.mem_of_getElem? hq)
        obtain ⟨n, hn⟩ : ∃ n, ws.length = n := ⟨_, rfl⟩
        rw [hn] at r0 r2 ra rb rw_ hln hz
        have sz0 := hz 0 n (by decide) (Nat.le_refl _)
        have sz2 := hz 2 n (by decide) (Nat.le_refl _)
        have q1 : (⟨#[32]⟩ : ByteArray).size = 1 := rfl
        have q2 : (⟨#[32, 49]⟩ : ByteArray).size = 2 := rfl
        have R0 := Aside0.mk (fun w => RC.out (sayTo 0 (nameOf a.kind) ws n) w (by omega))
        have R2 := Aside0.mk (fun w => RC.out (sayTo 2 (nameOf a.kind) ws n) w (by omega))
        have RA := Aside0.mk (fun w => RC.out (⟨#[32]⟩ ++ sayTo 0 (nameOf a.kind) ws n) w (by rw [ByteArray.size_append, q1]; omega))
        have RB := Aside0.mk (fun w => RC.out (sayTo 0 (nameOf a.kind) ws n ++ ⟨#[32]⟩) w (by rw [ByteArray.size_append, q1]; omega))
        have RW := Aside0.mk (fun w => RC.out (sayTo 0 (nameOf a.kind) ws n ++ ⟨#[32, 49]⟩) w (by rw [ByteArray.size_append, q2]; omega))
        rw [r0] at R0
        rw [r2] at R2
        rw [ra] at RA
        rw [rb] at RB
        rw [rw_] at RW
        have HZ := Aside0.mk hz
        have HWS := Aside0.mk hws2
        have HLN := Aside0.mk hln
        have SZ0 := Aside0.mk sz0
        obtain ⟨A, c, hv, hcap, hC⟩ := Kd.R_reads HO.out
        rw [hn] at hv hcap hC
        subst hv
        have HC := Aside0.mk hC
        have hw0 : wr.cell? ⟨b, 0, none⟩ = some (.int .i64 a.kind) := (six_facts AB.out).1
        clear r0 r2 ra rb rw_ hfit hln hnm hws hz hws2 sz0 sz2 q1 q2 hcap hC HO FB hn RC
        go_wp2_with fail
        refine start_ (n := 8) (S := fun w' => Below wr.heap.size wr w') (ds := []) #[false, false, false, false, false, false, false, false] (by kernel_rfl) rfl rfl (below_drew1 (Below.refl _ _)) (fun hHeld => ?_)
        refine with_tabW askLines.tab13 askLines.bits13 (fun HT_ HW_ => ?_)
        refine take_ (i := 0) (N := some 78) (v := ?_) (a' := ?_) #[true, false, false, false, false, false, false, false] rfl rfl (take_ofW HT_.out HW_.out (by kernel_rfl)) (fun _ _ _ h => h) (Or.inl ⟨by rfl, ?_⟩) hHeld ?_ ?_
        rotate_left
        · intro w' s
          go_simp
          with_reducible rfl
        rotate_left
        · simp only [Act.put, List.setIfInBounds_toArray, List.set_cons_zero, List.set_cons_succ, i64_w, i32_w]
          rfl
        refine take_ (i := 1) (N := some 79) (v := ?_) (a' := ?_) #[true, true, false, false, false, false, false, false] rfl rfl (take_ofW HT_.out HW_.out (by kernel_rfl)) (fun _ _ _ h => h) (Or.inl ⟨by rfl, ?_⟩) hHeld ?_ ?_
        rotate_left
        · intro w' s
          have s0 := pw_cell_below s hw0
          go_simp
          with_reducible rfl
        rotate_left
        · simp only [Act.put, List.setIfInBounds_toArray, List.set_cons_zero, List.set_cons_succ, i64_w, i32_w]
          rfl
        refine take_ (i := 3) (N := some 81) (v := ?_) (a' := ?_) #[true, true, false, true, false, false, false, false] rfl rfl (take_ofW HT_.out HW_.out (by kernel_rfl)) (fun _ _ _ h => h) (Or.inl ⟨by rfl, ?_⟩) hHeld ?_ ?_
        rotate_left
        · intro w' s
          go_simp
          with_reducible rfl
        rotate_left
        · simp only [Act.put, List.setIfInBounds_toArray, List.set_cons_zero, List.set_cons_succ, i64_w, i32_w]
          rfl
        refine take_ (i := 4) (N := some 82) (v := ?_) (a' := ?_) #[true, true, false, true, true, false, false, false] rfl rfl (take_ofW HT_.out HW_.out (by kernel_rfl)) (fun _ _ _ h => h) (Or.inl ⟨by rfl, ?_⟩) hHeld ?_ ?_
        rotate_left
        · intro w' s
          have s0 := pw_cell_below s hw0
          go_simp
          with_reducible rfl
        rotate_left
        · simp only [Act.put, List.setIfInBounds_toArray, List.set_cons_zero, List.set_cons_succ, i64_w, i32_w]
          rfl
        refine one_ (i := 2) (N := some 80) #[true, true, true, true, true, false, false, false] rfl rfl (one_of HT_.out (by kernel_rfl)) (by decide) (fun K hK => ?_)
        refine goes_ Tryd.func19 (by kernel_rfl) rfl #[.int .i64 a.kind] (by rfl) rfl rfl (by (try simp only [List.map_toArray, List.map_cons, List.map_nil]); first | done | rfl) ?_
        refine (NC.out _).mono ?_
        rintro en wn ⟨rfl, hb⟩
        refine ⟨_, rfl, ?_⟩
        have hS3 := below_step hHeld hb
        clear hb
        refine hK.out _ _ hS3 (fun hHeld => ?_)
        clear hK K
        refine norm_ (a' := ?_) ?_ ?_
        rotate_left
        · show Act.put _ (some 80) _ = _
          simp only [Act.put, List.setIfInBounds_toArray, List.set_cons_zero, List.set_cons_succ, i64_w, i32_w]
          rfl
        refine one_ (i := 5) (N := some 83) #[true, true, true, true, true, true, false, false] rfl rfl (one_of HT_.out (by kernel_rfl)) (by decide) (fun K hK => ?_)
        refine goes_ Tryd.func19 (by kernel_rfl) rfl #[.int .i64 a.kind] (by rfl) rfl rfl (by (try simp only [List.map_toArray, List.map_cons, List.map_nil]); first | done | rfl) ?_
        refine (NC.out _).mono ?_
        rintro en wn ⟨rfl, hb⟩
        refine ⟨_, rfl, ?_⟩
        have hS3 := below_step hHeld hb
        clear hb
        refine hK.out _ _ hS3 (fun hHeld => ?_)
        clear hK K
        refine norm_ (a' := ?_) ?_ ?_
        rotate_left
        · show Act.put _ (some 83) _ = _
          simp only [Act.put, List.setIfInBounds_toArray, List.set_cons_zero, List.set_cons_succ, i64_w, i32_w]
          rfl
        refine take_ (i := 6) (N := some 11) (v := ?_) (a' := ?_) #[true, true, true, true, true, true, true, false] rfl rfl (take_ofW HT_.out HW_.out (by kernel_rfl)) (fun _ _ _ h => h) (Or.inl ⟨by rfl, ?_⟩) hHeld ?_ ?_
        rotate_left
        · intro w' s
          go_simp
          with_reducible rfl
        rotate_left
        · simp only [Act.put, List.setIfInBounds_toArray, List.set_cons_zero, List.set_cons_succ, i64_w, i32_w]
          rfl
        refine take_ (i := 7) (N := some 12) (v := ?_) (a' := ?_) #[true, true, true, true, true, true, true, true] rfl rfl (take_ofW HT_.out HW_.out (by kernel_rfl)) (fun _ _ _ h => h) (Or.inl ⟨by rfl, ?_⟩) hHeld ?_ ?_
        rotate_left
        · intro w' s
          go_simp
          with_reducible rfl
        rotate_left
        · simp only [Act.put, List.setIfInBounds_toArray, List.set_cons_zero, List.set_cons_succ, i64_w, i32_w]
          rfl
        refine done_ (done_of HT_.out (by kernel_rfl)) ?_
        have ABN := Aside0.mk (blk_below AB.out hHeld)
        have HBN := Aside0.mk (below_step HB.out hHeld)
        have HCN := Aside0.mk (Kd.C_below HC.out hHeld)
        clear hHeld hw0 AB HB HC NC
        obtain ⟨nm, hnm⟩ : ∃ nm, nameOf a.kind = nm := ⟨_, rfl⟩
        rw [hnm] at HZ R0 R2 RA RB RW SZ0
        rw [hnm]
        clear hnm
        go_wp2_with fail
        have ZB := wn
        go_loopw [11, 12, 86] (fun s11 s12 s86 w' => ∃ j : Nat, s86 = .int .i64 (j : Int) ∧ j ≤ n ∧ s11 = .string (sayTo 0 nm ws j) ∧ s12 = .string (sayTo 2 nm ws j) ∧ w' = wn) (fun _ _ s86 _ => n - (intOf s86).toNat)
        case atStart => exact ⟨0, rfl, Nat.zero_le _, rfl, rfl, rfl⟩
        case round =>
          obtain ⟨j, rfl, hj, rfl, rfl, rfl⟩ := hrel
          by_cases hlt : j < n
          · have c1 : decide ((j : Int) < (n : Int)) = true := decide_eq_true (by omega)
            obtain ⟨ad, had, hcw⟩ := Kd.at_string HCN.out (j : Int) (by omega) (by omega)
            subst had
            rw [show (ByteArray.empty : ByteArray) = ⟨#[]⟩ from rfl, Int.toNat_natCast] at hcw
            have g0 := HZ.out 0 j (by decide) hj
            have g2 := HZ.out 2 j (by decide) hj
            have gx := HWS.out j
            have e0 : sayTo 0 nm ws (j + 1) = sayTo 0 nm ws j ++ (⟨#[32]⟩ ++ rdOf ⟨#[]⟩ ws (j : Int)) := rfl
            have e2 : sayTo 2 nm ws (j + 1) = sayTo 2 nm ws j ++ (⟨#[32, 32, 32]⟩ ++ rdOf ⟨#[]⟩ ws (j : Int)) := rfl
            have E0 := Aside0.mk e0
            have E2 := Aside0.mk e2
            obtain ⟨x, hx⟩ : ∃ x, rdOf ⟨#[]⟩ ws (j : Int) = x := ⟨_, rfl⟩
            rw [hx] at hcw gx E0 E2
            obtain ⟨l0, hl0⟩ : ∃ l0, sayTo 0 nm ws j = l0 := ⟨_, rfl⟩
            obtain ⟨l2, hl2⟩ : ∃ l2, sayTo 2 nm ws j = l2 := ⟨_, rfl⟩
            rw [hl0] at g0 E0
            rw [hl2] at g2 E2
            rw [hl0, hl2]
            have s3 : (9223372036854775807 < 1 + x.size) = False := eq_false (by omega)
            have s4 : (9223372036854775807 < l0.size + (1 + x.size)) = False := eq_false (by omega)
            have s5 : (9223372036854775807 < 3 + x.size) = False := eq_false (by omega)
            have s6 : (9223372036854775807 < l2.size + (3 + x.size)) = False := eq_false (by omega)
            have v5 : IntKind.i64.wrap ((j : Int) + 1) = ((j + 1 : Nat) : Int) := by rw [IntWalk.i64_in _ (by have := HLN.out; omega)]; omega
            have v1 : (0 ≤ (j : Int)) = True := eq_true (by omega)
            have v2 : ((j : Int) < (n : Int)) = True := eq_true (by omega)
            clear hl0 hl2 hx g0 g2 gx e0 e2
            go_wp2_with fail
            refine ⟨⟨j + 1, by go_num, by omega, by rw [E0.out], by rw [E2.out], trivial⟩, ?_⟩
            simp [intOf]
            omega
          · obtain rfl : j = n := by omega
            have c1 : decide ((j : Int) < (j : Int)) = false := decide_eq_false (by omega)
            obtain ⟨L, hL⟩ : ∃ L, sayTo 0 nm ws j = L := ⟨_, rfl⟩
            obtain ⟨V, hV⟩ : ∃ V, sayTo 2 nm ws j = V := ⟨_, rfl⟩
            rw [hL] at R0 RA RB RW SZ0
            rw [hV] at R2
            rw [hL, hV]
            have s1 : (9223372036854775807 < 1 + L.size) = False := eq_false (by have := SZ0.out; omega)
            have s2 : (9223372036854775807 < L.size + 1) = False := eq_false (by have := SZ0.out; omega)
            have s3 : (9223372036854775807 < L.size + 2) = False := eq_false (by have := SZ0.out; omega)
            clear hL hV hlt hj
            go_wp2_with fail
            refine (R0.out _).mono ?_
            rintro e w8 ⟨rfl, hb⟩
            have AB8 := Aside0.mk (blk_below ABN.out hb)
            have HB8 := Aside0.mk (below_step HBN.out hb)
            clear hb ABN HBN HCN R0
            obtain ⟨xb, hxb⟩ : ∃ xb, w8.heap.size = xb := ⟨_, rfl⟩
            obtain ⟨w9, hw9⟩ : ∃ w9, w8.alloc (.cells a.cells 23) = w9 := ⟨_, rfl⟩
            have W9E : Aside0 (w8.alloc (.cells #[.int .i64 a.kind, .int .i64 a.id, .int .i64 a.fr, .int .i64 a.tt, .int .i64 a.snap, .string a.text] 23) = w9) := ⟨hw9⟩
            have XE := Aside0.mk hxb
            have hd9 : Below w8.heap.size w8 w9 := by rw [← hw9]; exact below_alloc (Below.refl _ _) _
            have AB9 := Aside0.mk (blk_below AB8.out hd9)
            have HB9 := Aside0.mk (below_step HB8.out hd9)
            have XB9 : Aside0 (w9.heap[xb]? = some (.cells a.cells 23 (0, 0))) := ⟨by rw [← hw9, ← hxb]; exact blk_new _ _⟩
            clear hd9 hw9 hxb AB8 HB8
            unfold outOf AskV.val AskV.cells
            go_wp2_with fail
            rw [W9E.out, XE.out]
            refine (R2.out _).mono ?_
            rintro e w10 ⟨rfl, hb⟩
            have AB10 := Aside0.mk (blk_below AB9.out hb)
            have XB10 := Aside0.mk (blk_below XB9.out hb)
            have HB10 := Aside0.mk (below_step HB9.out hb)
            clear hb AB9 XB9 HB9 R2 W9E XE
            obtain ⟨yb, hyb⟩ : ∃ yb, w10.heap.size = yb := ⟨_, rfl⟩
            obtain ⟨w11, hw11⟩ : ∃ w11, w10.alloc (.cells a.cells 23) = w11 := ⟨_, rfl⟩
            have W11E : Aside0 (w10.alloc (.cells #[.int .i64 a.kind, .int .i64 a.id, .int .i64 a.fr, .int .i64 a.tt, .int .i64 a.snap, .string a.text] 23) = w11) := ⟨hw11⟩
            have YE := Aside0.mk hyb
            have hd9 : Below w10.heap.size w10 w11 := by rw [← hw11]; exact below_alloc (Below.refl _ _) _
            have AB11 := Aside0.mk (blk_below AB10.out hd9)
            have XB11 := Aside0.mk (blk_below XB10.out hd9)
            have HB11 := Aside0.mk (below_step HB10.out hd9)
            have YB11 : Aside0 (w11.heap[yb]? = some (.cells a.cells 23 (0, 0))) := ⟨by rw [← hw11, ← hyb]; exact blk_new _ _⟩
            clear hd9 hw11 hyb AB10 HB10 XB10
            unfold outOf AskV.val AskV.cells
            go_wp2_with fail
            rw [W11E.out, YE.out]
            refine (RA.out _).mono ?_
            rintro e w12 ⟨rfl, hb⟩
            have AB12 := Aside0.mk (blk_below AB11.out hb)
            have XB12 := Aside0.mk (blk_below XB11.out hb)
            have YB12 := Aside0.mk (blk_below YB11.out hb)
            have HB12 := Aside0.mk (below_step HB11.out hb)
            clear hb AB11 XB11 YB11 HB11 RA W11E YE
            unfold outOf AskV.val AskV.cells zeroV
            go_wp2_with fail
            refine (RB.out _).mono ?_
            rintro e w14 ⟨rfl, hb⟩
            have hb2 := below_step (below_alloc (Below.refl w12.heap.size w12) _) hb
            have AB14 := Aside0.mk (blk_below AB12.out hb2)
            have XB14 := Aside0.mk (blk_below XB12.out hb2)
            have YB14 := Aside0.mk (blk_below YB12.out hb2)
            have HB14 := Aside0.mk (below_step HB12.out hb2)
            clear hb hb2 AB12 XB12 YB12 HB12 RB
            unfold outOf AskV.val AskV.cells zeroV
            go_wp2_with fail
            refine (RW.out _).mono ?_
            rintro e w16 ⟨rfl, hb⟩
            have hb2 := below_step (below_alloc (Below.refl w14.heap.size w14) _) hb
            have hb3 : Below w14.heap.size w14 (w16.alloc (.cells #[.int .i64 0, .int .i64 0, .int .i64 0, .int .i64 0, .int .i64 0, .string ⟨#[]⟩] 23)) := below_step hb2 (below_alloc (Below.refl _ _) _)
            obtain ⟨y0, y1, y2, y3, y4, y5, _⟩ := six_facts (blk_below AB14.out hb3)
            obtain ⟨z0, z1, z2, z3, z4, z5, _⟩ := six_facts (blk_below XB14.out hb3)
            obtain ⟨x0, x1, x2, x3, x4, x5, _⟩ := six_facts (blk_below YB14.out hb3)
            have HB16 := Aside0.mk (below_step HB14.out hb3)
            clear hb hb2 hb3 AB14 XB14 YB14 HB14 RW
            unfold outOf AskV.val AskV.cells zeroV
            go_wp2_with fail
            go_ret
            exact ⟨rfl, HB16.out⟩
  | false =>
    have W0 : Aside0 (wTo a 0 = []) := ⟨by show w0Of a = _; unfold w0Of; rw [FT.out]; rfl⟩
    have HO : Aside0 (Kd.string.R 9 w3 w.heap.size (fun _ => True) (.slice none 0 0) (wTo a 0)) := ⟨by rw [W0.out]; exact Kd.R_nil _ _ _ _ _⟩
    clear W0 XC
    obtain ⟨v, hv⟩ : ∃ v, Value.slice none 0 0 = v := ⟨_, rfl⟩
    rw [hv] at HO
    go_wp2_with fail
    rw [hv]
    clear hv
    obtain ⟨fb, hfb⟩ : ∃ fb, w3.heap.size = fb := ⟨_, rfl⟩
    obtain ⟨W7, hW7⟩ : ∃ W7, w3.alloc (.cells #[.bool i, .bool f, .bool o, .bool s] 4) = W7 := ⟨_, rfl⟩
    rw [hW7]
    have hd7 : Below w3.heap.size w3 W7 := by rw [← hW7]; exact below_alloc (Below.refl _ _) _
    have AB7 := Aside0.mk (blk_below AB.out hd7)
    have HB7 := Aside0.mk (below_step HB.out hd7)
    have HO7 := Aside0.mk (Kd.R_below HO.out hd7)
    have FB7 : Aside0 (W7.heap[fb]? = some (.cells #[.bool i, .bool f, .bool o, .bool s] 4 (0, 0))) := ⟨by rw [← hW7, ← hfb]; exact blk_new _ _⟩
    have BLT : Aside0 (w.heap.size ≤ fb) := ⟨by have := HB.out.size; omega⟩
    try rw [hfb]
    clear hfb hW7 hd7 AB HB HO
    go_loopw [8, 55] (fun s8 s55 wr => ∃ j : Nat, s55 = .int .i64 (j : Int) ∧ j ≤ 4 ∧ Aside0 (Kd.string.R 9 wr w.heap.size (fun _ => True) s8 (wTo a j)) ∧ Aside0 (wr.heap[b]? = some (.cells a.cells 23 (0, 0))) ∧ Aside0 (wr.heap[fb]? = some (.cells #[.bool i, .bool f, .bool o, .bool s] 4 (0, 0))) ∧ Aside0 (Below w.heap.size w wr)) (fun _ s55 _ => 4 - (intOf s55).toNat)
    case atStart => exact ⟨0, rfl, by decide, HO7, AB7, FB7, HB7⟩
    case round =>
      clear AB7 FB7 HB7 HO7
      obtain ⟨j, rfl, hj, HO, AB, FB, HB⟩ := hrel
      rcases (show j = 0 ∨ j = 1 ∨ j = 2 ∨ j = 3 ∨ j = 4 by omega) with rfl | rfl | rfl | rfl | rfl
      · have k1 := blk_cell FB.out 0
        rw [show (#[Value.bool i, Value.bool f, Value.bool o, Value.bool s] : Array Value)[0]? = some (.bool i) from rfl] at k1
        have hq : flag a.kind 0 = i := FLG.out 0
        have hA : wTo a (0 + 1) = if flag a.kind 0 = true then wTo a 0 ++ [digB a.id] else wTo a 0 := rfl
        have hlw := wTo_len a 0
        rw [hq] at hA
        have HA := Aside0.mk hA
        have DJ : Aside0 (∀ w, Calls Tryd.prog 23 #[.int .i64 a.id] w fun e w' => e = .returned (.string (digB a.id)) ∧ Below w.heap.size w w') := ⟨DC.out 0⟩
        have LW := Aside0.mk hlw
        clear hA hq hlw
        cases i with
        | true =>
          obtain ⟨y0, y1, y2, y3, y4, y5, _⟩ := six_facts AB.out
          obtain ⟨wa, hwa⟩ : ∃ wa, (wr.alloc (.cells #[.int .i64 a.id, .int .i64 a.fr, .int .i64 a.tt, .int .i64 a.snap] 3)) = wa := ⟨_, rfl⟩
          have hda : Below wr.heap.size wr wa := by rw [← hwa]; exact below_alloc (Below.refl _ _) _
          have ABA := Aside0.mk (blk_below AB.out hda)
          have HBA := Aside0.mk (below_step HB.out hda)
          have FBA := Aside0.mk (blk_below FB.out hda)
          have HOA := Aside0.mk (Kd.R_below HO.out hda)
          have HWA := Aside0.mk hwa
          clear hda hwa HO
          go_wp2_with fail
          rw [HWA.out]
          refine (DJ.out _).mono ?_
          rintro e w7 ⟨rfl, hb⟩
          have ABN := Aside0.mk (blk_below ABA.out hb)
          have HBN := Aside0.mk (below_step HBA.out hb)
          have FBN := Aside0.mk (blk_below FBA.out hb)
          have HON := Aside0.mk (Kd.R_below HOA.out hb)
          have HSZ : Aside0 (w.heap.size ≤ w7.heap.size) := ⟨HBN.out.size⟩
          clear hb HWA AB HB FB k1 HBA ABA FBA HOA y0 y1 y2 y3 y4 y5 wa
          go_wp2_with (first | ((with_reducible refine gate_builtin (b := .append) (xs := #[.tmp 61, .tmp 75]) rfl ?_); at_builtin; refine Kd.R_append Kd.string (w0 := w) w.heap.size rfl (.tmp 61) (.tmp 75) 34 9 (.string ⟨#[]⟩) 16 rfl Tryd.underlying34 infoStr rfl (by decide) (by decide) _ (wTo a 0) (digB a.id) [.string (digB a.id)] (fun _ => True) (fun _ => False) rfl (by first | (go_simp; done) | (go_simp; rfl)) (by rfl) (fun _ hk => hk.elim) (fun _ _ => trivial) HON.out HBN.out HSZ.out (by have := LW.out; omega) ?_; intro v8 w8 ho hb hg hat; have GA := Aside0.mk hg; have HO8 := Aside0.mk ho; have HB8 := Aside0.mk hb; clear ho hb hg hat))
          have AB8 := Aside0.mk (blk_grown ABN.out GA.out (fun e => Kd.R_ne HON.out ABN.out (by decide) e.symm))
          have FB8 := Aside0.mk (blk_grown FBN.out GA.out (fun e => Kd.R_ne HON.out FBN.out (by decide) e.symm))
          refine ⟨⟨1, by go_num, by decide, by rw [HA.out]; exact HO8, AB8, FB8, HB8⟩, ?_⟩
          simp [intOf]
        | false =>
          go_wp2_with fail
          refine ⟨⟨1, by go_num, by decide, by rw [HA.out]; exact HO, AB, FB, HB⟩, ?_⟩
          simp [intOf]
      · have k1 := blk_cell FB.out 1
        rw [show (#[Value.bool i, Value.bool f, Value.bool o, Value.bool s] : Array Value)[1]? = some (.bool f) from rfl] at k1
        have hq : flag a.kind 1 = f := FLG.out 1
        have hA : wTo a (1 + 1) = if flag a.kind 1 = true then wTo a 1 ++ [digB a.fr] else wTo a 1 := rfl
        have hlw := wTo_len a 1
        rw [hq] at hA
        have HA := Aside0.mk hA
        have DJ : Aside0 (∀ w, Calls Tryd.prog 23 #[.int .i64 a.fr] w fun e w' => e = .returned (.string (digB a.fr)) ∧ Below w.heap.size w w') := ⟨DC.out 1⟩
        have LW := Aside0.mk hlw
        clear hA hq hlw
        cases f with
        | true =>
          obtain ⟨y0, y1, y2, y3, y4, y5, _⟩ := six_facts AB.out
          obtain ⟨wa, hwa⟩ : ∃ wa, (wr.alloc (.cells #[.int .i64 a.id, .int .i64 a.fr, .int .i64 a.tt, .int .i64 a.snap] 3)) = wa := ⟨_, rfl⟩
          have hda : Below wr.heap.size wr wa := by rw [← hwa]; exact below_alloc (Below.refl _ _) _
          have ABA := Aside0.mk (blk_below AB.out hda)
          have HBA := Aside0.mk (below_step HB.out hda)
          have FBA := Aside0.mk (blk_below FB.out hda)
          have HOA := Aside0.mk (Kd.R_below HO.out hda)
          have HWA := Aside0.mk hwa
          clear hda hwa HO
          go_wp2_with fail
          rw [HWA.out]
          refine (DJ.out _).mono ?_
          rintro e w7 ⟨rfl, hb⟩
          have ABN := Aside0.mk (blk_below ABA.out hb)
          have HBN := Aside0.mk (below_step HBA.out hb)
          have FBN := Aside0.mk (blk_below FBA.out hb)
          have HON := Aside0.mk (Kd.R_below HOA.out hb)
          have HSZ : Aside0 (w.heap.size ≤ w7.heap.size) := ⟨HBN.out.size⟩
          clear hb HWA AB HB FB k1 HBA ABA FBA HOA y0 y1 y2 y3 y4 y5 wa
          go_wp2_with (first | ((with_reducible refine gate_builtin (b := .append) (xs := #[.tmp 61, .tmp 75]) rfl ?_); at_builtin; refine Kd.R_append Kd.string (w0 := w) w.heap.size rfl (.tmp 61) (.tmp 75) 34 9 (.string ⟨#[]⟩) 16 rfl Tryd.underlying34 infoStr rfl (by decide) (by decide) _ (wTo a 1) (digB a.fr) [.string (digB a.fr)] (fun _ => True) (fun _ => False) rfl (by first | (go_simp; done) | (go_simp; rfl)) (by rfl) (fun _ hk => hk.elim) (fun _ _ => trivial) HON.out HBN.out HSZ.out (by have := LW.out; omega) ?_; intro v8 w8 ho hb hg hat; have GA := Aside0.mk hg; have HO8 := Aside0.mk ho; have HB8 := Aside0.mk hb; clear ho hb hg hat))
          have AB8 := Aside0.mk (blk_grown ABN.out GA.out (fun e => Kd.R_ne HON.out ABN.out (by decide) e.symm))
          have FB8 := Aside0.mk (blk_grown FBN.out GA.out (fun e => Kd.R_ne HON.out FBN.out (by decide) e.symm))
          refine ⟨⟨2, by go_num, by decide, by rw [HA.out]; exact HO8, AB8, FB8, HB8⟩, ?_⟩
          simp [intOf]
        | false =>
          go_wp2_with fail
          refine ⟨⟨2, by go_num, by decide, by rw [HA.out]; exact HO, AB, FB, HB⟩, ?_⟩
          simp [intOf]
      · have k1 := blk_cell FB.out 2
        rw [show (#[Value.bool i, Value.bool f, Value.bool o, Value.bool s] : Array Value)[2]? = some (.bool o) from rfl] at k1
        have hq : flag a.kind 2 = o := FLG.out 2
        have hA : wTo a (2 + 1) = if flag a.kind 2 = true then wTo a 2 ++ [digB a.tt] else wTo a 2 := rfl
        have hlw := wTo_len a 2
        rw [hq] at hA
        have HA := Aside0.mk hA
        have DJ : Aside0 (∀ w, Calls Tryd.prog 23 #[.int .i64 a.tt] w fun e w' => e = .returned (.string (digB a.tt)) ∧ Below w.heap.size w w') := ⟨DC.out 2⟩
        have LW := Aside0.mk hlw
        clear hA hq hlw
        cases o with
        | true =>
          obtain ⟨y0, y1, y2, y3, y4, y5, _⟩ := six_facts AB.out
          obtain ⟨wa, hwa⟩ : ∃ wa, (wr.alloc (.cells #[.int .i64 a.id, .int .i64 a.fr, .int .i64 a.tt, .int .i64 a.snap] 3)) = wa := ⟨_, rfl⟩
          have hda : Below wr.heap.size wr wa := by rw [← hwa]; exact below_alloc (Below.refl _ _) _
          have ABA := Aside0.mk (blk_below AB.out hda)
          have HBA := Aside0.mk (below_step HB.out hda)
          have FBA := Aside0.mk (blk_below FB.out hda)
          have HOA := Aside0.mk (Kd.R_below HO.out hda)
          have HWA := Aside0.mk hwa
          clear hda hwa HO
          go_wp2_with fail
          rw [HWA.out]
          refine (DJ.out _).mono ?_
          rintro e w7 ⟨rfl, hb⟩
          have ABN := Aside0.mk (blk_below ABA.out hb)
          have HBN := Aside0.mk (below_step HBA.out hb)
          have FBN := Aside0.mk (blk_below FBA.out hb)
          have HON := Aside0.mk (Kd.R_below HOA.out hb)
          have HSZ : Aside0 (w.heap.size ≤ w7.heap.size) := ⟨HBN.out.size⟩
          clear hb HWA AB HB FB k1 HBA ABA FBA HOA y0 y1 y2 y3 y4 y5 wa
          go_wp2_with (first | ((with_reducible refine gate_builtin (b := .append) (xs := #[.tmp 61, .tmp 75]) rfl ?_); at_builtin; refine Kd.R_append Kd.string (w0 := w) w.heap.size rfl (.tmp 61) (.tmp 75) 34 9 (.string ⟨#[]⟩) 16 rfl Tryd.underlying34 infoStr rfl (by decide) (by decide) _ (wTo a 2) (digB a.tt) [.string (digB a.tt)] (fun _ => True) (fun _ => False) rfl (by first | (go_simp; done) | (go_simp; rfl)) (by rfl) (fun _ hk => hk.elim) (fun _ _ => trivial) HON.out HBN.out HSZ.out (by have := LW.out; omega) ?_; intro v8 w8 ho hb hg hat; have GA := Aside0.mk hg; have HO8 := Aside0.mk ho; have HB8 := Aside0.mk hb; clear ho hb hg hat))
          have AB8 := Aside0.mk (blk_grown ABN.out GA.out (fun e => Kd.R_ne HON.out ABN.out (by decide) e.symm))
          have FB8 := Aside0.mk (blk_grown FBN.out GA.out (fun e => Kd.R_ne HON.out FBN.out (by decide) e.symm))
          refine ⟨⟨3, by go_num, by decide, by rw [HA.out]; exact HO8, AB8, FB8, HB8⟩, ?_⟩
          simp [intOf]
        | false =>
          go_wp2_with fail
          refine ⟨⟨3, by go_num, by decide, by rw [HA.out]; exact HO, AB, FB, HB⟩, ?_⟩
          simp [intOf]
      · have k1 := blk_cell FB.out 3
        rw [show (#[Value.bool i, Value.bool f, Value.bool o, Value.bool s] : Array Value)[3]? = some (.bool s) from rfl] at k1
        have hq : flag a.kind 3 = s := FLG.out 3
        have hA : wTo a (3 + 1) = if flag a.kind 3 = true then wTo a 3 ++ [digB a.snap] else wTo a 3 := rfl
        have hlw := wTo_len a 3
        rw [hq] at hA
        have HA := Aside0.mk hA
        have DJ : Aside0 (∀ w, Calls Tryd.prog 23 #[.int .i64 a.snap] w fun e w' => e = .returned (.string (digB a.snap)) ∧ Below w.heap.size w w') := ⟨DC.out 3⟩
        have LW := Aside0.mk hlw
        clear hA hq hlw
        cases s with
        | true =>
          obtain ⟨y0, y1, y2, y3, y4, y5, _⟩ := six_facts AB.out
          obtain ⟨wa, hwa⟩ : ∃ wa, (wr.alloc (.cells #[.int .i64 a.id, .int .i64 a.fr, .int .i64 a.tt, .int .i64 a.snap] 3)) = wa := ⟨_, rfl⟩
          have hda : Below wr.heap.size wr wa := by rw [← hwa]; exact below_alloc (Below.refl _ _) _
          have ABA := Aside0.mk (blk_below AB.out hda)
          have HBA := Aside0.mk (below_step HB.out hda)
          have FBA := Aside0.mk (blk_below FB.out hda)
          have HOA := Aside0.mk (Kd.R_below HO.out hda)
          have HWA := Aside0.mk hwa
          clear hda hwa HO
          go_wp2_with fail
          rw [HWA.out]
          refine (DJ.out _).mono ?_
          rintro e w7 ⟨rfl, hb⟩
          have ABN := Aside0.mk (blk_below ABA.out hb)
          have HBN := Aside0.mk (below_step HBA.out hb)
          have FBN := Aside0.mk (blk_below FBA.out hb)
          have HON := Aside0.mk (Kd.R_below HOA.out hb)
          have HSZ : Aside0 (w.heap.size ≤ w7.heap.size) := ⟨HBN.out.size⟩
          clear hb HWA AB HB FB k1 HBA ABA FBA HOA y0 y1 y2 y3 y4 y5 wa
          go_wp2_with (first | ((with_reducible refine gate_builtin (b := .append) (xs := #[.tmp 61, .tmp 75]) rfl ?_); at_builtin; refine Kd.R_append Kd.string (w0 := w) w.heap.size rfl (.tmp 61) (.tmp 75) 34 9 (.string ⟨#[]⟩) 16 rfl Tryd.underlying34 infoStr rfl (by decide) (by decide) _ (wTo a 3) (digB a.snap) [.string (digB a.snap)] (fun _ => True) (fun _ => False) rfl (by first | (go_simp; done) | (go_simp; rfl)) (by rfl) (fun _ hk => hk.elim) (fun _ _ => trivial) HON.out HBN.out HSZ.out (by have := LW.out; omega) ?_; intro v8 w8 ho hb hg hat; have GA := Aside0.mk hg; have HO8 := Aside0.mk ho; have HB8 := Aside0.mk hb; clear ho hb hg hat))
          have AB8 := Aside0.mk (blk_grown ABN.out GA.out (fun e => Kd.R_ne HON.out ABN.out (by decide) e.symm))
          have FB8 := Aside0.mk (blk_grown FBN.out GA.out (fun e => Kd.R_ne HON.out FBN.out (by decide) e.symm))
          refine ⟨⟨4, by go_num, by decide, by rw [HA.out]; exact HO8, AB8, FB8, HB8⟩, ?_⟩
          simp [intOf]
        | false =>
          go_wp2_with fail
          refine ⟨⟨4, by go_num, by decide, by rw [HA.out]; exact HO, AB, FB, HB⟩, ?_⟩
          simp [intOf]
      · have r0 := tale_reads OK.out 0
        have r2 := tale_reads OK.out 2
        have ra := tale_ahead (sayTo 0 (nameOf a.kind) (wTo a 4) (wTo a 4).length)
        have rb := tale_behind (sayTo 0 (nameOf a.kind) (wTo a 4) (wTo a 4).length)
        have rw_ := tale_word OK.out
        have hfit := fun w hw => (word_fits OK.out w hw).2
        have hln := wTo_len a 4
        have hnm := name_small a.kind
        obtain ⟨ws, hws⟩ : ∃ ws, wTo a 4 = ws := ⟨_, rfl⟩
        rw [hws] at HO r0 r2 ra rb rw_ hfit hln
        have hz : ∀ k j, k ≤ 2 → j ≤ ws.length → (sayTo k (nameOf a.kind) ws j).size ≤ 1000 := fun k j hk hj => by
          have h1 := say_size k (nameOf a.kind) ws hfit j hj
          have h2 : (k + 82) * j ≤ 84 * 5 := Nat.mul_le_mul (by omega) (by omega)
          omega
        have hws2 : ∀ j : Nat, (rdOf ⟨#[]⟩ ws (j : Int)).size ≤ 81 := fun j => by
          unfold rdOf
          rw [Int.toNat_natCast, List.getD_eq_getElem?_getD]
          cases hq : ws[j]? with
          | none => exact Nat.zero_le _
          | some x => exact hfit x (List.mem_of_getElem? hq)
        obtain ⟨n, hn⟩ : ∃ n, ws.length = n := ⟨_, rfl⟩
        rw [hn] at r0 r2 ra rb rw_ hln hz
        have sz0 := hz 0 n (by decide) (Nat.le_refl _)
        have sz2 := hz 2 n (by decide) (Nat.le_refl _)
        have q1 : (⟨#[32]⟩ : ByteArray).size = 1 := rfl
        have q2 : (⟨#[32, 49]⟩ : ByteArray).size = 2 := rfl
        have R0 := Aside0.mk (fun w => RC.out (sayTo 0 (nameOf a.kind) ws n) w (by omega))
        have R2 := Aside0.mk (fun w => RC.out (sayTo 2 (nameOf a.kind) ws n) w (by omega))
        have RA := Aside0.mk (fun w => RC.out (⟨#[32]⟩ ++ sayTo 0 (nameOf a.kind) ws n) w (by rw [ByteArray.size_append, q1]; omega))
        have RB := Aside0.mk (fun w => RC.out (sayTo 0 (nameOf a.kind) ws n ++ ⟨#[32]⟩) w (by rw [ByteArray.size_append, q1]; omega))
        have RW := Aside0.mk (fun w => RC.out (sayTo 0 (nameOf a.kind) ws n ++ ⟨#[32, 49]⟩) w (by rw [ByteArray.size_append, q2]; omega))
        rw [r0] at R0
        rw [r2] at R2
        rw [ra] at RA
        rw [rb] at RB
        rw [rw_] at RW
        have HZ := Aside0.mk hz
        have HWS := Aside0.mk hws2
        have HLN := Aside0.mk hln
        have SZ0 := Aside0.mk sz0
        obtain ⟨A, c, hv, hcap, hC⟩ := Kd.R_reads HO.out
        rw [hn] at hv hcap hC
        subst hv
        have HC := Aside0.mk hC
        have hw0 : wr.cell? ⟨b, 0, none⟩ = some (.int .i64 a.kind) := (six_facts AB.out).1
        clear r0 r2 ra rb rw_ hfit hln hnm hws hz hws2 sz0 sz2 q1 q2 hcap hC HO FB hn RC
        go_wp2_with fail
        refine start_ (n := 8) (S := fun w' => Below wr.heap.size wr w') (ds := []) #[false, false, false, false, false, false, false, false] (by kernel_rfl) rfl rfl (below_drew1 (Below.refl _ _)) (fun hHeld => ?_)
        refine with_tabW askLines.tab13 askLines.bits13 (fun HT_ HW_ => ?_)
        refine take_ (i := 0) (N := some 78) (v := ?_) (a' := ?_) #[true, false, false, false, false, false, false, false] rfl rfl (take_ofW HT_.out HW_.out (by kernel_rfl)) (fun _ _ _ h => h) (Or.inl ⟨by rfl, ?_⟩) hHeld ?_ ?_
        rotate_left
        · intro w' s
          go_simp
          with_reducible rfl
        rotate_left
        · simp only [Act.put, List.setIfInBounds_toArray, List.set_cons_zero, List.set_cons_succ, i64_w, i32_w]
          rfl
        refine take_ (i := 1) (N := some 79) (v := ?_) (a' := ?_) #[true, true, false, false, false, false, false, false] rfl rfl (take_ofW HT_.out HW_.out (by kernel_rfl)) (fun _ _ _ h => h) (Or.inl ⟨by rfl, ?_⟩) hHeld ?_ ?_
        rotate_left
        · intro w' s
          have s0 := pw_cell_below s hw0
          go_simp
          with_reducible rfl
        rotate_left
        · simp only [Act.put, List.setIfInBounds_toArray, List.set_cons_zero, List.set_cons_succ, i64_w, i32_w]
          rfl
        refine take_ (i := 3) (N := some 81) (v := ?_) (a' := ?_) #[true, true, false, true, false, false, false, false] rfl rfl (take_ofW HT_.out HW_.out (by kernel_rfl)) (fun _ _ _ h => h) (Or.inl ⟨by rfl, ?_⟩) hHeld ?_ ?_
        rotate_left
        · intro w' s
          go_simp
          with_reducible rfl
        rotate_left
        · simp only [Act.put, List.setIfInBounds_toArray, List.set_cons_zero, List.set_cons_succ, i64_w, i32_w]
          rfl
        refine take_ (i := 4) (N := some 82) (v := ?_) (a' := ?_) #[true, true, false, true, true, false, false, false] rfl rfl (take_ofW HT_.out HW_.out (by kernel_rfl)) (fun _ _ _ h => h) (Or.inl ⟨by rfl, ?_⟩) hHeld ?_ ?_
        rotate_left
        · intro w' s
          have s0 := pw_cell_below s hw0
          go_simp
          with_reducible rfl
        rotate_left
        · simp only [Act.put, List.setIfInBounds_toArray, List.set_cons_zero, List.set_cons_succ, i64_w, i32_w]
          rfl
        refine one_ (i := 2) (N := some 80) #[true, true, true, true, true, false, false, false] rfl rfl (one_of HT_.out (by kernel_rfl)) (by decide) (fun K hK => ?_)
        refine goes_ Tryd.func19 (by kernel_rfl) rfl #[.int .i64 a.kind] (by rfl) rfl rfl (by (try simp only [List.map_toArray, List.map_cons, List.map_nil]); first | done | rfl) ?_
        refine (NC.out _).mono ?_
        rintro en wn ⟨rfl, hb⟩
        refine ⟨_, rfl, ?_⟩
        have hS3 := below_step hHeld hb
        clear hb
        refine hK.out _ _ hS3 (fun hHeld => ?_)
        clear hK K
        refine norm_ (a' := ?_) ?_ ?_
        rotate_left
        · show Act.put _ (some 80) _ = _
          simp only [Act.put, List.setIfInBounds_toArray, List.set_cons_zero, List.set_cons_succ, i64_w, i32_w]
          rfl
        refine one_ (i := 5) (N := some 83) #[true, true, true, true, true, true, false, false] rfl rfl (one_of HT_.out (by kernel_rfl)) (by decide) (fun K hK => ?_)
        refine goes_ Tryd.func19 (by kernel_rfl) rfl #[.int .i64 a.kind] (by rfl) rfl rfl (by (try simp only [List.map_toArray, List.map_cons, List.map_nil]); first | done | rfl) ?_
        refine (NC.out _).mono ?_
        rintro en wn ⟨rfl, hb⟩
        refine ⟨_, rfl, ?_⟩
        have hS3 := below_step hHeld hb
        clear hb
        refine hK.out _ _ hS3 (fun hHeld => ?_)
        clear hK K
        refine norm_ (a' := ?_) ?_ ?_
        rotate_left
        · show Act.put _ (some 83) _ = _
          simp only [Act.put, List.setIfInBounds_toArray, List.set_cons_zero, List.set_cons_succ, i64_w, i32_w]
          rfl
        refine take_ (i := 6) (N := some 11) (v := ?_) (a' := ?_) #[true, true, true, true, true, true, true, false] rfl rfl (take_ofW HT_.out HW_.out (by kernel_rfl)) (fun _ _ _ h => h) (Or.inl ⟨by rfl, ?_⟩) hHeld ?_ ?_
        rotate_left
        · intro w' s
          go_simp
          with_reducible rfl
        rotate_left
        · simp only [Act.put, List.setIfInBounds_toArray, List.set_cons_zero, List.set_cons_succ, i64_w, i32_w]
          rfl
        refine take_ (i := 7) (N := some 12) (v := ?_) (a' := ?_) #[true, true, true, true, true, true, true, true] rfl rfl (take_ofW HT_.out HW_.out (by kernel_rfl)) (fun _ _ _ h => h) (Or.inl ⟨by rfl, ?_⟩) hHeld ?_ ?_
        rotate_left
        · intro w' s
          go_simp
          with_reducible rfl
        rotate_left
        · simp only [Act.put, List.setIfInBounds_toArray, List.set_cons_zero, List.set_cons_succ, i64_w, i32_w]
          rfl
        refine done_ (done_of HT_.out (by kernel_rfl)) ?_
        have ABN := Aside0.mk (blk_below AB.out hHeld)
        have HBN := Aside0.mk (below_step HB.out hHeld)
        have HCN := Aside0.mk (Kd.C_below HC.out hHeld)
        clear hHeld hw0 AB HB HC NC
        obtain ⟨nm, hnm⟩ : ∃ nm, nameOf a.kind = nm := ⟨_, rfl⟩
        rw [hnm] at HZ R0 R2 RA RB RW SZ0
        rw [hnm]
        clear hnm
        go_wp2_with fail
        have ZB := wn
        go_loopw [11, 12, 86] (fun s11 s12 s86 w' => ∃ j : Nat, s86 = .int .i64 (j : Int) ∧ j ≤ n ∧ s11 = .string (sayTo 0 nm ws j) ∧ s12 = .string (sayTo 2 nm ws j) ∧ w' = wn) (fun _ _ s86 _ => n - (intOf s86).toNat)
        case atStart => exact ⟨0, rfl, Nat.zero_le _, rfl, rfl, rfl⟩
        case round =>
          obtain ⟨j, rfl, hj, rfl, rfl, rfl⟩ := hrel
          by_cases hlt : j < n
          · have c1 : decide ((j : Int) < (n : Int)) = true := decide_eq_true (by omega)
            obtain ⟨ad, had, hcw⟩ := Kd.at_string HCN.out (j : Int) (by omega) (by omega)
            subst had
            rw [show (ByteArray.empty : ByteArray) = ⟨#[]⟩ from rfl, Int.toNat_natCast] at hcw
            have g0 := HZ.out 0 j (by decide) hj
            have g2 := HZ.out 2 j (by decide) hj
            have gx := HWS.out j
            have e0 : sayTo 0 nm ws (j + 1) = sayTo 0 nm ws j ++ (⟨#[32]⟩ ++ rdOf ⟨#[]⟩ ws (j : Int)) := rfl
            have e2 : sayTo 2 nm ws (j + 1) = sayTo 2 nm ws j ++ (⟨#[32, 32, 32]⟩ ++ rdOf ⟨#[]⟩ ws (j : Int)) := rfl
            have E0 := Aside0.mk e0
            have E2 := Aside0.mk e2
            obtain ⟨x, hx⟩ : ∃ x, rdOf ⟨#[]⟩ ws (j : Int) = x := ⟨_, rfl⟩
            rw [hx] at hcw gx E0 E2
            obtain ⟨l0, hl0⟩ : ∃ l0, sayTo 0 nm ws j = l0 := ⟨_, rfl⟩
            obtain ⟨l2, hl2⟩ : ∃ l2, sayTo 2 nm ws j = l2 := ⟨_, rfl⟩
            rw [hl0] at g0 E0
            rw [hl2] at g2 E2
            rw [hl0, hl2]
            have s3 : (9223372036854775807 < 1 + x.size) = False := eq_false (by omega)
            have s4 : (9223372036854775807 < l0.size + (1 + x.size)) = False := eq_false (by omega)
            have s5 : (9223372036854775807 < 3 + x.size) = False := eq_false (by omega)
            have s6 : (9223372036854775807 < l2.size + (3 + x.size)) = False := eq_false (by omega)
            have v5 : IntKind.i64.wrap ((j : Int) + 1) = ((j + 1 : Nat) : Int) := by rw [IntWalk.i64_in _ (by have := HLN.out; omega)]; omega
            have v1 : (0 ≤ (j : Int)) = True := eq_true (by omega)
            have v2 : ((j : Int) < (n : Int)) = True := eq_true (by omega)
            clear hl0 hl2 hx g0 g2 gx e0 e2
            go_wp2_with fail
            refine ⟨⟨j + 1, by go_num, by omega, by rw [E0.out], by rw [E2.out], trivial⟩, ?_⟩
            simp [intOf]
            omega
          · obtain rfl : j = n := by omega
            have c1 : decide ((j : Int) < (j : Int)) = false := decide_eq_false (by omega)
            obtain ⟨L, hL⟩ : ∃ L, sayTo 0 nm ws j = L := ⟨_, rfl⟩
            obtain ⟨V, hV⟩ : ∃ V, sayTo 2 nm ws j = V := ⟨_, rfl⟩
            rw [hL] at R0 RA RB RW SZ0
            rw [hV] at R2
            rw [hL, hV]
            have s1 : (9223372036854775807 < 1 + L.size) = False := eq_false (by have := SZ0.out; omega)
            have s2 : (9223372036854775807 < L.size + 1) = False := eq_false (by have := SZ0.out; omega)
            have s3 : (9223372036854775807 < L.size + 2) = False := eq_false (by have := SZ0.out; omega)
            clear hL hV hlt hj
            go_wp2_with fail
            refine (R0.out _).mono ?_
            rintro e w8 ⟨rfl, hb⟩
            have AB8 := Aside0.mk (blk_below ABN.out hb)
            have HB8 := Aside0.mk (below_step HBN.out hb)
            clear hb ABN HBN HCN R0
            obtain ⟨xb, hxb⟩ : ∃ xb, w8.heap.size = xb := ⟨_, rfl⟩
            obtain ⟨w9, hw9⟩ : ∃ w9, w8.alloc (.cells a.cells 23) = w9 := ⟨_, rfl⟩
            have W9E : Aside0 (w8.alloc (.cells #[.int .i64 a.kind, .int .i64 a.id, .int .i64 a.fr, .int .i64 a.tt, .int .i64 a.snap, .string a.text] 23) = w9) := ⟨hw9⟩
            have XE := Aside0.mk hxb
            have hd9 : Below w8.heap.size w8 w9 := by rw [← hw9]; exact below_alloc (Below.refl _ _) _
            have AB9 := Aside0.mk (blk_below AB8.out hd9)
            have HB9 := Aside0.mk (below_step HB8.out hd9)
            have XB9 : Aside0 (w9.heap[xb]? = some (.cells a.cells 23 (0, 0))) := ⟨by rw [← hw9, ← hxb]; exact blk_new _ _⟩
            clear hd9 hw9 hxb AB8 HB8
            unfold outOf AskV.val AskV.cells
            go_wp2_with fail
            rw [W9E.out, XE.out]
            refine (R2.out _).mono ?_
            rintro e w10 ⟨rfl, hb⟩
            have AB10 := Aside0.mk (blk_below AB9.out hb)
            have XB10 := Aside0.mk (blk_below XB9.out hb)
            have HB10 := Aside0.mk (below_step HB9.out hb)
            clear hb AB9 XB9 HB9 R2 W9E XE
            obtain ⟨yb, hyb⟩ : ∃ yb, w10.heap.size = yb := ⟨_, rfl⟩
            obtain ⟨w11, hw11⟩ : ∃ w11, w10.alloc (.cells a.cells 23) = w11 := ⟨_, rfl⟩
            have W11E : Aside0 (w10.alloc (.cells #[.int .i64 a.kind, .int .i64 a.id, .int .i64 a.fr, .int .i64 a.tt, .int .i64 a.snap, .string a.text] 23) = w11) := ⟨hw11⟩
            have YE := Aside0.mk hyb
            have hd9 : Below w10.heap.size w10 w11 := by rw [← hw11]; exact below_alloc (Below.refl _ _) _
            have AB11 := Aside0.mk (blk_below AB10.out hd9)
            have XB11 := Aside0.mk (blk_below XB10.out hd9)
            have HB11 := Aside0.mk (below_step HB10.out hd9)
            have YB11 : Aside0 (w11.heap[yb]? = some (.cells a.cells 23 (0, 0))) := ⟨by rw [← hw11, ← hyb]; exact blk_new _ _⟩
            clear hd9 hw11 hyb AB10 HB10 XB10
            unfold outOf AskV.val AskV.cells
            go_wp2_with fail
            rw [W11E.out, YE.out]
            refine (RA.out _).mono ?_
            rintro e w12 ⟨rfl, hb⟩
            have AB12 := Aside0.mk (blk_below AB11.out hb)
            have XB12 := Aside0.mk (blk_below XB11.out hb)
            have YB12 := Aside0.mk (blk_below YB11.out hb)
            have HB12 := Aside0.mk (below_step HB11.out hb)
            clear hb AB11 XB11 YB11 HB11 RA W11E YE
            unfold outOf AskV.val AskV.cells zeroV
            go_wp2_with fail
            refine (RB.out _).mono ?_
            rintro e w14 ⟨rfl, hb⟩
            have hb2 := below_step (below_alloc (Below.refl w12.heap.size w12) _) hb
            have AB14 := Aside0.mk (blk_below AB12.out hb2)
            have XB14 := Aside0.mk (blk_below XB12.out hb2)
            have YB14 := Aside0.mk (blk_below YB12.out hb2)
            have HB14 := Aside0.mk (below_step HB12.out hb2)
            clear hb hb2 AB12 XB12 YB12 HB12 RB
            unfold outOf AskV.val AskV.cells zeroV
            go_wp2_with fail
            refine (RW.out _).mono ?_
            rintro e w16 ⟨rfl, hb⟩
            have hb2 := below_step (below_alloc (Below.refl w14.heap.size w14) _) hb
            have hb3 : Below w14.heap.size w14 (w16.alloc (.cells #[.int .i64 0, .int .i64 0, .int .i64 0, .int .i64 0, .int .i64 0, .string ⟨#[]⟩] 23)) := below_step hb2 (below_alloc (Below.refl _ _) _)
            obtain ⟨y0, y1, y2, y3, y4, y5, _⟩ := six_facts (blk_below AB14.out hb3)
            obtain ⟨z0, z1, z2, z3, z4, z5, _⟩ := six_facts (blk_below XB14.out hb3)
            obtain ⟨x0, x1, x2, x3, x4, x5, _⟩ := six_facts (blk_below YB14.out hb3)
            have HB16 := Aside0.mk (below_step HB14.out hb3)
            clear hb hb2 hb3 AB14 XB14 YB14 HB14 RW
            unfold outOf AskV.val AskV.cells zeroV
            go_wp2_with fail
            go_ret
            exact ⟨rfl, HB16.out⟩
theorem lines_calls20 (k i f t s : Int) (x : ByteArray) (w : World) (_ : ((Lit.int .i64 k).wf = true ∧ (Lit.int .i64 i).wf = true ∧ (Lit.int .i64 f).wf = true ∧ (Lit.int .i64 t).wf = true ∧ (Lit.int .i64 s).wf = true)) (_ : x.size ≤ 9223372036854775807) : Calls Tryd.prog 4 #[.agg #[.int .i64 k, .int .i64 i, .int .i64 f, .int .i64 t, .int .i64 s, .string x]] w fun e w' => e = .returned (.bool true) ∧ Below w.heap.size w w' := by
  cases h : (⟨k, i, f, t, s, x⟩ : AskV).ok with
  | false => exact lines_out ⟨k, i, f, t, s, x⟩ w h
  | true => exact lines_in ⟨k, i, f, t, s, x⟩ w h
end Go.Proofs.YtbmjekekpmabbaaDoor.P
