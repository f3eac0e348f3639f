/- The law AskAll answers true: its walk. Conditions: none. -/
import Derived.Test.YtbmjekekpmabbaaDoorAskSay
import Derived.Test.YtbmjekekpmabbaaDoorAskAlive
import Derived.Test.YtbmjekekpmabbaaDoorAskG
import Derived.Test.YtbmjekekpmabbaaDoorP6
import Derived.Test.YtbmjekekpmabbaaDoorP7
set_option linter.unusedVariables false
set_option linter.unusedSimpArgs false
namespace Go.Proofs.YtbmjekekpmabbaaDoor.P
open Go.RowKit Go.Proofs.YtbmjekekpmabbaaDoorW.PrintWords Go.Proofs.YtbmjekekpmabbaaDoorW.PrintLast Go.Proofs.YtbmjekekpmabbaaDoorW.PrintMore

def fourB (a b c d : Bool) (i : Nat) : Bool := if i = 0 then a else if i = 1 then b else if i = 2 then c else d
def fourI (a b c d : Int) (i : Nat) : Int := if i = 0 then a else if i = 1 then b else if i = 2 then c else d
set_option maxRecDepth 100000 in
set_option maxHeartbeats 4000000 in
theorem all_out (kind id fr tt snap : Int) (text : ByteArray) (w : World) (h : kind < 1 ∨ 9 < kind ∨ 40 < text.size) :
    Calls Tryd.prog 10 #[.int .i64 kind, .int .i64 id, .int .i64 fr, .int .i64 tt, .int .i64 snap, .string text] w fun e w' => e = .returned (.bool true) ∧ Below w.heap.size w w' := by
  have AC := Aside0.mk (fun w => scriniumlaw20_alive.calls 6 true w alive_ok)
  have h3 : (decide (kind < 1) = true) ∨ (decide (kind < 1) = false ∧ decide (kind > 9) = true) ∨ (decide (kind < 1) = false ∧ decide (kind > 9) = false ∧ decide ((text.size : Int) > 40) = true) := by
    by_cases h1 : kind < 1
    · exact Or.inl (decide_eq_true h1)
    · by_cases h2 : kind > 9
      · exact Or.inr (Or.inl ⟨decide_eq_false h1, decide_eq_true h2⟩)
      · exact Or.inr (Or.inr ⟨decide_eq_false h1, decide_eq_false h2, decide_eq_true (by omega)⟩)
  clear h
  rcases h3 with c1 | ⟨c1, c2⟩ | ⟨c1, c2, c3⟩
  all_goals
    go_enter Tryd.func10, Tryd.ntmps10
    go_wp2_with fail
    refine (AC.out _).mono ?_
    rintro e w1 ⟨rfl, hb⟩
    go_wp2_with fail
    go_ret
    exact ⟨rfl, hb⟩
set_option maxRecDepth 100000 in
set_option maxHeartbeats 4000000 in
theorem all_in (kind id fr tt snap : Int) (text : ByteArray) (w : World) (h1 : 1 ≤ kind) (h9 : kind ≤ 9) (hx : text.size ≤ 40) :
    Calls Tryd.prog 10 #[.int .i64 kind, .int .i64 id, .int .i64 fr, .int .i64 tt, .int .i64 snap, .string text] w fun e w' => e = .returned (.bool true) ∧ Below w.heap.size w w' := by
  have AC := Aside0.mk (fun w => scriniumlaw20_alive.calls 6 true w alive_ok)
  have FC := Aside0.mk (fun w => scriniumref1_Fields.calls 20 kind _ _ _ _ _ w (fields_in kind h1 h9))
  have NC := Aside0.mk (name_calls kind)
  have XC := Aside0.mk (fun w => scriniumref1_Hex.calls (text.size + 1) text _ w (hex_ok text (by omega) _ (Nat.le_refl _)))
  have c1 : decide (kind < 1) = false := decide_eq_false (by omega)
  have c2 : decide (kind > 9) = false := decide_eq_false (by omega)
  have c3 : decide ((text.size : Int) > 40) = false := decide_eq_false (by omega)
  have H1 := Aside0.mk h1
  have H9 := Aside0.mk h9
  have HX := Aside0.mk hx
  clear h1 h9 hx
  go_enter Tryd.func10, Tryd.ntmps10
  go_wp2_with fail
  refine (AC.out _).mono ?_
  rintro e w1 ⟨rfl, hb⟩
  have HB := Aside0.mk hb
  clear hb c1 c2 c3
  go_wp2_with fail
  refine (FC.out _).mono ?_
  rintro e w2 ⟨rfl, hd⟩
  have HB2 := Aside0.mk (below_step HB.out hd.below)
  clear HB hd
  have HB := HB2
  clear HB2
  obtain ⟨b, hbb⟩ : ∃ b, w2.heap.size = b := ⟨_, rfl⟩
  obtain ⟨W3, hW3⟩ : ∃ W3, (w2.alloc (.cells ({ zeroV with kind := kind } : AskV).cells 23)) = W3 := ⟨_, rfl⟩
  have W3E : Aside0 (w2.alloc (.cells #[.int .i64 kind, .int .i64 0, .int .i64 0, .int .i64 0, .int .i64 0, .string ⟨#[]⟩] 23) = W3) := ⟨hW3⟩
  have BE := Aside0.mk hbb
  have BG : Aside0 (w.heap.size ≤ b) := ⟨by rw [← hbb]; exact HB.out.size⟩
  have AB : Aside0 (W3.heap[b]? = some (.cells ({ zeroV with kind := kind } : AskV).cells 23 (0, 0))) := ⟨by rw [← hW3, ← hbb]; exact blk_new _ _⟩
  have HB3 : Aside0 (Below w.heap.size w W3) := ⟨by rw [← hW3]; exact below_step HB.out (below_alloc (Below.refl _ _) _)⟩
  clear hbb hW3 HB
  go_wp2_with fail
  rw [W3E.out, BE.out]
  refine (NC.out _).mono ?_
  rintro e w4 ⟨rfl, hb⟩
  have AB4 := Aside0.mk (blk_below AB.out hb)
  have HB := Aside0.mk (below_step HB3.out hb)
  clear hb HB3 AB W3E BE w2
  have AB := AB4
  clear AB4 W3
  have hfirst : ∃ (t i f o s : Bool), (hasC (hasOf kind) 116 = t ∧ hasC (hasOf kind) 105 = i ∧ hasC (hasOf kind) 102 = f ∧ hasC (hasOf kind) 111 = o ∧ hasC (hasOf kind) 115 = s) := ⟨_, _, _, _, _, rfl, rfl, rfl, rfl, rfl⟩
  obtain ⟨t, i, f, o, s, et, ei, ef, eo, es⟩ := hfirst
  rw [et, ei, ef, eo, es]
  have FT : Aside0 (hasB kind = (t, i, f, o, s)) := ⟨by unfold hasB; rw [et, ei, ef, eo, es]⟩
  clear et ei ef eo es
  have SZ : Aside0 ((nameOf kind).size ≤ 20 ∧ (hexB text).size ≤ 81) := ⟨name_small kind, by have := hexB_size text; have := HX.out; omega⟩
  obtain ⟨nm, hnm⟩ : ∃ nm, nameOf kind = nm := ⟨_, rfl⟩
  obtain ⟨hx, hhx⟩ : ∃ hx, hexB text = hx := ⟨_, rfl⟩
  rw [hnm, hhx] at SZ
  rw [hnm]
  rw [hhx] at XC
  have NM := Aside0.mk hnm
  have HHX := Aside0.mk hhx
  clear hnm hhx
  have FLG : Aside0 (∀ j, flag kind j = fourB i f o s j) := ⟨fun j => by unfold flag fourB; rw [FT.out]⟩
  cases t with
  | true =>
    obtain ⟨y0, y1, y2, y3, y4, y5, f0, f1, f2, f3, f4, f5⟩ := six_facts AB.out
    clear y0 y1 y2 y3 y4 f0 f1 f2 f3 f4
    go_wp2_with fail
    refine (XC.out _).mono ?_
    rintro e w5 ⟨rfl, hd⟩
    have ABN : Aside0 (w5.heap[b]? = some (.cells ({ zeroV with kind := kind, text := text } : AskV).cells 23 (0, 0))) := ⟨blk_below (blk_set AB.out 5 (.string text)) hd.below⟩
    have HBN := Aside0.mk (below_step (below_set HB.out BG.out) hd.below)
    clear hd AB HB y5 f5
    have AB := ABN
    have HB := HBN
    clear ABN HBN
    have s1 : (9223372036854775807 < 1 + hx.size) = False := eq_false (by have := SZ.out.2; omega)
    have s2 : (9223372036854775807 < nm.size + (1 + hx.size)) = False := eq_false (by have := SZ.out; omega)
    have A0 : Aside0 (a0Of kind text = { zeroV with kind := kind, text := text }) := ⟨by unfold a0Of; rw [FT.out]; rfl⟩
    have L0 : Aside0 (l0Of kind text = nm ++ (⟨#[32]⟩ ++ hx)) := ⟨by unfold l0Of; rw [FT.out, NM.out, HHX.out]; rfl⟩
    clear XC NC FC AC
    go_wp2_with fail
    obtain ⟨fb, hfb⟩ : ∃ fb, w5.heap.size = fb := ⟨_, rfl⟩
    obtain ⟨W6, hW6⟩ : ∃ W6, w5.alloc (.cells #[.bool i, .bool f, .bool o, .bool s] 4) = W6 := ⟨_, rfl⟩
    rw [hW6]
    have hd6 : Below w5.heap.size w5 W6 := by rw [← hW6]; exact below_alloc (Below.refl _ _) _
    have AB6 := Aside0.mk (blk_below AB.out hd6)
    have HB6 := Aside0.mk (below_step HB.out hd6)
    have FB6 : Aside0 (W6.heap[fb]? = some (.cells #[.bool i, .bool f, .bool o, .bool s] 4 (0, 0))) := ⟨by rw [← hW6, ← hfb]; exact blk_new _ _⟩
    have BLT : Aside0 (b ≠ fb ∧ w.heap.size ≤ fb) := ⟨by have := blk_lt AB.out; have := HB.out.size; omega⟩
    rw [← A0.out] at AB6
    have hL0 := L0.out
    try rw [hfb]
    rw [← hL0]
    have LS : Aside0 ((l0Of kind text).size ≤ 102) := ⟨l0_small kind text HX.out⟩
    clear hfb hW6 hd6 AB HB hL0 A0 L0 w5
    go_loopw [19, 71] (fun s19 s71 wr => ∃ j : Nat, s71 = .int .i64 (j : Int) ∧ j ≤ 4 ∧ s19 = .string (lTo kind (fun x => vOf (fourI id fr tt snap x)) (l0Of kind text) j) ∧ Aside0 (wr.heap[b]? = some (.cells (aTo kind (fun x => vOf (fourI id fr tt snap x)) (a0Of kind text) j).cells 23 (0, 0))) ∧ Aside0 (wr.heap[fb]? = some (.cells #[.bool i, .bool f, .bool o, .bool s] 4 (0, 0))) ∧ Aside0 (Below w.heap.size w wr)) (fun _ s71 _ => 4 - (intOf s71).toNat)
    case atStart => exact ⟨0, rfl, by decide, rfl, AB6, FB6, HB6⟩
    case round =>
      clear AB6 FB6 HB6
      obtain ⟨j, rfl, hj, rfl, AB, FB, HB⟩ := hrel
      rcases (show j = 0 ∨ j = 1 ∨ j = 2 ∨ j = 3 ∨ j = 4 by omega) with rfl | rfl | rfl | rfl | rfl
      · have k1 := blk_cell FB.out 0
        rw [show (#[Value.bool i, Value.bool f, Value.bool o, Value.bool s] : Array Value)[0]? = some (.bool i) from rfl] at k1
        have hq : flag kind 0 = i := FLG.out 0
        have hA : aTo kind (fun x => vOf (fourI id fr tt snap x)) (a0Of kind text) (0 + 1) = if flag kind 0 = true then setI (aTo kind (fun x => vOf (fourI id fr tt snap x)) (a0Of kind text) 0) 0 (vOf id) else aTo kind (fun x => vOf (fourI id fr tt snap x)) (a0Of kind text) 0 := rfl
        have hL : lTo kind (fun x => vOf (fourI id fr tt snap x)) (l0Of kind text) (0 + 1) = if flag kind 0 = true then lTo kind (fun x => vOf (fourI id fr tt snap x)) (l0Of kind text) 0 ++ (⟨#[32]⟩ ++ digB (vOf id)) else lTo kind (fun x => vOf (fourI id fr tt snap x)) (l0Of kind text) 0 := rfl
        have hls := sizes_lt kind (fun x => vOf (fourI id fr tt snap x)) (l0Of kind text) 0
        rw [hq] at hA hL
        have HA := Aside0.mk hA
        have HL := Aside0.mk hL
        clear hA hL hq
        obtain ⟨a, ha⟩ : ∃ a, aTo kind (fun x => vOf (fourI id fr tt snap x)) (a0Of kind text) 0 = a := ⟨_, rfl⟩
        obtain ⟨l, hl⟩ : ∃ l, lTo kind (fun x => vOf (fourI id fr tt snap x)) (l0Of kind text) 0 = l := ⟨_, rfl⟩
        rw [ha] at AB HA
        rw [hl] at hls HL
        rw [hl]
        clear ha hl
        have v2 : (Int.tmod id 65536 + 65536).tmod 65536 = vOf id := rfl
        have v1 : wrap64 (Int.tmod id 65536 + 65536) = Int.tmod id 65536 + 65536 := by
          have h1 := Int.tmod_lt_of_pos id (show (0 : Int) < 65536 by decide)
          have h2 := Int.lt_tmod_of_pos id (show (0 : Int) < 65536 by decide)
          exact IntWalk.wrap64_in _ (by omega)
        have hvr := vOf_rng id
        have DC := Aside0.mk (fun w => scriniumlaw20_digits.calls 6 (vOf id) _ w (digits_at (vOf id) 6 (Nat.le_refl _) hvr.1 (by omega)))
        have hls2 := LS.out
        have hds := digB_small (vOf id)
        have s3 : (9223372036854775807 < 1 + (digB (vOf id)).size) = False := eq_false (by omega)
        have s4 : (9223372036854775807 < l.size + (1 + (digB (vOf id)).size)) = False := eq_false (by omega)
        clear hls hls2 hds hvr
        cases i with
        | true =>
          obtain ⟨wa, hwa⟩ : ∃ wa, (wr.alloc (.cells #[.int .i64 id, .int .i64 fr, .int .i64 tt, .int .i64 snap] 3)).alloc (.cells #[.pointer (some ⟨b, 1, none⟩), .pointer (some ⟨b, 2, none⟩), .pointer (some ⟨b, 3, none⟩), .pointer (some ⟨b, 4, none⟩)] 44) = wa := ⟨_, rfl⟩
          have hda : Below wr.heap.size wr wa := by rw [← hwa]; exact below_alloc (below_alloc (Below.refl _ _) _) _
          have ABA := Aside0.mk (blk_below AB.out hda)
          have HBA := Aside0.mk (below_step HB.out hda)
          have FBA := Aside0.mk (blk_below FB.out hda)
          have cf : wa.cell? ⟨b, 1, none⟩ = some (a.cells[1]'(by show 1 < 6; decide)) := blk_cell ABA.out 1
          have ff := blk_frozen ABA.out 1
          rw [← hwa] at cf ff
          have HWA := Aside0.mk hwa
          clear hda hwa
          go_wp2_with fail
          rw [HWA.out]
          refine (DC.out _).mono ?_
          rintro e w7 ⟨rfl, hb⟩
          have ABN : Aside0 (w7.heap[b]? = some (.cells (setI a 0 (vOf id)).cells 23 (0, 0))) := ⟨by rw [setI_cells a 0 _ (by decide)]; exact blk_below (blk_set ABA.out 1 _) hb⟩
          have HBN := Aside0.mk (below_step (below_set HBA.out BG.out) hb)
          have FBN := Aside0.mk (blk_below (blk_far FBA.out (p := ⟨b, 1, none⟩) (fun e => BLT.out.1 e.symm) (.int .i64 (vOf id))) hb)
          clear hb cf ff HWA AB HB FB k1 HBA ABA FBA wa
          go_wp2_with fail
          refine ⟨⟨1, by go_num, by decide, by rw [HL.out]; rfl, by rw [HA.out]; exact ABN, FBN, HBN⟩, ?_⟩
          simp [intOf]
        | false =>
          obtain ⟨wa, hwa⟩ : ∃ wa, (wr.alloc (.cells #[.int .i64 id, .int .i64 fr, .int .i64 tt, .int .i64 snap] 3)) = wa := ⟨_, rfl⟩
          have hda : Below wr.heap.size wr wa := by rw [← hwa]; exact below_alloc (Below.refl _ _) _
          have ABN := Aside0.mk (blk_below AB.out hda)
          have HBN := Aside0.mk (below_step HB.out hda)
          have FBN := Aside0.mk (blk_below FB.out hda)
          have HWA := Aside0.mk hwa
          clear hda hwa AB HB FB
          go_wp2_with fail
          rw [HWA.out]
          refine ⟨⟨1, by go_num, by decide, by rw [HL.out]; rfl, by rw [HA.out]; exact ABN, FBN, HBN⟩, ?_⟩
          simp [intOf]
      · have k1 := blk_cell FB.out 1
        rw [show (#[Value.bool i, Value.bool f, Value.bool o, Value.bool s] : Array Value)[1]? = some (.bool f) from rfl] at k1
        have hq : flag kind 1 = f := FLG.out 1
        have hA : aTo kind (fun x => vOf (fourI id fr tt snap x)) (a0Of kind text) (1 + 1) = if flag kind 1 = true then setI (aTo kind (fun x => vOf (fourI id fr tt snap x)) (a0Of kind text) 1) 1 (vOf fr) else aTo kind (fun x => vOf (fourI id fr tt snap x)) (a0Of kind text) 1 := rfl
        have hL : lTo kind (fun x => vOf (fourI id fr tt snap x)) (l0Of kind text) (1 + 1) = if flag kind 1 = true then lTo kind (fun x => vOf (fourI id fr tt snap x)) (l0Of kind text) 1 ++ (⟨#[32]⟩ ++ digB (vOf fr)) else lTo kind (fun x => vOf (fourI id fr tt snap x)) (l0Of kind text) 1 := rfl
        have hls := sizes_lt kind (fun x => vOf (fourI id fr tt snap x)) (l0Of kind text) 1
        rw [hq] at hA hL
        have HA := Aside0.mk hA
        have HL := Aside0.mk hL
        clear hA hL hq
        obtain ⟨a, ha⟩ : ∃ a, aTo kind (fun x => vOf (fourI id fr tt snap x)) (a0Of kind text) 1 = a := ⟨_, rfl⟩
        obtain ⟨l, hl⟩ : ∃ l, lTo kind (fun x => vOf (fourI id fr tt snap x)) (l0Of kind text) 1 = l := ⟨_, rfl⟩
        rw [ha] at AB HA
        rw [hl] at hls HL
        rw [hl]
        clear ha hl
        have v2 : (Int.tmod fr 65536 + 65536).tmod 65536 = vOf fr := rfl
        have v1 : wrap64 (Int.tmod fr 65536 + 65536) = Int.tmod fr 65536 + 65536 := by
          have h1 := Int.tmod_lt_of_pos fr (show (0 : Int) < 65536 by decide)
          have h2 := Int.lt_tmod_of_pos fr (show (0 : Int) < 65536 by decide)
          exact IntWalk.wrap64_in _ (by omega)
        have hvr := vOf_rng fr
        have DC := Aside0.mk (fun w => scriniumlaw20_digits.calls 6 (vOf fr) _ w (digits_at (vOf fr) 6 (Nat.le_refl _) hvr.1 (by omega)))
        have hls2 := LS.out
        have hds := digB_small (vOf fr)
        have s3 : (9223372036854775807 < 1 + (digB (vOf fr)).size) = False := eq_false (by omega)
        have s4 : (9223372036854775807 < l.size + (1 + (digB (vOf fr)).size)) = False := eq_false (by omega)
        clear hls hls2 hds hvr
        cases f with
        | true =>
          obtain ⟨wa, hwa⟩ : ∃ wa, (wr.alloc (.cells #[.int .i64 id, .int .i64 fr, .int .i64 tt, .int .i64 snap] 3)).alloc (.cells #[.pointer (some ⟨b, 1, none⟩), .pointer (some ⟨b, 2, none⟩), .pointer (some ⟨b, 3, none⟩), .pointer (some ⟨b, 4, none⟩)] 44) = wa := ⟨_, rfl⟩
          have hda : Below wr.heap.size wr wa := by rw [← hwa]; exact below_alloc (below_alloc (Below.refl _ _) _) _
          have ABA := Aside0.mk (blk_below AB.out hda)
          have HBA := Aside0.mk (below_step HB.out hda)
          have FBA := Aside0.mk (blk_below FB.out hda)
          have cf : wa.cell? ⟨b, 2, none⟩ = some (a.cells[2]'(by show 2 < 6; decide)) := blk_cell ABA.out 2
          have ff := blk_frozen ABA.out 2
          rw [← hwa] at cf ff
          have HWA := Aside0.mk hwa
          clear hda hwa
          go_wp2_with fail
          rw [HWA.out]
          refine (DC.out _).mono ?_
          rintro e w7 ⟨rfl, hb⟩
          have ABN : Aside0 (w7.heap[b]? = some (.cells (setI a 1 (vOf fr)).cells 23 (0, 0))) := ⟨by rw [setI_cells a 1 _ (by decide)]; exact blk_below (blk_set ABA.out 2 _) hb⟩
          have HBN := Aside0.mk (below_step (below_set HBA.out BG.out) hb)
          have FBN := Aside0.mk (blk_below (blk_far FBA.out (p := ⟨b, 2, none⟩) (fun e => BLT.out.1 e.symm) (.int .i64 (vOf fr))) hb)
          clear hb cf ff HWA AB HB FB k1 HBA ABA FBA wa
          go_wp2_with fail
          refine ⟨⟨2, by go_num, by decide, by rw [HL.out]; rfl, by rw [HA.out]; exact ABN, FBN, HBN⟩, ?_⟩
          simp [intOf]
        | false =>
          obtain ⟨wa, hwa⟩ : ∃ wa, (wr.alloc (.cells #[.int .i64 id, .int .i64 fr, .int .i64 tt, .int .i64 snap] 3)) = wa := ⟨_, rfl⟩
          have hda : Below wr.heap.size wr wa := by rw [← hwa]; exact below_alloc (Below.refl _ _) _
          have ABN := Aside0.mk (blk_below AB.out hda)
          have HBN := Aside0.mk (below_step HB.out hda)
          have FBN := Aside0.mk (blk_below FB.out hda)
          have HWA := Aside0.mk hwa
          clear hda hwa AB HB FB
          go_wp2_with fail
          rw [HWA.out]
          refine ⟨⟨2, by go_num, by decide, by rw [HL.out]; rfl, by rw [HA.out]; exact ABN, FBN, HBN⟩, ?_⟩
          simp [intOf]
      · have k1 := blk_cell FB.out 2
        rw [show (#[Value.bool i, Value.bool f, Value.bool o, Value.bool s] : Array Value)[2]? = some (.bool o) from rfl] at k1
        have hq : flag kind 2 = o := FLG.out 2
        have hA : aTo kind (fun x => vOf (fourI id fr tt snap x)) (a0Of kind text) (2 + 1) = if flag kind 2 = true then setI (aTo kind (fun x => vOf (fourI id fr tt snap x)) (a0Of kind text) 2) 2 (vOf tt) else aTo kind (fun x => vOf (fourI id fr tt snap x)) (a0Of kind text) 2 := rfl
        have hL : lTo kind (fun x => vOf (fourI id fr tt snap x)) (l0Of kind text) (2 + 1) = if flag kind 2 = true then lTo kind (fun x => vOf (fourI id fr tt snap x)) (l0Of kind text) 2 ++ (⟨#[32]⟩ ++ digB (vOf tt)) else lTo kind (fun x => vOf (fourI id fr tt snap x)) (l0Of kind text) 2 := rfl
        have hls := sizes_lt kind (fun x => vOf (fourI id fr tt snap x)) (l0Of kind text) 2
        rw [hq] at hA hL
        have HA := Aside0.mk hA
        have HL := Aside0.mk hL
        clear hA hL hq
        obtain ⟨a, ha⟩ : ∃ a, aTo kind (fun x => vOf (fourI id fr tt snap x)) (a0Of kind text) 2 = a := ⟨_, rfl⟩
        obtain ⟨l, hl⟩ : ∃ l, lTo kind (fun x => vOf (fourI id fr tt snap x)) (l0Of kind text) 2 = l := ⟨_, rfl⟩
        rw [ha] at AB HA
        rw [hl] at hls HL
        rw [hl]
        clear ha hl
        have v2 : (Int.tmod tt 65536 + 65536).tmod 65536 = vOf tt := rfl
        have v1 : wrap64 (Int.tmod tt 65536 + 65536) = Int.tmod tt 65536 + 65536 := by
          have h1 := Int.tmod_lt_of_pos tt (show (0 : Int) < 65536 by decide)
          have h2 := Int.lt_tmod_of_pos tt (show (0 : Int) < 65536 by decide)
          exact IntWalk.wrap64_in _ (by omega)
        have hvr := vOf_rng tt
        have DC := Aside0.mk (fun w => scriniumlaw20_digits.calls 6 (vOf tt) _ w (digits_at (vOf tt) 6 (Nat.le_refl _) hvr.1 (by omega)))
        have hls2 := LS.out
        have hds := digB_small (vOf tt)
        have s3 : (9223372036854775807 < 1 + (digB (vOf tt)).size) = False := eq_false (by omega)
        have s4 : (9223372036854775807 < l.size + (1 + (digB (vOf tt)).size)) = False := eq_false (by omega)
        clear hls hls2 hds hvr
        cases o with
        | true =>
          obtain ⟨wa, hwa⟩ : ∃ wa, (wr.alloc (.cells #[.int .i64 id, .int .i64 fr, .int .i64 tt, .int .i64 snap] 3)).alloc (.cells #[.pointer (some ⟨b, 1, none⟩), .pointer (some ⟨b, 2, none⟩), .pointer (some ⟨b, 3, none⟩), .pointer (some ⟨b, 4, none⟩)] 44) = wa := ⟨_, rfl⟩
          have hda : Below wr.heap.size wr wa := by rw [← hwa]; exact below_alloc (below_alloc (Below.refl _ _) _) _
          have ABA := Aside0.mk (blk_below AB.out hda)
          have HBA := Aside0.mk (below_step HB.out hda)
          have FBA := Aside0.mk (blk_below FB.out hda)
          have cf : wa.cell? ⟨b, 3, none⟩ = some (a.cells[3]'(by show 3 < 6; decide)) := blk_cell ABA.out 3
          have ff := blk_frozen ABA.out 3
          rw [← hwa] at cf ff
          have HWA := Aside0.mk hwa
          clear hda hwa
          go_wp2_with fail
          rw [HWA.out]
          refine (DC.out _).mono ?_
          rintro e w7 ⟨rfl, hb⟩
          have ABN : Aside0 (w7.heap[b]? = some (.cells (setI a 2 (vOf tt)).cells 23 (0, 0))) := ⟨by rw [setI_cells a 2 _ (by decide)]; exact blk_below (blk_set ABA.out 3 _) hb⟩
          have HBN := Aside0.mk (below_step (below_set HBA.out BG.out) hb)
          have FBN := Aside0.mk (blk_below (blk_far FBA.out (p := ⟨b, 3, none⟩) (fun e => BLT.out.1 e.symm) (.int .i64 (vOf tt))) hb)
          clear hb cf ff HWA AB HB FB k1 HBA ABA FBA wa
          go_wp2_with fail
          refine ⟨⟨3, by go_num, by decide, by rw [HL.out]; rfl, by rw [HA.out]; exact ABN, FBN, HBN⟩, ?_⟩
          simp [intOf]
        | false =>
          obtain ⟨wa, hwa⟩ : ∃ wa, (wr.alloc (.cells #[.int .i64 id, .int .i64 fr, .int .i64 tt, .int .i64 snap] 3)) = wa := ⟨_, rfl⟩
          have hda : Below wr.heap.size wr wa := by rw [← hwa]; exact below_alloc (Below.refl _ _) _
          have ABN := Aside0.mk (blk_below AB.out hda)
          have HBN := Aside0.mk (below_step HB.out hda)
          have FBN := Aside0.mk (blk_below FB.out hda)
          have HWA := Aside0.mk hwa
          clear hda hwa AB HB FB
          go_wp2_with fail
          rw [HWA.out]
          refine ⟨⟨3, by go_num, by decide, by rw [HL.out]; rfl, by rw [HA.out]; exact ABN, FBN, HBN⟩, ?_⟩
          simp [intOf]
      · have k1 := blk_cell FB.out 3
        rw [show (#[Value.bool i, Value.bool f, Value.bool o, Value.bool s] : Array Value)[3]? = some (.bool s) from rfl] at k1
        have hq : flag kind 3 = s := FLG.out 3
        have hA : aTo kind (fun x => vOf (fourI id fr tt snap x)) (a0Of kind text) (3 + 1) = if flag kind 3 = true then setI (aTo kind (fun x => vOf (fourI id fr tt snap x)) (a0Of kind text) 3) 3 (vOf snap) else aTo kind (fun x => vOf (fourI id fr tt snap x)) (a0Of kind text) 3 := rfl
        have hL : lTo kind (fun x => vOf (fourI id fr tt snap x)) (l0Of kind text) (3 + 1) = if flag kind 3 = true then lTo kind (fun x => vOf (fourI id fr tt snap x)) (l0Of kind text) 3 ++ (⟨#[32]⟩ ++ digB (vOf snap)) else lTo kind (fun x => vOf (fourI id fr tt snap x)) (l0Of kind text) 3 := rfl
        have hls := sizes_lt kind (fun x => vOf (fourI id fr tt snap x)) (l0Of kind text) 3
        rw [hq] at hA hL
        have HA := Aside0.mk hA
        have HL := Aside0.mk hL
        clear hA hL hq
        obtain ⟨a, ha⟩ : ∃ a, aTo kind (fun x => vOf (fourI id fr tt snap x)) (a0Of kind text) 3 = a := ⟨_, rfl⟩
        obtain ⟨l, hl⟩ : ∃ l, lTo kind (fun x => vOf (fourI id fr tt snap x)) (l0Of kind text) 3 = l := ⟨_, rfl⟩
        rw [ha] at AB HA
        rw [hl] at hls HL
        rw [hl]
        clear ha hl
        have v2 : (Int.tmod snap 65536 + 65536).tmod 65536 = vOf snap := rfl
        have v1 : wrap64 (Int.tmod snap 65536 + 65536) = Int.tmod snap 65536 + 65536 := by
          have h1 := Int.tmod_lt_of_pos snap (show (0 : Int) < 65536 by decide)
          have h2 := Int.lt_tmod_of_pos snap (show (0 : Int) < 65536 by decide)
          exact IntWalk.wrap64_in _ (by omega)
        have hvr := vOf_rng snap
        have DC := Aside0.mk (fun w => scriniumlaw20_digits.calls 6 (vOf snap) _ w (digits_at (vOf snap) 6 (Nat.le_refl _) hvr.1 (by omega)))
        have hls2 := LS.out
        have hds := digB_small (vOf snap)
        have s3 : (9223372036854775807 < 1 + (digB (vOf snap)).size) = False := eq_false (by omega)
        have s4 : (9223372036854775807 < l.size + (1 + (digB (vOf snap)).size)) = False := eq_false (by omega)
        clear hls hls2 hds hvr
        cases s with
        | true =>
          obtain ⟨wa, hwa⟩ : ∃ wa, (wr.alloc (.cells #[.int .i64 id, .int .i64 fr, .int .i64 tt, .int .i64 snap] 3)).alloc (.cells #[.pointer (some ⟨b, 1, none⟩), .pointer (some ⟨b, 2, none⟩), .pointer (some ⟨b, 3, none⟩), .pointer (some ⟨b, 4, none⟩)] 44) = wa := ⟨_, rfl⟩
          have hda : Below wr.heap.size wr wa := by rw [← hwa]; exact below_alloc (below_alloc (Below.refl _ _) _) _
          have ABA := Aside0.mk (blk_below AB.out hda)
          have HBA := Aside0.mk (below_step HB.out hda)
          have FBA := Aside0.mk (blk_below FB.out hda)
          have cf : wa.cell? ⟨b, 4, none⟩ = some (a.cells[4]'(by show 4 < 6; decide)) := blk_cell ABA.out 4
          have ff := blk_frozen ABA.out 4
          rw [← hwa] at cf ff
          have HWA := Aside0.mk hwa
          clear hda hwa
          go_wp2_with fail
          rw [HWA.out]
          refine (DC.out _).mono ?_
          rintro e w7 ⟨rfl, hb⟩
          have ABN : Aside0 (w7.heap[b]? = some (.cells (setI a 3 (vOf snap)).cells 23 (0, 0))) := ⟨by rw [setI_cells a 3 _ (by decide)]; exact blk_below (blk_set ABA.out 4 _) hb⟩
          have HBN := Aside0.mk (below_step (below_set HBA.out BG.out) hb)
          have FBN := Aside0.mk (blk_below (blk_far FBA.out (p := ⟨b, 4, none⟩) (fun e => BLT.out.1 e.symm) (.int .i64 (vOf snap))) hb)
          clear hb cf ff HWA AB HB FB k1 HBA ABA FBA wa
          go_wp2_with fail
          refine ⟨⟨4, by go_num, by decide, by rw [HL.out]; rfl, by rw [HA.out]; exact ABN, FBN, HBN⟩, ?_⟩
          simp [intOf]
        | false =>
          obtain ⟨wa, hwa⟩ : ∃ wa, (wr.alloc (.cells #[.int .i64 id, .int .i64 fr, .int .i64 tt, .int .i64 snap] 3)) = wa := ⟨_, rfl⟩
          have hda : Below wr.heap.size wr wa := by rw [← hwa]; exact below_alloc (Below.refl _ _) _
          have ABN := Aside0.mk (blk_below AB.out hda)
          have HBN := Aside0.mk (below_step HB.out hda)
          have FBN := Aside0.mk (blk_below FB.out hda)
          have HWA := Aside0.mk hwa
          clear hda hwa AB HB FB
          go_wp2_with fail
          rw [HWA.out]
          refine ⟨⟨4, by go_num, by decide, by rw [HL.out]; rfl, by rw [HA.out]; exact ABN, FBN, HBN⟩, ?_⟩
          simp [intOf]
      · have hok := say_ok kind H1.out H9.out (fun x => vOf (fourI id fr tt snap x)) (fun x => vOf_rng _) text HX.out
        have hrd := say_reads kind H1.out H9.out (fun x => vOf (fourI id fr tt snap x)) (fun x => vOf_rng _) text HX.out
        have hls := sizes_lt kind (fun x => vOf (fourI id fr tt snap x)) (l0Of kind text) 4
        obtain ⟨a, ha⟩ : ∃ a, aTo kind (fun x => vOf (fourI id fr tt snap x)) (a0Of kind text) 4 = a := ⟨_, rfl⟩
        obtain ⟨l, hl⟩ : ∃ l, lTo kind (fun x => vOf (fourI id fr tt snap x)) (l0Of kind text) 4 = l := ⟨_, rfl⟩
        rw [ha] at AB hok hrd
        rw [hl] at hls hrd
        rw [hl]
        have hsz := (ok_rng hok).2.2.2.2.2
        have hpo : putO a = (putK a, true) := by unfold putO; rw [if_pos hok]
        have hps : (putK a).size ≤ 1000000 := by rw [putK_size]; omega
        have hp := put_told a (by omega)
        rw [hpo] at hp
        have PC := Aside0.mk (fun w => ask_Put.calls 5 a.kind a.id a.fr a.tt a.snap a.text (putK a) true w hp)
        have hg := fun w => get_calls (putK a) w hps
        rw [get_put hok] at hg
        have GC := Aside0.mk hg
        have hr := fun w => read_calls l w (by have := LS.out; omega)
        rw [hrd] at hr
        have RC := Aside0.mk hr
        have ht := fun w => ask_Right.told a.kind a.id a.fr a.tt a.snap a.text w
        rw [show askB a.kind a.id a.fr a.tt a.snap a.text = true from hok] at ht
        have TC := Aside0.mk ht
        obtain ⟨y0, y1, y2, y3, y4, y5, _⟩ := six_facts AB.out
        have gl := ask_load wr b _ _ _ _ _ _ y0 y1 y2 y3 y4 y5
        clear ha hl hok hrd hls hsz hpo hps hp hg hr ht FB
        go_wp2_with fail
        refine (PC.out _).mono ?_
        rintro e w7 ⟨rfl, hb⟩
        have AB7 := Aside0.mk (blk_below AB.out hb)
        have HB7 := Aside0.mk (below_step HB.out hb)
        clear hb AB HB gl y0 y1 y2 y3 y4 y5
        go_wp2_with fail
        refine (GC.out _).mono ?_
        rintro e w8 ⟨rfl, hb⟩
        have AB8 := Aside0.mk (blk_below AB7.out hb)
        have HB8 := Aside0.mk (below_step HB7.out hb)
        clear hb AB7 HB7
        obtain ⟨xb, hxb⟩ : ∃ xb, w8.heap.size = xb := ⟨_, rfl⟩
        obtain ⟨w9, hw9⟩ : ∃ w9, w8.alloc (.cells a.cells 23) = w9 := ⟨_, rfl⟩
        have W9E : Aside0 (w8.alloc (.cells #[.int .i64 a.kind, .int .i64 a.id, .int .i64 a.fr, .int .i64 a.tt, .int .i64 a.snap, .string a.text] 23) = w9) := ⟨hw9⟩
        have XE := Aside0.mk hxb
        have hd9 : Below w8.heap.size w8 w9 := by rw [← hw9]; exact below_alloc (Below.refl _ _) _
        have AB9 := Aside0.mk (blk_below AB8.out hd9)
        have HB9 := Aside0.mk (below_step HB8.out hd9)
        have XB9 : Aside0 (w9.heap[xb]? = some (.cells a.cells 23 (0, 0))) := ⟨by rw [← hw9, ← hxb]; exact blk_new _ _⟩
        clear hd9 hw9 hxb AB8 HB8
        unfold outOf AskV.val AskV.cells
        go_wp2_with fail
        rw [W9E.out, XE.out]
        refine (RC.out _).mono ?_
        rintro e w10 ⟨rfl, hb⟩
        have AB10 := Aside0.mk (blk_below AB9.out hb)
        have XB10 := Aside0.mk (blk_below XB9.out hb)
        have HB10 := Aside0.mk (below_step HB9.out hb)
        clear hb AB9 XB9 HB9
        obtain ⟨yb, hyb⟩ : ∃ yb, w10.heap.size = yb := ⟨_, rfl⟩
        obtain ⟨w11, hw11⟩ : ∃ w11, w10.alloc (.cells a.cells 23) = w11 := ⟨_, rfl⟩
        have W11E : Aside0 (w10.alloc (.cells #[.int .i64 a.kind, .int .i64 a.id, .int .i64 a.fr, .int .i64 a.tt, .int .i64 a.snap, .string a.text] 23) = w11) := ⟨hw11⟩
        have YE := Aside0.mk hyb
        have hd9 : Below w10.heap.size w10 w11 := by rw [← hw11]; exact below_alloc (Below.refl _ _) _
        have AB9 := Aside0.mk (blk_below AB10.out hd9)
        have XB9 := Aside0.mk (blk_below XB10.out hd9)
        have HB9 := Aside0.mk (below_step HB10.out hd9)
        have YB9 : Aside0 (w11.heap[yb]? = some (.cells a.cells 23 (0, 0))) := ⟨by rw [← hw11, ← hyb]; exact blk_new _ _⟩
        obtain ⟨y0, y1, y2, y3, y4, y5, _⟩ := six_facts AB9.out
        have gl := ask_load w11 b _ _ _ _ _ _ y0 y1 y2 y3 y4 y5
        rw [← W11E.out] at gl y0 y1 y2 y3 y4 y5
        clear hd9 hw11 hyb AB10 HB10 XB10
        unfold outOf AskV.val AskV.cells
        go_wp2_with fail
        rw [W11E.out, YE.out]
        refine (TC.out _).mono ?_
        rintro e w12 ⟨rfl, hb⟩
        clear gl y0 y1 y2 y3 y4 y5
        have AB := Aside0.mk (blk_below AB9.out hb)
        have XB := Aside0.mk (blk_below XB9.out hb)
        have YB := Aside0.mk (blk_below YB9.out hb)
        have HB := Aside0.mk (below_step HB9.out hb)
        obtain ⟨y0, y1, y2, y3, y4, y5, _⟩ := six_facts AB.out
        have gl1 := ask_load w12 b _ _ _ _ _ _ y0 y1 y2 y3 y4 y5
        obtain ⟨z0, z1, z2, z3, z4, z5, _⟩ := six_facts XB.out
        have gl2 := ask_load w12 xb _ _ _ _ _ _ z0 z1 z2 z3 z4 z5
        obtain ⟨x0, x1, x2, x3, x4, x5, _⟩ := six_facts YB.out
        have gl3 := ask_load w12 yb _ _ _ _ _ _ x0 x1 x2 x3 x4 x5
        clear hb AB9 XB9 YB9 HB9 gl1 gl2 gl3
        go_wp2_with fail
        go_ret
        exact ⟨rfl, HB.out⟩
  | false =>
    have A0 : Aside0 (a0Of kind text = { zeroV with kind := kind }) := ⟨by unfold a0Of; rw [FT.out]; rfl⟩
    have L0 : Aside0 (l0Of kind text = nm) := ⟨by unfold l0Of; rw [FT.out, NM.out]; rfl⟩
    clear XC NC FC AC
    go_wp2_with fail
    obtain ⟨fb, hfb⟩ : ∃ fb, w4.heap.size = fb := ⟨_, rfl⟩
    obtain ⟨W6, hW6⟩ : ∃ W6, w4.alloc (.cells #[.bool i, .bool f, .bool o, .bool s] 4) = W6 := ⟨_, rfl⟩
    rw [hW6]
    have hd6 : Below w4.heap.size w4 W6 := by rw [← hW6]; exact below_alloc (Below.refl _ _) _
    have AB6 := Aside0.mk (blk_below AB.out hd6)
    have HB6 := Aside0.mk (below_step HB.out hd6)
    have FB6 : Aside0 (W6.heap[fb]? = some (.cells #[.bool i, .bool f, .bool o, .bool s] 4 (0, 0))) := ⟨by rw [← hW6, ← hfb]; exact blk_new _ _⟩
    have BLT : Aside0 (b ≠ fb ∧ w.heap.size ≤ fb) := ⟨by have := blk_lt AB.out; have := HB.out.size; omega⟩
    rw [← A0.out] at AB6
    have hL0 := L0.out
    try rw [hfb]
    rw [← hL0]
    have LS : Aside0 ((l0Of kind text).size ≤ 102) := ⟨l0_small kind text HX.out⟩
    clear hfb hW6 hd6 AB HB hL0 A0 L0 w4
    go_loopw [19, 71] (fun s19 s71 wr => ∃ j : Nat, s71 = .int .i64 (j : Int) ∧ j ≤ 4 ∧ s19 = .string (lTo kind (fun x => vOf (fourI id fr tt snap x)) (l0Of kind text) j) ∧ Aside0 (wr.heap[b]? = some (.cells (aTo kind (fun x => vOf (fourI id fr tt snap x)) (a0Of kind text) j).cells 23 (0, 0))) ∧ Aside0 (wr.heap[fb]? = some (.cells #[.bool i, .bool f, .bool o, .bool s] 4 (0, 0))) ∧ Aside0 (Below w.heap.size w wr)) (fun _ s71 _ => 4 - (intOf s71).toNat)
    case atStart => exact ⟨0, rfl, by decide, rfl, AB6, FB6, HB6⟩
    case round =>
      clear AB6 FB6 HB6
      obtain ⟨j, rfl, hj, rfl, AB, FB, HB⟩ := hrel
      rcases (show j = 0 ∨ j = 1 ∨ j = 2 ∨ j = 3 ∨ j = 4 by omega) with rfl | rfl | rfl | rfl | rfl
      · have k1 := blk_cell FB.out 0
        rw [show (#[Value.bool i, Value.bool f, Value.bool o, Value.bool s] : Array Value)[0]? = some (.bool i) from rfl] at k1
        have hq : flag kind 0 = i := FLG.out 0
        have hA : aTo kind (fun x => vOf (fourI id fr tt snap x)) (a0Of kind text) (0 + 1) = if flag kind 0 = true then setI (aTo kind (fun x => vOf (fourI id fr tt snap x)) (a0Of kind text) 0) 0 (vOf id) else aTo kind (fun x => vOf (fourI id fr tt snap x)) (a0Of kind text) 0 := rfl
        have hL : lTo kind (fun x => vOf (fourI id fr tt snap x)) (l0Of kind text) (0 + 1) = if flag kind 0 = true then lTo kind (fun x => vOf (fourI id fr tt snap x)) (l0Of kind text) 0 ++ (⟨#[32]⟩ ++ digB (vOf id)) else lTo kind (fun x => vOf (fourI id fr tt snap x)) (l0Of kind text) 0 := rfl
        have hls := sizes_lt kind (fun x => vOf (fourI id fr tt snap x)) (l0Of kind text) 0
        rw [hq] at hA hL
        have HA := Aside0.mk hA
        have HL := Aside0.mk hL
        clear hA hL hq
        obtain ⟨a, ha⟩ : ∃ a, aTo kind (fun x => vOf (fourI id fr tt snap x)) (a0Of kind text) 0 = a := ⟨_, rfl⟩
        obtain ⟨l, hl⟩ : ∃ l, lTo kind (fun x => vOf (fourI id fr tt snap x)) (l0Of kind text) 0 = l := ⟨_, rfl⟩
        rw [ha] at AB HA
        rw [hl] at hls HL
        rw [hl]
        clear ha hl
        have v2 : (Int.tmod id 65536 + 65536).tmod 65536 = vOf id := rfl
        have v1 : wrap64 (Int.tmod id 65536 + 65536) = Int.tmod id 65536 + 65536 := by
          have h1 := Int.tmod_lt_of_pos id (show (0 : Int) < 65536 by decide)
          have h2 := Int.lt_tmod_of_pos id (show (0 : Int) < 65536 by decide)
          exact IntWalk.wrap64_in _ (by omega)
        have hvr := vOf_rng id
        have DC := Aside0.mk (fun w => scriniumlaw20_digits.calls 6 (vOf id) _ w (digits_at (vOf id) 6 (Nat.le_refl _) hvr.1 (by omega)))
        have hls2 := LS.out
        have hds := digB_small (vOf id)
        have s3 : (9223372036854775807 < 1 + (digB (vOf id)).size) = False := eq_false (by omega)
        have s4 : (9223372036854775807 < l.size + (1 + (digB (vOf id)).size)) = False := eq_false (by omega)
        clear hls hls2 hds hvr
        cases i with
        | true =>
          obtain ⟨wa, hwa⟩ : ∃ wa, (wr.alloc (.cells #[.int .i64 id, .int .i64 fr, .int .i64 tt, .int .i64 snap] 3)).alloc (.cells #[.pointer (some ⟨b, 1, none⟩), .pointer (some ⟨b, 2, none⟩), .pointer (some ⟨b, 3, none⟩), .pointer (some ⟨b, 4, none⟩)] 44) = wa := ⟨_, rfl⟩
          have hda : Below wr.heap.size wr wa := by rw [← hwa]; exact below_alloc (below_alloc (Below.refl _ _) _) _
          have ABA := Aside0.mk (blk_below AB.out hda)
          have HBA := Aside0.mk (below_step HB.out hda)
          have FBA := Aside0.mk (blk_below FB.out hda)
          have cf : wa.cell? ⟨b, 1, none⟩ = some (a.cells[1]'(by show 1 < 6; decide)) := blk_cell ABA.out 1
          have ff := blk_frozen ABA.out 1
          rw [← hwa] at cf ff
          have HWA := Aside0.mk hwa
          clear hda hwa
          go_wp2_with fail
          rw [HWA.out]
          refine (DC.out _).mono ?_
          rintro e w7 ⟨rfl, hb⟩
          have ABN : Aside0 (w7.heap[b]? = some (.cells (setI a 0 (vOf id)).cells 23 (0, 0))) := ⟨by rw [setI_cells a 0 _ (by decide)]; exact blk_below (blk_set ABA.out 1 _) hb⟩
          have HBN := Aside0.mk (below_step (below_set HBA.out BG.out) hb)
          have FBN := Aside0.mk (blk_below (blk_far FBA.out (p := ⟨b, 1, none⟩) (fun e => BLT.out.1 e.symm) (.int .i64 (vOf id))) hb)
          clear hb cf ff HWA AB HB FB k1 HBA ABA FBA wa
          go_wp2_with fail
          refine ⟨⟨1, by go_num, by decide, by rw [HL.out]; rfl, by rw [HA.out]; exact ABN, FBN, HBN⟩, ?_⟩
          simp [intOf]
        | false =>
          obtain ⟨wa, hwa⟩ : ∃ wa, (wr.alloc (.cells #[.int .i64 id, .int .i64 fr, .int .i64 tt, .int .i64 snap] 3)) = wa := ⟨_, rfl⟩
          have hda : Below wr.heap.size wr wa := by rw [← hwa]; exact below_alloc (Below.refl _ _) _
          have ABN := Aside0.mk (blk_below AB.out hda)
          have HBN := Aside0.mk (below_step HB.out hda)
          have FBN := Aside0.mk (blk_below FB.out hda)
          have HWA := Aside0.mk hwa
          clear hda hwa AB HB FB
          go_wp2_with fail
          rw [HWA.out]
          refine ⟨⟨1, by go_num, by decide, by rw [HL.out]; rfl, by rw [HA.out]; exact ABN, FBN, HBN⟩, ?_⟩
          simp [intOf]
      · have k1 := blk_cell FB.out 1
        rw [show (#[Value.bool i, Value.bool f, Value.bool o, Value.bool s] : Array Value)[1]? = some (.bool f) from rfl] at k1
        have hq : flag kind 1 = f := FLG.out 1
        have hA : aTo kind (fun x => vOf (fourI id fr tt snap x)) (a0Of kind text) (1 + 1) = if flag kind 1 = true then setI (aTo kind (fun x => vOf (fourI id fr tt snap x)) (a0Of kind text) 1) 1 (vOf fr) else aTo kind (fun x => vOf (fourI id fr tt snap x)) (a0Of kind text) 1 := rfl
        have hL : lTo kind (fun x => vOf (fourI id fr tt snap x)) (l0Of kind text) (1 + 1) = if flag kind 1 = true then lTo kind (fun x => vOf (fourI id fr tt snap x)) (l0Of kind text) 1 ++ (⟨#[32]⟩ ++ digB (vOf fr)) else lTo kind (fun x => vOf (fourI id fr tt snap x)) (l0Of kind text) 1 := rfl
        have hls := sizes_lt kind (fun x => vOf (fourI id fr tt snap x)) (l0Of kind text) 1
        rw [hq] at hA hL
        have HA := Aside0.mk hA
        have HL := Aside0.mk hL
        clear hA hL hq
        obtain ⟨a, ha⟩ : ∃ a, aTo kind (fun x => vOf (fourI id fr tt snap x)) (a0Of kind text) 1 = a := ⟨_, rfl⟩
        obtain ⟨l, hl⟩ : ∃ l, lTo kind (fun x => vOf (fourI id fr tt snap x)) (l0Of kind text) 1 = l := ⟨_, rfl⟩
        rw [ha] at AB HA
        rw [hl] at hls HL
        rw [hl]
        clear ha hl
        have v2 : (Int.tmod fr 65536 + 65536).tmod 65536 = vOf fr := rfl
        have v1 : wrap64 (Int.tmod fr 65536 + 65536) = Int.tmod fr 65536 + 65536 := by
          have h1 := Int.tmod_lt_of_pos fr (show (0 : Int) < 65536 by decide)
          have h2 := Int.lt_tmod_of_pos fr (show (0 : Int) < 65536 by decide)
          exact IntWalk.wrap64_in _ (by omega)
        have hvr := vOf_rng fr
        have DC := Aside0.mk (fun w => scriniumlaw20_digits.calls 6 (vOf fr) _ w (digits_at (vOf fr) 6 (Nat.le_refl _) hvr.1 (by omega)))
        have hls2 := LS.out
        have hds := digB_small (vOf fr)
        have s3 : (9223372036854775807 < 1 + (digB (vOf fr)).size) = False := eq_false (by omega)
        have s4 : (9223372036854775807 < l.size + (1 + (digB (vOf fr)).size)) = False := eq_false (by omega)
        clear hls hls2 hds hvr
        cases f with
        | true =>
          obtain ⟨wa, hwa⟩ : ∃ wa, (wr.alloc (.cells #[.int .i64 id, .int .i64 fr, .int .i64 tt, .int .i64 snap] 3)).alloc (.cells #[.pointer (some ⟨b, 1, none⟩), .pointer (some ⟨b, 2, none⟩), .pointer (some ⟨b, 3, none⟩), .pointer (some ⟨b, 4, none⟩)] 44) = wa := ⟨_, rfl⟩
          have hda : Below wr.heap.size wr wa := by rw [← hwa]; exact below_alloc (below_alloc (Below.refl _ _) _) _
          have ABA := Aside0.mk (blk_below AB.out hda)
          have HBA := Aside0.mk (below_step HB.out hda)
          have FBA := Aside0.mk (blk_below FB.out hda)
          have cf : wa.cell? ⟨b, 2, none⟩ = some (a.cells[2]'(by show 2 < 6; decide)) := blk_cell ABA.out 2
          have ff := blk_frozen ABA.out 2
          rw [← hwa] at cf ff
          have HWA := Aside0.mk hwa
          clear hda hwa
          go_wp2_with fail
          rw [HWA.out]
          refine (DC.out _).mono ?_
          rintro e w7 ⟨rfl, hb⟩
          have ABN : Aside0 (w7.heap[b]? = some (.cells (setI a 1 (vOf fr)).cells 23 (0, 0))) := ⟨by rw [setI_cells a 1 _ (by decide)]; exact blk_below (blk_set ABA.out 2 _) hb⟩
          have HBN := Aside0.mk (below_step (below_set HBA.out BG.out) hb)
          have FBN := Aside0.mk (blk_below (blk_far FBA.out (p := ⟨b, 2, none⟩) (fun e => BLT.out.1 e.symm) (.int .i64 (vOf fr))) hb)
          clear hb cf ff HWA AB HB FB k1 HBA ABA FBA wa
          go_wp2_with fail
          refine ⟨⟨2, by go_num, by decide, by rw [HL.out]; rfl, by rw [HA.out]; exact ABN, FBN, HBN⟩, ?_⟩
          simp [intOf]
        | false =>
          obtain ⟨wa, hwa⟩ : ∃ wa, (wr.alloc (.cells #[.int .i64 id, .int .i64 fr, .int .i64 tt, .int .i64 snap] 3)) = wa := ⟨_, rfl⟩
          have hda : Below wr.heap.size wr wa := by rw [← hwa]; exact below_alloc (Below.refl _ _) _
          have ABN := Aside0.mk (blk_below AB.out hda)
          have HBN := Aside0.mk (below_step HB.out hda)
          have FBN := Aside0.mk (blk_below FB.out hda)
          have HWA := Aside0.mk hwa
          clear hda hwa AB HB FB
          go_wp2_with fail
          rw [HWA.out]
          refine ⟨⟨2, by go_num, by decide, by rw [HL.out]; rfl, by rw [HA.out]; exact ABN, FBN, HBN⟩, ?_⟩
          simp [intOf]
      · have k1 := blk_cell FB.out 2
        rw [show (#[Value.bool i, Value.bool f, Value.bool o, Value.bool s] : Array Value)[2]? = some (.bool o) from rfl] at k1
        have hq : flag kind 2 = o := FLG.out 2
        have hA : aTo kind (fun x => vOf (fourI id fr tt snap x)) (a0Of kind text) (2 + 1) = if flag kind 2 = true then setI (aTo kind (fun x => vOf (fourI id fr tt snap x)) (a0Of kind text) 2) 2 (vOf tt) else aTo kind (fun x => vOf (fourI id fr tt snap x)) (a0Of kind text) 2 := rfl
        have hL : lTo kind (fun x => vOf (fourI id fr tt snap x)) (l0Of kind text) (2 + 1) = if flag kind 2 = true then lTo kind (fun x => vOf (fourI id fr tt snap x)) (l0Of kind text) 2 ++ (⟨#[32]⟩ ++ digB (vOf tt)) else lTo kind (fun x => vOf (fourI id fr tt snap x)) (l0Of kind text) 2 := rfl
        have hls := sizes_lt kind (fun x => vOf (fourI id fr tt snap x)) (l0Of kind text) 2
        rw [hq] at hA hL
        have HA := Aside0.mk hA
        have HL := Aside0.mk hL
        clear hA hL hq
        obtain ⟨a, ha⟩ : ∃ a, aTo kind (fun x => vOf (fourI id fr tt snap x)) (a0Of kind text) 2 = a := ⟨_, rfl⟩
        obtain ⟨l, hl⟩ : ∃ l, lTo kind (fun x => vOf (fourI id fr tt snap x)) (l0Of kind text) 2 = l := ⟨_, rfl⟩
        rw [ha] at AB HA
        rw [hl] at hls HL
        rw [hl]
        clear ha hl
        have v2 : (Int.tmod tt 65536 + 65536).tmod 65536 = vOf tt := rfl
        have v1 : wrap64 (Int.tmod tt 65536 + 65536) = Int.tmod tt 65536 + 65536 := by
          have h1 := Int.tmod_lt_of_pos tt (show (0 : Int) < 65536 by decide)
          have h2 := Int.lt_tmod_of_pos tt (show (0 : Int) < 65536 by decide)
          exact IntWalk.wrap64_in _ (by omega)
        have hvr := vOf_rng tt
        have DC := Aside0.mk (fun w => scriniumlaw20_digits.calls 6 (vOf tt) _ w (digits_at (vOf tt) 6 (Nat.le_refl _) hvr.1 (by omega)))
        have hls2 := LS.out
        have hds := digB_small (vOf tt)
        have s3 : (9223372036854775807 < 1 + (digB (vOf tt)).size) = False := eq_false (by omega)
        have s4 : (9223372036854775807 < l.size + (1 + (digB (vOf tt)).size)) = False := eq_false (by omega)
        clear hls hls2 hds hvr
        cases o with
        | true =>
          obtain ⟨wa, hwa⟩ : ∃ wa, (wr.alloc (.cells #[.int .i64 id, .int .i64 fr, .int .i64 tt, .int .i64 snap] 3)).alloc (.cells #[.pointer (some ⟨b, 1, none⟩), .pointer (some ⟨b, 2, none⟩), .pointer (some ⟨b, 3, none⟩), .pointer (some ⟨b, 4, none⟩)] 44) = wa := ⟨_, rfl⟩
          have hda : Below wr.heap.size wr wa := by rw [← hwa]; exact below_alloc (below_alloc (Below.refl _ _) _) _
          have ABA := Aside0.mk (blk_below AB.out hda)
          have HBA := Aside0.mk (below_step HB.out hda)
          have FBA := Aside0.mk (blk_below FB.out hda)
          have cf : wa.cell? ⟨b, 3, none⟩ = some (a.cells[3]'(by show 3 < 6; decide)) := blk_cell ABA.out 3
          have ff := blk_frozen ABA.out 3
          rw [← hwa] at cf ff
          have HWA := Aside0.mk hwa
          clear hda hwa
          go_wp2_with fail
          rw [HWA.out]
          refine (DC.out _).mono ?_
          rintro e w7 ⟨rfl, hb⟩
          have ABN : Aside0 (w7.heap[b]? = some (.cells (setI a 2 (vOf tt)).cells 23 (0, 0))) := ⟨by rw [setI_cells a 2 _ (by decide)]; exact blk_below (blk_set ABA.out 3 _) hb⟩
          have HBN := Aside0.mk (below_step (below_set HBA.out BG.out) hb)
          have FBN := Aside0.mk (blk_below (blk_far FBA.out (p := ⟨b, 3, none⟩) (fun e => BLT.out.1 e.symm) (.int .i64 (vOf tt))) hb)
          clear hb cf ff HWA AB HB FB k1 HBA ABA FBA wa
          go_wp2_with fail
          refine ⟨⟨3, by go_num, by decide, by rw [HL.out]; rfl, by rw [HA.out]; exact ABN, FBN, HBN⟩, ?_⟩
          simp [intOf]
        | false =>
          obtain ⟨wa, hwa⟩ : ∃ wa, (wr.alloc (.cells #[.int .i64 id, .int .i64 fr, .int .i64 tt, .int .i64 snap] 3)) = wa := ⟨_, rfl⟩
          have hda : Below wr.heap.size wr wa := by rw [← hwa]; exact below_alloc (Below.refl _ _) _
          have ABN := Aside0.mk (blk_below AB.out hda)
          have HBN := Aside0.mk (below_step HB.out hda)
          have FBN := Aside0.mk (blk_below FB.out hda)
          have HWA := Aside0.mk hwa
          clear hda hwa AB HB FB
          go_wp2_with fail
          rw [HWA.out]
          refine ⟨⟨3, by go_num, by decide, by rw [HL.out]; rfl, by rw [HA.out]; exact ABN, FBN, HBN⟩, ?_⟩
          simp [intOf]
      · have k1 := blk_cell FB.out 3
        rw [show (#[Value.bool i, Value.bool f, Value.bool o, Value.bool s] : Array Value)[3]? = some (.bool s) from rfl] at k1
        have hq : flag kind 3 = s := FLG.out 3
        have hA : aTo kind (fun x => vOf (fourI id fr tt snap x)) (a0Of kind text) (3 + 1) = if flag kind 3 = true then setI (aTo kind (fun x => vOf (fourI id fr tt snap x)) (a0Of kind text) 3) 3 (vOf snap) else aTo kind (fun x => vOf (fourI id fr tt snap x)) (a0Of kind text) 3 := rfl
        have hL : lTo kind (fun x => vOf (fourI id fr tt snap x)) (l0Of kind text) (3 + 1) = if flag kind 3 = true then lTo kind (fun x => vOf (fourI id fr tt snap x)) (l0Of kind text) 3 ++ (⟨#[32]⟩ ++ digB (vOf snap)) else lTo kind (fun x => vOf (fourI id fr tt snap x)) (l0Of kind text) 3 := rfl
        have hls := sizes_lt kind (fun x => vOf (fourI id fr tt snap x)) (l0Of kind text) 3
        rw [hq] at hA hL
        have HA := Aside0.mk hA
        have HL := Aside0.mk hL
        clear hA hL hq
        obtain ⟨a, ha⟩ : ∃ a, aTo kind (fun x => vOf (fourI id fr tt snap x)) (a0Of kind text) 3 = a := ⟨_, rfl⟩
        obtain ⟨l, hl⟩ : ∃ l, lTo kind (fun x => vOf (fourI id fr tt snap x)) (l0Of kind text) 3 = l := ⟨_, rfl⟩
        rw [ha] at AB HA
        rw [hl] at hls HL
        rw [hl]
        clear ha hl
        have v2 : (Int.tmod snap 65536 + 65536).tmod 65536 = vOf snap := rfl
        have v1 : wrap64 (Int.tmod snap 65536 + 65536) = Int.tmod snap 65536 + 65536 := by
          have h1 := Int.tmod_lt_of_pos snap (show (0 : Int) < 65536 by decide)
          have h2 := Int.lt_tmod_of_pos snap (show (0 : Int) < 65536 by decide)
          exact IntWalk.wrap64_in _ (by omega)
        have hvr := vOf_rng snap
        have DC := Aside0.mk (fun w => scriniumlaw20_digits.calls 6 (vOf snap) _ w (digits_at (vOf snap) 6 (Nat.le_refl _) hvr.1 (by omega)))
        have hls2 := LS.out
        have hds := digB_small (vOf snap)
        have s3 : (9223372036854775807 < 1 + (digB (vOf snap)).size) = False := eq_false (by omega)
        have s4 : (9223372036854775807 < l.size + (1 + (digB (vOf snap)).size)) = False := eq_false (by omega)
        clear hls hls2 hds hvr
        cases s with
        | true =>
          obtain ⟨wa, hwa⟩ : ∃ wa, (wr.alloc (.cells #[.int .i64 id, .int .i64 fr, .int .i64 tt, .int .i64 snap] 3)).alloc (.cells #[.pointer (some ⟨b, 1, none⟩), .pointer (some ⟨b, 2, none⟩), .pointer (some ⟨b, 3, none⟩), .pointer (some ⟨b, 4, none⟩)] 44) = wa := ⟨_, rfl⟩
          have hda : Below wr.heap.size wr wa := by rw [← hwa]; exact below_alloc (below_alloc (Below.refl _ _) _) _
          have ABA := Aside0.mk (blk_below AB.out hda)
          have HBA := Aside0.mk (below_step HB.out hda)
          have FBA := Aside0.mk (blk_below FB.out hda)
          have cf : wa.cell? ⟨b, 4, none⟩ = some (a.cells[4]'(by show 4 < 6; decide)) := blk_cell ABA.out 4
          have ff := blk_frozen ABA.out 4
          rw [← hwa] at cf ff
          have HWA := Aside0.mk hwa
          clear hda hwa
          go_wp2_with fail
          rw [HWA.out]
          refine (DC.out _).mono ?_
          rintro e w7 ⟨rfl, hb⟩
          have ABN : Aside0 (w7.heap[b]? = some (.cells (setI a 3 (vOf snap)).cells 23 (0, 0))) := ⟨by rw [setI_cells a 3 _ (by decide)]; exact blk_below (blk_set ABA.out 4 _) hb⟩
          have HBN := Aside0.mk (below_step (below_set HBA.out BG.out) hb)
          have FBN := Aside0.mk (blk_below (blk_far FBA.out (p := ⟨b, 4, none⟩) (fun e => BLT.out.1 e.symm) (.int .i64 (vOf snap))) hb)
          clear hb cf ff HWA AB HB FB k1 HBA ABA FBA wa
          go_wp2_with fail
          refine ⟨⟨4, by go_num, by decide, by rw [HL.out]; rfl, by rw [HA.out]; exact ABN, FBN, HBN⟩, ?_⟩
          simp [intOf]
        | false =>
          obtain ⟨wa, hwa⟩ : ∃ wa, (wr.alloc (.cells #[.int .i64 id, .int .i64 fr, .int .i64 tt, .int .i64 snap] 3)) = wa := ⟨_, rfl⟩
          have hda : Below wr.heap.size wr wa := by rw [← hwa]; exact below_alloc (Below.refl _ _) _
          have ABN := Aside0.mk (blk_below AB.out hda)
          have HBN := Aside0.mk (below_step HB.out hda)
          have FBN := Aside0.mk (blk_below FB.out hda)
          have HWA := Aside0.mk hwa
          clear hda hwa AB HB FB
          go_wp2_with fail
          rw [HWA.out]
          refine ⟨⟨4, by go_num, by decide, by rw [HL.out]; rfl, by rw [HA.out]; exact ABN, FBN, HBN⟩, ?_⟩
          simp [intOf]
      · have hok := say_ok kind H1.out H9.out (fun x => vOf (fourI id fr tt snap x)) (fun x => vOf_rng _) text HX.out
        have hrd := say_reads kind H1.out H9.out (fun x => vOf (fourI id fr tt snap x)) (fun x => vOf_rng _) text HX.out
        have hls := sizes_lt kind (fun x => vOf (fourI id fr tt snap x)) (l0Of kind text) 4
        obtain ⟨a, ha⟩ : ∃ a, aTo kind (fun x => vOf (fourI id fr tt snap x)) (a0Of kind text) 4 = a := ⟨_, rfl⟩
        obtain ⟨l, hl⟩ : ∃ l, lTo kind (fun x => vOf (fourI id fr tt snap x)) (l0Of kind text) 4 = l := ⟨_, rfl⟩
        rw [ha] at AB hok hrd
        rw [hl] at hls hrd
        rw [hl]
        have hsz := (ok_rng hok).2.2.2.2.2
        have hpo : putO a = (putK a, true) := by unfold putO; rw [if_pos hok]
        have hps : (putK a).size ≤ 1000000 := by rw [putK_size]; omega
        have hp := put_told a (by omega)
        rw [hpo] at hp
        have PC := Aside0.mk (fun w => ask_Put.calls 5 a.kind a.id a.fr a.tt a.snap a.text (putK a) true w hp)
        have hg := fun w => get_calls (putK a) w hps
        rw [get_put hok] at hg
        have GC := Aside0.mk hg
        have hr := fun w => read_calls l w (by have := LS.out; omega)
        rw [hrd] at hr
        have RC := Aside0.mk hr
        have ht := fun w => ask_Right.told a.kind a.id a.fr a.tt a.snap a.text w
        rw [show askB a.kind a.id a.fr a.tt a.snap a.text = true from hok] at ht
        have TC := Aside0.mk ht
        obtain ⟨y0, y1, y2, y3, y4, y5, _⟩ := six_facts AB.out
        have gl := ask_load wr b _ _ _ _ _ _ y0 y1 y2 y3 y4 y5
        clear ha hl hok hrd hls hsz hpo hps hp hg hr ht FB
        go_wp2_with fail
        refine (PC.out _).mono ?_
        rintro e w7 ⟨rfl, hb⟩
        have AB7 := Aside0.mk (blk_below AB.out hb)
        have HB7 := Aside0.mk (below_step HB.out hb)
        clear hb AB HB gl y0 y1 y2 y3 y4 y5
        go_wp2_with fail
        refine (GC.out _).mono ?_
        rintro e w8 ⟨rfl, hb⟩
        have AB8 := Aside0.mk (blk_below AB7.out hb)
        have HB8 := Aside0.mk (below_step HB7.out hb)
        clear hb AB7 HB7
        obtain ⟨xb, hxb⟩ : ∃ xb, w8.heap.size = xb := ⟨_, rfl⟩
        obtain ⟨w9, hw9⟩ : ∃ w9, w8.alloc (.cells a.cells 23) = w9 := ⟨_, rfl⟩
        have W9E : Aside0 (w8.alloc (.cells #[.int .i64 a.kind, .int .i64 a.id, .int .i64 a.fr, .int .i64 a.tt, .int .i64 a.snap, .string a.text] 23) = w9) := ⟨hw9⟩
        have XE := Aside0.mk hxb
        have hd9 : Below w8.heap.size w8 w9 := by rw [← hw9]; exact below_alloc (Below.refl _ _) _
        have AB9 := Aside0.mk (blk_below AB8.out hd9)
        have HB9 := Aside0.mk (below_step HB8.out hd9)
        have XB9 : Aside0 (w9.heap[xb]? = some (.cells a.cells 23 (0, 0))) := ⟨by rw [← hw9, ← hxb]; exact blk_new _ _⟩
        clear hd9 hw9 hxb AB8 HB8
        unfold outOf AskV.val AskV.cells
        go_wp2_with fail
        rw [W9E.out, XE.out]
        refine (RC.out _).mono ?_
        rintro e w10 ⟨rfl, hb⟩
        have AB10 := Aside0.mk (blk_below AB9.out hb)
        have XB10 := Aside0.mk (blk_below XB9.out hb)
        have HB10 := Aside0.mk (below_step HB9.out hb)
        clear hb AB9 XB9 HB9
        obtain ⟨yb, hyb⟩ : ∃ yb, w10.heap.size = yb := ⟨_, rfl⟩
        obtain ⟨w11, hw11⟩ : ∃ w11, w10.alloc (.cells a.cells 23) = w11 := ⟨_, rfl⟩
        have W11E : Aside0 (w10.alloc (.cells #[.int .i64 a.kind, .int .i64 a.id, .int .i64 a.fr, .int .i64 a.tt, .int .i64 a.snap, .string a.text] 23) = w11) := ⟨hw11⟩
        have YE := Aside0.mk hyb
        have hd9 : Below w10.heap.size w10 w11 := by rw [← hw11]; exact below_alloc (Below.refl _ _) _
        have AB9 := Aside0.mk (blk_below AB10.out hd9)
        have XB9 := Aside0.mk (blk_below XB10.out hd9)
        have HB9 := Aside0.mk (below_step HB10.out hd9)
        have YB9 : Aside0 (w11.heap[yb]? = some (.cells a.cells 23 (0, 0))) := ⟨by rw [← hw11, ← hyb]; exact blk_new _ _⟩
        obtain ⟨y0, y1, y2, y3, y4, y5, _⟩ := six_facts AB9.out
        have gl := ask_load w11 b _ _ _ _ _ _ y0 y1 y2 y3 y4 y5
        rw [← W11E.out] at gl y0 y1 y2 y3 y4 y5
        clear hd9 hw11 hyb AB10 HB10 XB10
        unfold outOf AskV.val AskV.cells
        go_wp2_with fail
        rw [W11E.out, YE.out]
        refine (TC.out _).mono ?_
        rintro e w12 ⟨rfl, hb⟩
        clear gl y0 y1 y2 y3 y4 y5
        have AB := Aside0.mk (blk_below AB9.out hb)
        have XB := Aside0.mk (blk_below XB9.out hb)
        have YB := Aside0.mk (blk_below YB9.out hb)
        have HB := Aside0.mk (below_step HB9.out hb)
        obtain ⟨y0, y1, y2, y3, y4, y5, _⟩ := six_facts AB.out
        have gl1 := ask_load w12 b _ _ _ _ _ _ y0 y1 y2 y3 y4 y5
        obtain ⟨z0, z1, z2, z3, z4, z5, _⟩ := six_facts XB.out
        have gl2 := ask_load w12 xb _ _ _ _ _ _ z0 z1 z2 z3 z4 z5
        obtain ⟨x0, x1, x2, x3, x4, x5, _⟩ := six_facts YB.out
        have gl3 := ask_load w12 yb _ _ _ _ _ _ x0 x1 x2 x3 x4 x5
        clear hb AB9 XB9 YB9 HB9 gl1 gl2 gl3
        go_wp2_with fail
        go_ret
        exact ⟨rfl, HB.out⟩
theorem all_calls20 (kind id fr tt snap : Int) (text : ByteArray) (w : World) (_ : (Lit.int .i64 kind).wf = true) (_ : (Lit.int .i64 id).wf = true) (_ : (Lit.int .i64 fr).wf = true) (_ : (Lit.int .i64 tt).wf = true) (_ : (Lit.int .i64 snap).wf = true) (_ : text.size ≤ 140737488351232) : Calls Tryd.prog 10 #[.int .i64 kind, .int .i64 id, .int .i64 fr, .int .i64 tt, .int .i64 snap, .string text] w fun e w' => e = .returned (.bool true) ∧ Below w.heap.size w w' := by
  by_cases h : kind < 1 ∨ 9 < kind ∨ 40 < text.size
  · exact all_out kind id fr tt snap text w h
  · exact all_in kind id fr tt snap text w (by omega) (by omega) (by omega)
end Go.Proofs.YtbmjekekpmabbaaDoor.P
