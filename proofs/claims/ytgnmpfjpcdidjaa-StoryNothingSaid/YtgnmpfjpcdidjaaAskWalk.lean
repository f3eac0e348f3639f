/- The function Right of package ask computes askB. Conditions: none. -/
import Derived.Test.YtgnmpfjpcdidjaaAskRight
set_option linter.unusedVariables false
set_option linter.unusedSimpArgs false
namespace Go.Proofs.Ytgnmpfjpcdidjaa.P
open Go.RowKit Go.Proofs.YtgnmpfjpcdidjaaW.PrintWords Go.Proofs.YtgnmpfjpcdidjaaW.PrintLast Go.Proofs.YtgnmpfjpcdidjaaW.PrintMore
open Go.ChangeMaps (setBlock heap_setBlock_same heap_setBlock_other)

theorem one_byte (W : World) (c : Int) : (convert 122 9 (.slice (some ⟨W.heap.size, 0, none⟩) 1 1)).run Try.prog (W.alloc (.cells #[.int .u8 c] 5)) = .ok (.string ⟨#[c.toNat.toUInt8]⟩) (W.alloc (.cells #[.int .u8 c] 5)) := by
  have h : ReadsInt (W.alloc (.cells #[.int .u8 c] 5)) .u8 (some ⟨W.heap.size, 0, none⟩) 1 [c] := by
    refine ⟨rfl, by decide, fun _ => ⟨_, rfl, fun j hj => ?_⟩⟩
    obtain rfl : j = 0 := by simp at hj; omega
    exact cell_newA W _ _ 0 _ rfl
  exact string_of_reads Try.underlying122 Try.underlying5 Try.underlying9 h
set_option maxRecDepth 100000 in
set_option maxHeartbeats 4000000 in
theorem right_main (kind id fr tt snap : Int) (text : ByteArray) (w : World) (h1 : (nameOf kind).toList.isEmpty = false) (h2 : decide ((text.size : Int) ≤ 40) = true) (h3 : (text.toList.isEmpty || hasC (hasOf kind) 116) = true) :
    Calls Try.prog 40 #[.agg #[.int .i64 kind, .int .i64 id, .int .i64 fr, .int .i64 tt, .int .i64 snap, .string text]] w fun e w' => e = .returned (.bool (askB kind id fr tt snap text)) ∧ Below w.heap.size w w' := by
  have hB : askB kind id fr tt snap text = fourL.all (passB (hasOf kind) id fr tt snap) := by
    unfold askB
    rw [pass_all _ _ _ _ _ fourL (List.Perm.refl _), h1, h2, h3]
    rfl
  have OC := Aside0.mk (of_calls kind)
  obtain ⟨nm, hnm⟩ : ∃ nm, nameOf kind = nm := ⟨_, rfl⟩
  obtain ⟨has, hhas⟩ : ∃ has, hasOf kind = has := ⟨_, rfl⟩
  rw [hnm] at h1 OC
  rw [hhas] at h3 OC hB
  have TC := Aside0.mk (text_calls text)
  rw [h2] at TC
  have CC := Aside0.mk (contains_calls has)
  have CT := Aside0.mk (fun (he : text.toList.isEmpty = false) => (by rw [he, Bool.false_or] at h3; exact h3 : hasC has 116 = true))
  clear h3
  have HBB := Aside0.mk hB
  clear hB hnm hhas h2
  obtain ⟨W1, hW1⟩ : ∃ W1, w.alloc (.cells #[.int .i64 kind, .int .i64 id, .int .i64 fr, .int .i64 tt, .int .i64 snap, .string text] 23) = W1 := ⟨_, rfl⟩
  have HB1 : Aside0 (Below w.heap.size w W1) := ⟨by rw [← hW1]; exact below_alloc (Below.refl _ _) _⟩
  have g0 : W1.cell? ⟨w.heap.size, 0, none⟩ = some (.int .i64 kind) := by rw [← hW1]; exact cell_newA w _ _ 0 _ rfl
  have g1 : Aside0 (W1.cell? ⟨w.heap.size, 1, none⟩ = some (.int .i64 id)) := ⟨by rw [← hW1]; exact cell_newA w _ _ 1 _ rfl⟩
  have g2 : Aside0 (W1.cell? ⟨w.heap.size, 2, none⟩ = some (.int .i64 fr)) := ⟨by rw [← hW1]; exact cell_newA w _ _ 2 _ rfl⟩
  have g3 : Aside0 (W1.cell? ⟨w.heap.size, 3, none⟩ = some (.int .i64 tt)) := ⟨by rw [← hW1]; exact cell_newA w _ _ 3 _ rfl⟩
  have g4 : Aside0 (W1.cell? ⟨w.heap.size, 4, none⟩ = some (.int .i64 snap)) := ⟨by rw [← hW1]; exact cell_newA w _ _ 4 _ rfl⟩
  have g5 : Aside0 (W1.cell? ⟨w.heap.size, 5, none⟩ = some (.string text)) := ⟨by rw [← hW1]; exact cell_newA w _ _ 5 _ rfl⟩
  have W1E := Aside0.mk hW1
  clear hW1
  go_enter Try.func40, Try.ntmps40
  go_wp2_with fail
  rw [W1E.out]
  refine (OC.out _).mono ?_
  rintro en w2 ⟨rfl, hb⟩
  have HBA := Aside0.mk (show Below W1.heap.size W1 (w2.alloc (.cells #[.string nm, .string has] 114)) from below_alloc hb _)
  have HB3 := Aside0.mk (below_step HB1.out HBA.out)
  have k5 := pw_cell_below HBA.out g5.out
  have s1 : Aside0 ((w2.alloc (.cells #[.string nm, .string has] 114)).cell? ⟨w2.heap.size, 1, none⟩ = some (.string has)) := ⟨cell_newA w2 _ _ 1 _ rfl⟩
  have q1 := s1.out
  clear hb g0 OC
  obtain ⟨sp, hsp⟩ : ∃ sp, w2.heap.size = sp := ⟨_, rfl⟩
  have hlt3 : (w2.alloc (.cells #[.string nm, .string has] 114)).heap.size = w2.heap.size + 1 := Array.size_push _
  go_wp2_with fail
  refine (TC.out _).mono ?_
  rintro en w3 ⟨rfl, rfl⟩
  obtain ⟨W3, hW3⟩ : ∃ W3, w2.alloc (.cells #[.string nm, .string has] 114) = W3 := ⟨_, rfl⟩
  rw [hW3] at HBA HB3 k5 s1 q1 hlt3
  rw [hsp] at s1 q1 hlt3
  rw [hW3]
  clear hW3 hsp
  all_goals skip
  have NU := Aside0.mk (numbers_calls w.heap.size W3)
  have PA := Aside0.mk (fun ks hp => (pass_all has id fr tt snap ks hp).trans (pass_all has id fr tt snap fourL (List.Perm.refl _)).symm)
  clear q1
  have q1 := s1.out
  cases he : text.toList.isEmpty with
  | true =>
    clear CT
    go_wp2_with fail
    refine NU.out.mono ?_
    rintro en w4 ⟨M, ks, rfl, hp, hn, hM, hb⟩
    have hl4 : ks.length = 4 := hp.length_eq
    unfold IsNums at hn
    rw [hl4] at hn
    have hMlt : M < w4.heap.size := by
      rcases Nat.lt_or_ge M w4.heap.size with h | h
      · exact h
      · rw [Array.getElem?_eq_none h] at hn; cases hn
    have hrg : (Instr.range 118 (.map (some M))).run Try.prog w4 = .ok (.pointer (some ⟨w4.heap.size, 0, none⟩)) (w4.alloc (.mapIter (some M) 4 #[] 4)) := by
      have hg : (getObj M).run Try.prog w4 = .ok (.map (numsE w.heap.size ks).toArray 4) w4 := Go.MapKept.run_getObj_map hn
      unfold Instr.range
      simp [run_underlying Try.underlying118, hg, Result.andThen]
    have HN := Aside0.mk hn
    have HB34 := Aside0.mk hb
    have HB4 := Aside0.mk (below_step HB3.out hb)
    have HL := Aside0.mk hl4
    have HPA := Aside0.mk (PA.out ks hp)
    have HF := Aside0.mk (fun p (h : p ∈ ks) => (hp.mem_iff.1 h : p ∈ fourL))
    clear hb hn hl4 hM hp q1 k5
    go_wp2_with fail
    clear hrg
    obtain ⟨r, hr⟩ : ∃ r, w4.heap.size = r := ⟨_, rfl⟩
    have HI5 : Aside0 ((w4.alloc (.mapIter (some M) 4 #[] 4)).heap[r]? = some (.mapIter (some M) 4 #[] 4)) := ⟨by rw [← hr]; exact heap_alloc_new _ _⟩
    have HB5 : Aside0 (Below r w4 (w4.alloc (.mapIter (some M) 4 #[] 4))) := ⟨by rw [← hr]; exact below_alloc (Below.refl _ _) _⟩
    have G1 := Aside0.mk (pw_cell_below HB34.out (pw_cell_below HBA.out g1.out))
    have G2 := Aside0.mk (pw_cell_below HB34.out (pw_cell_below HBA.out g2.out))
    have G3 := Aside0.mk (pw_cell_below HB34.out (pw_cell_below HBA.out g3.out))
    have G4 := Aside0.mk (pw_cell_below HB34.out (pw_cell_below HBA.out g4.out))
    have S4 := Aside0.mk (pw_cell_below HB34.out s1.out)
    have HRW : Aside0 (w.heap.size ≤ r) := ⟨by rw [← hr]; exact HB4.out.size⟩
    rw [hr] at hMlt
    obtain ⟨W5, hW5⟩ : ∃ W5, w4.alloc (.mapIter (some M) 4 #[] 4) = W5 := ⟨_, rfl⟩
    rw [hW5] at HI5 HB5
    have HRr := Aside0.mk hr
    rw [hW5, hr]
    clear hW5 hr
    go_loopw [31] (fun i wr => ∃ (seen : Array Nat) (c : Nat), Aside0 (wr.heap[r]? = some (.mapIter (some M) 4 seen c)) ∧ Aside0 (4 ≤ c) ∧ Aside0 (SeenOk (passB has id fr tt snap) ks seen) ∧ Aside0 (Below r w4 wr)) (fun _ wr => 4 - gone r wr)
    case atStart => exact ⟨#[], 4, HI5, ⟨Nat.le_refl _⟩, ⟨⟨by simp, fun s hs => by simp at hs⟩⟩, HB5⟩
    case round =>
      obtain ⟨seen, c, HI, HC, HS, HB⟩ := hrel
      have hMr : wr.heap[M]? = some (.map (numsE w.heap.size ks).toArray 4) := (HB.out.block M hMlt).trans HN.out
      have hbn : ∀ x ∈ (numsE w.heap.size ks).toArray.toList, x.born < 4 := by have := nums_born w.heap.size ks; rw [HL.out] at this; exact this
      rcases run_next_at (P := Try.prog) wr 0 r M 4 c seen (numsE w.heap.size ks).toArray 4 HI.out hMr hbn HC.out with ⟨h0, hnx⟩ | ⟨e, he, w6, hw6, hnx⟩
      · have hall := seen_end HS.out h0
        have HE := Aside0.mk (HBB.out.trans (HPA.out.symm.trans hall))
        clear h0 hMr hbn hall
        have HBz := Aside0.mk (show Below w.heap.size w wr from (HB4.out).trans (HB.out.mono HRW.out))
        go_wp2_with fail
        go_ret
        exact ⟨by rw [HE.out]; rfl, HBz.out⟩
      · obtain ⟨i, p, hi, rfl, hns⟩ := nums_left he
        have hgl := gone_eq HI.out
        have hrlt : r < w6.heap.size := by
          have h1 : r < wr.heap.size := by
            rcases Nat.lt_or_ge r wr.heap.size with h | h
            · exact h
            · have := HI.out; rw [Array.getElem?_eq_none h] at this; cases this
          rcases hw6 with rfl | rfl
          · exact h1
          · exact h1
        have hMn : ∀ o : Obj, (setBlock w6 r o).heap[M]? = some (.map (numsE w.heap.size ks).toArray 4) := fun o => by
          rw [setB_other w6 r o M (by omega)]
          rcases hw6 with rfl | rfl
          · exact hMr
          · exact hMr
        have hen := run_entry_at (P := Try.prog) (setBlock w6 r (.mapIter (some M) 4 (seen.push i) 4)) r M 4 seen (numsE w.heap.size ks).toArray 4 (numE w.heap.size (p, i)) (setB_same w6 r _ hrlt) (hMn _) (mem_left he).1 (nums_nodup _ _)
        have hni : (setBlock w6 r (.mapIter (some M) 4 (seen.push i) 4)).heap[r]? = some (.mapIter (some M) 4 (seen.push i) 4) := setB_same w6 r _ hrlt
        have HBN := Aside0.mk (below_next HB.out hw6 r (Nat.le_refl _) (.mapIter (some M) 4 (seen.push i) 4))
        have hp4 := HF.out p (List.mem_of_getElem? hi)
        have hcl : w4.cell? ⟨w.heap.size, p.2, none⟩ = some (.int .i64 (fldOf id fr tt snap p.2)) := by
          simp only [fourL, List.mem_cons, List.not_mem_nil, or_false] at hp4
          rcases hp4 with rfl | rfl | rfl | rfl
          · exact G1.out
          · exact G2.out
          · exact G3.out
          · exact G4.out
        have hfp := fun (h : passB has id fr tt snap p = false) => HBB.out.trans (HPA.out.symm.trans (seen_fail i p hi h))
        have hsp := fun (h : passB has id fr tt snap p = true) => seen_push HS.out i p hi hns h
        have hdef : passB has id fr tt snap p = letOk has p.1.toNat.toUInt8 (fldOf id fr tt snap p.2) := rfl
        rw [hdef] at hfp hsp
        have hc0 : 0 ≤ p.1 ∧ p.1 ≤ 255 := by
          simp only [fourL, List.mem_cons, List.not_mem_nil, or_false] at hp4
          rcases hp4 with rfl | rfl | rfl | rfl <;> decide
        change (Instr.next (.pointer (some ⟨r, 0, none⟩)) false 0).run Try.prog wr = .ok (.tuple #[.bool true, .int .u8 p.1, .pointer (some ⟨w.heap.size, p.2, none⟩)]) (setBlock w6 r (.mapIter (some M) 4 (seen.push i) 4)) at hnx
        change (Instr.entry (.pointer (some ⟨r, 0, none⟩))).run Try.prog (setBlock w6 r (.mapIter (some M) 4 (seen.push i) 4)) = .ok (.tuple #[.int .u8 p.1, .pointer (some ⟨w.heap.size, p.2, none⟩)]) (setBlock w6 r (.mapIter (some M) 4 (seen.push i) 4)) at hen
        obtain ⟨ch, f⟩ := p
        obtain ⟨n, hn⟩ : ∃ n, fldOf id fr tt snap f = n := ⟨_, rfl⟩
        dsimp only at hcl hfp hsp hc0 hnx hen
        rw [hn] at hcl hfp hsp
        obtain ⟨Wn, hWn⟩ : ∃ Wn, setBlock w6 r (.mapIter (some M) 4 (seen.push i) 4) = Wn := ⟨_, rfl⟩
        rw [hWn] at hnx hen hni HBN
        have hx0 := pw_cell_below (by rw [HRr.out]; exact HBN.out) hcl
        have hx1 := pw_cell_below (by rw [HRr.out]; exact HBN.out) S4.out
        have SZ := Aside0.mk (seen_size HS.out)
        have HNI := Aside0.mk hni
        have HFP := Aside0.mk hfp
        have HSP := Aside0.mk hsp
        clear hn hWn hdef hp4 hMn hrlt he hi hns hw6 hMr hbn hcl hni hfp hsp HF
        by_cases hneg : n < 0
        · have t1 : decide (n < 0) = true := decide_eq_true hneg
          have HE := Aside0.mk (HFP.out (by unfold letOk; rw [decide_eq_false (show ¬ 0 ≤ n by omega), Bool.false_and]))
          have HBz := Aside0.mk ((HB4.out).trans (HBN.out.mono HRW.out))
          go_wp2_with fail
          go_ret
          exact ⟨by rw [HE.out]; rfl, HBz.out⟩
        have t1 : decide (n < 0) = false := decide_eq_false hneg
        by_cases hbig : 65535 < n
        · have t2 : decide (65535 < n) = true := decide_eq_true hbig
          have HE := Aside0.mk (HFP.out (by unfold letOk; rw [decide_eq_false (show ¬ n ≤ 65535 by omega), Bool.false_and, Bool.and_false]))
          have HBz := Aside0.mk ((HB4.out).trans (HBN.out.mono HRW.out))
          go_wp2_with fail
          go_ret
          exact ⟨by rw [HE.out]; rfl, HBz.out⟩
        have t2 : decide (65535 < n) = false := decide_eq_false hbig
        by_cases hz : 0 < n
        case neg =>
          have t3 : decide (0 < n) = false := decide_eq_false hz
          have hS := HSP.out (by unfold letOk; rw [decide_eq_true (show 0 ≤ n by omega), decide_eq_true (show n ≤ 65535 by omega), decide_eq_true (show n ≤ 0 by omega)]; rfl)
          have HSn := Aside0.mk hS
          have hg2 := gone_eq HNI.out
          have hsz := seen_size hS
          clear hS
          go_wp2_with fail
          go_roundw
          case rel => exact ⟨_, 4, HNI, ⟨Nat.le_refl _⟩, HSn, HBN⟩
          case measure => rw [hg2, hgl]; rw [Array.size_push] at hsz ⊢; have := HL.out; omega
        have t3 : decide (0 < n) = true := decide_eq_true hz
        have hcv : (convert 122 9 (.slice (some ⟨Wn.heap.size, 0, none⟩) 1 1)).run Try.prog (Wn.alloc (.cells #[.int .u8 ch] 5)) = .ok (.string ⟨#[ch.toNat.toUInt8]⟩) (Wn.alloc (.cells #[.int .u8 ch] 5)) := one_byte Wn ch
        have hx2 := pw_cell_below (below_alloc (Below.refl _ _) (.cells #[.int .u8 ch] 5)) hx1
        have HBa := Aside0.mk (show Below r w4 (Wn.alloc (.cells #[.int .u8 ch] 5)) from HBN.out.alloc (by rw [← HRr.out]; exact HBN.out.size) _)
        have HNa : Aside0 ((Wn.alloc (.cells #[.int .u8 ch] 5)).heap[r]? = some (.mapIter (some M) 4 (seen.push i) 4)) := ⟨by
          have hlt : r < Wn.heap.size := by
            rcases Nat.lt_or_ge r Wn.heap.size with h | h
            · exact h
            · have := HNI.out; rw [Array.getElem?_eq_none h] at this; cases this
          exact ((below_alloc (Below.refl Wn.heap.size Wn) _).block r hlt).trans HNI.out⟩
        go_wp2_with fail
        refine (CC.out _ _).mono ?_
        rintro en w7 ⟨rfl, rfl⟩
        cases hh : hasC has ch.toNat.toUInt8 with
        | false =>
          have HE := Aside0.mk (HFP.out (by unfold letOk; rw [hh, decide_eq_false (show ¬ n ≤ 0 by omega), Bool.or_false, Bool.and_false, Bool.and_false]))
          have HBz := Aside0.mk ((HB4.out).trans (HBa.out.mono HRW.out))
          go_wp2_with fail
          go_ret
          exact ⟨by rw [HE.out]; rfl, HBz.out⟩
        | true =>
          have hS := HSP.out (by unfold letOk; rw [hh, decide_eq_true (show 0 ≤ n by omega), decide_eq_true (show n ≤ 65535 by omega), Bool.or_true]; rfl)
          have HSn := Aside0.mk hS
          have hg2 := gone_eq HNa.out
          have hsz := seen_size hS
          clear hS
          go_wp2_with fail
          go_roundw
          case rel => exact ⟨_, 4, HNa, ⟨Nat.le_refl _⟩, HSn, HBa⟩
          case measure => rw [hg2, hgl]; rw [Array.size_push] at hsz ⊢; have := HL.out; omega
  | false =>
    have hC := CT.out he
    clear CT
    go_wp2_with fail
    refine (CC.out 116 _).mono ?_
    rintro en w3 ⟨rfl, rfl⟩
    rw [hC]
    clear hC
    go_wp2_with fail
    refine NU.out.mono ?_
    rintro en w4 ⟨M, ks, rfl, hp, hn, hM, hb⟩
    have hl4 : ks.length = 4 := hp.length_eq
    unfold IsNums at hn
    rw [hl4] at hn
    have hMlt : M < w4.heap.size := by
      rcases Nat.lt_or_ge M w4.heap.size with h | h
      · exact h
      · rw [Array.getElem?_eq_none h] at hn; cases hn
    have hrg : (Instr.range 118 (.map (some M))).run Try.prog w4 = .ok (.pointer (some ⟨w4.heap.size, 0, none⟩)) (w4.alloc (.mapIter (some M) 4 #[] 4)) := by
      have hg : (getObj M).run Try.prog w4 = .ok (.map (numsE w.heap.size ks).toArray 4) w4 := Go.MapKept.run_getObj_map hn
      unfold Instr.range
      simp [run_underlying Try.underlying118, hg, Result.andThen]
    have HN := Aside0.mk hn
    have HB34 := Aside0.mk hb
    have HB4 := Aside0.mk (below_step HB3.out hb)
    have HL := Aside0.mk hl4
    have HPA := Aside0.mk (PA.out ks hp)
    have HF := Aside0.mk (fun p (h : p ∈ ks) => (hp.mem_iff.1 h : p ∈ fourL))
    clear hb hn hl4 hM hp q1 k5
    go_wp2_with fail
    clear hrg
    obtain ⟨r, hr⟩ : ∃ r, w4.heap.size = r := ⟨_, rfl⟩
    have HI5 : Aside0 ((w4.alloc (.mapIter (some M) 4 #[] 4)).heap[r]? = some (.mapIter (some M) 4 #[] 4)) := ⟨by rw [← hr]; exact heap_alloc_new _ _⟩
    have HB5 : Aside0 (Below r w4 (w4.alloc (.mapIter (some M) 4 #[] 4))) := ⟨by rw [← hr]; exact below_alloc (Below.refl _ _) _⟩
    have G1 := Aside0.mk (pw_cell_below HB34.out (pw_cell_below HBA.out g1.out))
    have G2 := Aside0.mk (pw_cell_below HB34.out (pw_cell_below HBA.out g2.out))
    have G3 := Aside0.mk (pw_cell_below HB34.out (pw_cell_below HBA.out g3.out))
    have G4 := Aside0.mk (pw_cell_below HB34.out (pw_cell_below HBA.out g4.out))
    have S4 := Aside0.mk (pw_cell_below HB34.out s1.out)
    have HRW : Aside0 (w.heap.size ≤ r) := ⟨by rw [← hr]; exact HB4.out.size⟩
    rw [hr] at hMlt
    obtain ⟨W5, hW5⟩ : ∃ W5, w4.alloc (.mapIter (some M) 4 #[] 4) = W5 := ⟨_, rfl⟩
    rw [hW5] at HI5 HB5
    have HRr := Aside0.mk hr
    rw [hW5, hr]
    clear hW5 hr
    go_loopw [31] (fun i wr => ∃ (seen : Array Nat) (c : Nat), Aside0 (wr.heap[r]? = some (.mapIter (some M) 4 seen c)) ∧ Aside0 (4 ≤ c) ∧ Aside0 (SeenOk (passB has id fr tt snap) ks seen) ∧ Aside0 (Below r w4 wr)) (fun _ wr => 4 - gone r wr)
    case atStart => exact ⟨#[], 4, HI5, ⟨Nat.le_refl _⟩, ⟨⟨by simp, fun s hs => by simp at hs⟩⟩, HB5⟩
    case round =>
      obtain ⟨seen, c, HI, HC, HS, HB⟩ := hrel
      have hMr : wr.heap[M]? = some (.map (numsE w.heap.size ks).toArray 4) := (HB.out.block M hMlt).trans HN.out
      have hbn : ∀ x ∈ (numsE w.heap.size ks).toArray.toList, x.born < 4 := by have := nums_born w.heap.size ks; rw [HL.out] at this; exact this
      rcases run_next_at (P := Try.prog) wr 0 r M 4 c seen (numsE w.heap.size ks).toArray 4 HI.out hMr hbn HC.out with ⟨h0, hnx⟩ | ⟨e, he, w6, hw6, hnx⟩
      · have hall := seen_end HS.out h0
        have HE := Aside0.mk (HBB.out.trans (HPA.out.symm.trans hall))
        clear h0 hMr hbn hall
        have HBz := Aside0.mk (show Below w.heap.size w wr from (HB4.out).trans (HB.out.mono HRW.out))
        go_wp2_with fail
        go_ret
        exact ⟨by rw [HE.out]; rfl, HBz.out⟩
      · obtain ⟨i, p, hi, rfl, hns⟩ := nums_left he
        have hgl := gone_eq HI.out
        have hrlt : r < w6.heap.size := by
          have h1 : r < wr.heap.size := by
            rcases Nat.lt_or_ge r wr.heap.size with h | h
            · exact h
            · have := HI.out; rw [Array.getElem?_eq_none h] at this; cases this
          rcases hw6 with rfl | rfl
          · exact h1
          · exact h1
        have hMn : ∀ o : Obj, (setBlock w6 r o).heap[M]? = some (.map (numsE w.heap.size ks).toArray 4) := fun o => by
          rw [setB_other w6 r o M (by omega)]
          rcases hw6 with rfl | rfl
          · exact hMr
          · exact hMr
        have hen := run_entry_at (P := Try.prog) (setBlock w6 r (.mapIter (some M) 4 (seen.push i) 4)) r M 4 seen (numsE w.heap.size ks).toArray 4 (numE w.heap.size (p, i)) (setB_same w6 r _ hrlt) (hMn _) (mem_left he).1 (nums_nodup _ _)
        have hni : (setBlock w6 r (.mapIter (some M) 4 (seen.push i) 4)).heap[r]? = some (.mapIter (some M) 4 (seen.push i) 4) := setB_same w6 r _ hrlt
        have HBN := Aside0.mk (below_next HB.out hw6 r (Nat.le_refl _) (.mapIter (some M) 4 (seen.push i) 4))
        have hp4 := HF.out p (List.mem_of_getElem? hi)
        have hcl : w4.cell? ⟨w.heap.size, p.2, none⟩ = some (.int .i64 (fldOf id fr tt snap p.2)) := by
          simp only [fourL, List.mem_cons, List.not_mem_nil, or_false] at hp4
          rcases hp4 with rfl | rfl | rfl | rfl
          · exact G1.out
          · exact G2.out
          · exact G3.out
          · exact G4.out
        have hfp := fun (h : passB has id fr tt snap p = false) => HBB.out.trans (HPA.out.symm.trans (seen_fail i p hi h))
        have hsp := fun (h : passB has id fr tt snap p = true) => seen_push HS.out i p hi hns h
        have hdef : passB has id fr tt snap p = letOk has p.1.toNat.toUInt8 (fldOf id fr tt snap p.2) := rfl
        rw [hdef] at hfp hsp
        have hc0 : 0 ≤ p.1 ∧ p.1 ≤ 255 := by
          simp only [fourL, List.mem_cons, List.not_mem_nil, or_false] at hp4
          rcases hp4 with rfl | rfl | rfl | rfl <;> decide
        change (Instr.next (.pointer (some ⟨r, 0, none⟩)) false 0).run Try.prog wr = .ok (.tuple #[.bool true, .int .u8 p.1, .pointer (some ⟨w.heap.size, p.2, none⟩)]) (setBlock w6 r (.mapIter (some M) 4 (seen.push i) 4)) at hnx
        change (Instr.entry (.pointer (some ⟨r, 0, none⟩))).run Try.prog (setBlock w6 r (.mapIter (some M) 4 (seen.push i) 4)) = .ok (.tuple #[.int .u8 p.1, .pointer (some ⟨w.heap.size, p.2, none⟩)]) (setBlock w6 r (.mapIter (some M) 4 (seen.push i) 4)) at hen
        obtain ⟨ch, f⟩ := p
        obtain ⟨n, hn⟩ : ∃ n, fldOf id fr tt snap f = n := ⟨_, rfl⟩
        dsimp only at hcl hfp hsp hc0 hnx hen
        rw [hn] at hcl hfp hsp
        obtain ⟨Wn, hWn⟩ : ∃ Wn, setBlock w6 r (.mapIter (some M) 4 (seen.push i) 4) = Wn := ⟨_, rfl⟩
        rw [hWn] at hnx hen hni HBN
        have hx0 := pw_cell_below (by rw [HRr.out]; exact HBN.out) hcl
        have hx1 := pw_cell_below (by rw [HRr.out]; exact HBN.out) S4.out
        have SZ := Aside0.mk (seen_size HS.out)
        have HNI := Aside0.mk hni
        have HFP := Aside0.mk hfp
        have HSP := Aside0.mk hsp
        clear hn hWn hdef hp4 hMn hrlt he hi hns hw6 hMr hbn hcl hni hfp hsp HF
        by_cases hneg : n < 0
        · have t1 : decide (n < 0) = true := decide_eq_true hneg
          have HE := Aside0.mk (HFP.out (by unfold letOk; rw [decide_eq_false (show ¬ 0 ≤ n by omega), Bool.false_and]))
          have HBz := Aside0.mk ((HB4.out).trans (HBN.out.mono HRW.out))
          go_wp2_with fail
          go_ret
          exact ⟨by rw [HE.out]; rfl, HBz.out⟩
        have t1 : decide (n < 0) = false := decide_eq_false hneg
        by_cases hbig : 65535 < n
        · have t2 : decide (65535 < n) = true := decide_eq_true hbig
          have HE := Aside0.mk (HFP.out (by unfold letOk; rw [decide_eq_false (show ¬ n ≤ 65535 by omega), Bool.false_and, Bool.and_false]))
          have HBz := Aside0.mk ((HB4.out).trans (HBN.out.mono HRW.out))
          go_wp2_with fail
          go_ret
          exact ⟨by rw [HE.out]; rfl, HBz.out⟩
        have t2 : decide (65535 < n) = false := decide_eq_false hbig
        by_cases hz : 0 < n
        case neg =>
          have t3 : decide (0 < n) = false := decide_eq_false hz
          have hS := HSP.out (by unfold letOk; rw [decide_eq_true (show 0 ≤ n by omega), decide_eq_true (show n ≤ 65535 by omega), decide_eq_true (show n ≤ 0 by omega)]; rfl)
          have HSn := Aside0.mk hS
          have hg2 := gone_eq HNI.out
          have hsz := seen_size hS
          clear hS
          go_wp2_with fail
          go_roundw
          case rel => exact ⟨_, 4, HNI, ⟨Nat.le_refl _⟩, HSn, HBN⟩
          case measure => rw [hg2, hgl]; rw [Array.size_push] at hsz ⊢; have := HL.out; omega
        have t3 : decide (0 < n) = true := decide_eq_true hz
        have hcv : (convert 122 9 (.slice (some ⟨Wn.heap.size, 0, none⟩) 1 1)).run Try.prog (Wn.alloc (.cells #[.int .u8 ch] 5)) = .ok (.string ⟨#[ch.toNat.toUInt8]⟩) (Wn.alloc (.cells #[.int .u8 ch] 5)) := one_byte Wn ch
        have hx2 := pw_cell_below (below_alloc (Below.refl _ _) (.cells #[.int .u8 ch] 5)) hx1
        have HBa := Aside0.mk (show Below r w4 (Wn.alloc (.cells #[.int .u8 ch] 5)) from HBN.out.alloc (by rw [← HRr.out]; exact HBN.out.size) _)
        have HNa : Aside0 ((Wn.alloc (.cells #[.int .u8 ch] 5)).heap[r]? = some (.mapIter (some M) 4 (seen.push i) 4)) := ⟨by
          have hlt : r < Wn.heap.size := by
            rcases Nat.lt_or_ge r Wn.heap.size with h | h
            · exact h
            · have := HNI.out; rw [Array.getElem?_eq_none h] at this; cases this
          exact ((below_alloc (Below.refl Wn.heap.size Wn) _).block r hlt).trans HNI.out⟩
        go_wp2_with fail
        refine (CC.out _ _).mono ?_
        rintro en w7 ⟨rfl, rfl⟩
        cases hh : hasC has ch.toNat.toUInt8 with
        | false =>
          have HE := Aside0.mk (HFP.out (by unfold letOk; rw [hh, decide_eq_false (show ¬ n ≤ 0 by omega), Bool.or_false, Bool.and_false, Bool.and_false]))
          have HBz := Aside0.mk ((HB4.out).trans (HBa.out.mono HRW.out))
          go_wp2_with fail
          go_ret
          exact ⟨by rw [HE.out]; rfl, HBz.out⟩
        | true =>
          have hS := HSP.out (by unfold letOk; rw [hh, decide_eq_true (show 0 ≤ n by omega), decide_eq_true (show n ≤ 65535 by omega), Bool.or_true]; rfl)
          have HSn := Aside0.mk hS
          have hg2 := gone_eq HNa.out
          have hsz := seen_size hS
          clear hS
          go_wp2_with fail
          go_roundw
          case rel => exact ⟨_, 4, HNa, ⟨Nat.le_refl _⟩, HSn, HBa⟩
          case measure => rw [hg2, hgl]; rw [Array.size_push] at hsz ⊢; have := HL.out; omega
set_option maxRecDepth 100000 in
set_option maxHeartbeats 4000000 in
theorem right_out (kind id fr tt snap : Int) (text : ByteArray) (w : World) (h : (nameOf kind).toList.isEmpty = true ∨ decide ((text.size : Int) ≤ 40) = false ∨ (text.toList.isEmpty || hasC (hasOf kind) 116) = false) :
    Calls Try.prog 40 #[.agg #[.int .i64 kind, .int .i64 id, .int .i64 fr, .int .i64 tt, .int .i64 snap, .string text]] w fun e w' => e = .returned (.bool (askB kind id fr tt snap text)) ∧ Below w.heap.size w w' := by
  have hB : askB kind id fr tt snap text = false := by
    unfold askB
    rcases h with h | h | h
    · rw [h]; rfl
    · rw [h, Bool.false_and, Bool.and_false]
    · rw [h, Bool.false_and, Bool.and_false, Bool.and_false]
  have HBB := Aside0.mk hB
  have OC := Aside0.mk (of_calls kind)
  obtain ⟨nm, hnm⟩ : ∃ nm, nameOf kind = nm := ⟨_, rfl⟩
  obtain ⟨has, hhas⟩ : ∃ has, hasOf kind = has := ⟨_, rfl⟩
  rw [hnm] at h OC
  rw [hhas] at h OC
  have TC := Aside0.mk (text_calls text)
  have CC := Aside0.mk (contains_calls has)
  have HH := Aside0.mk h
  clear hB hnm hhas h
  obtain ⟨W1, hW1⟩ : ∃ W1, w.alloc (.cells #[.int .i64 kind, .int .i64 id, .int .i64 fr, .int .i64 tt, .int .i64 snap, .string text] 23) = W1 := ⟨_, rfl⟩
  have HB1 : Aside0 (Below w.heap.size w W1) := ⟨by rw [← hW1]; exact below_alloc (Below.refl _ _) _⟩
  have g0 : W1.cell? ⟨w.heap.size, 0, none⟩ = some (.int .i64 kind) := by rw [← hW1]; exact cell_newA w _ _ 0 _ rfl
  have g5 : Aside0 (W1.cell? ⟨w.heap.size, 5, none⟩ = some (.string text)) := ⟨by rw [← hW1]; exact cell_newA w _ _ 5 _ rfl⟩
  have W1E := Aside0.mk hW1
  clear hW1
  go_enter Try.func40, Try.ntmps40
  go_wp2_with fail
  rw [W1E.out]
  refine (OC.out _).mono ?_
  rintro en w2 ⟨rfl, hb⟩
  have HBA := Aside0.mk (show Below W1.heap.size W1 (w2.alloc (.cells #[.string nm, .string has] 114)) from below_alloc hb _)
  have HB3 := Aside0.mk (below_step HB1.out HBA.out)
  have k5 := pw_cell_below HBA.out g5.out
  have q1 : (w2.alloc (.cells #[.string nm, .string has] 114)).cell? ⟨w2.heap.size, 1, none⟩ = some (.string has) := cell_newA w2 _ _ 1 _ rfl
  clear hb g0 OC W1E
  cases e1 : nm.toList.isEmpty with
  | true =>
    go_wp2_with fail
    go_ret
    exact ⟨by rw [HBB.out]; rfl, HB3.out⟩
  | false =>
    go_wp2_with fail
    refine (TC.out _).mono ?_
    rintro en w3 ⟨rfl, rfl⟩
    cases e2 : decide ((text.size : Int) ≤ 40) with
    | false =>
      go_wp2_with fail
      go_ret
      exact ⟨by rw [HBB.out]; rfl, HB3.out⟩
    | true =>
      have h3 : (text.toList.isEmpty || hasC has 116) = false := by simpa [e1, e2] using HH.out
      rw [Bool.or_eq_false_iff] at h3
      obtain ⟨e3, e4⟩ := h3
      go_wp2_with fail
      refine (CC.out 116 _).mono ?_
      rintro en w3 ⟨rfl, rfl⟩
      rw [e4]
      go_wp2_with fail
      go_ret
      exact ⟨by rw [HBB.out]; rfl, HB3.out⟩
theorem ask_Right.told (kind id fr tt snap : Int) (text : ByteArray) (w : World) :
    Calls Try.prog 40 #[.agg #[.int .i64 kind, .int .i64 id, .int .i64 fr, .int .i64 tt, .int .i64 snap, .string text]] w fun e w' => e = .returned (.bool (askB kind id fr tt snap text)) ∧ Below w.heap.size w w' := by
  cases e1 : (nameOf kind).toList.isEmpty with
  | true => exact right_out kind id fr tt snap text w (Or.inl e1)
  | false =>
    cases e2 : decide ((text.size : Int) ≤ 40) with
    | false => exact right_out kind id fr tt snap text w (Or.inr (Or.inl e2))
    | true =>
      cases e3 : (text.toList.isEmpty || hasC (hasOf kind) 116) with
      | false => exact right_out kind id fr tt snap text w (Or.inr (Or.inr e3))
      | true => exact right_main kind id fr tt snap text w e1 e2 e3
end Go.Proofs.Ytgnmpfjpcdidjaa.P
