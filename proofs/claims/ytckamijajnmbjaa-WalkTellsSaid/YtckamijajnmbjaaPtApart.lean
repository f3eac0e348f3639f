/- Book's Apart, of a book that keeps lists of whole numbers alone: it is true. Conditions: the lists are few and small, each the call's own, apart from each other; the copies are alike. (Printed by genapart.py.) -/
import Derived.Test.YtckamijajnmbjaaPtM
set_option linter.unusedVariables false
set_option linter.unusedSimpArgs false
namespace Go.Proofs.Ytckamijajnmbjaa.P
open Go.RowKit Go.Proofs.YtckamijajnmbjaaW.PrintWords Go.Proofs.YtckamijajnmbjaaW.PrintLast Go.Proofs.YtckamijajnmbjaaW.PrintMore

def nilL : Value := .slice none 0 0
def nils : List Value := [nilL, nilL, nilL, nilL]
theorem PutKeep.trans {us : List Value} {w w1 w2 : World} (h : PutKeep us w w1) (k : PutKeep us w1 w2) : PutKeep us w w2 :=
  ⟨k.os.trans h.os, k.tape.trans h.tape, k.output.trans h.output, Nat.le_trans h.size k.size, fun q hq hj => (k.far q (Nat.lt_of_lt_of_le hq h.size) hj).trans (h.far q hq hj)⟩
theorem PutKeep.blk {us : List Value} {w w1 : World} {g : Nat} {o : Obj} (h : PutKeep us w w1) (hj : ∀ j, (h : j < us.length) → us[j].ownBlock ≠ some g) (hb : w.heap[g]? = some o) : w1.heap[g]? = some o :=
  (h.far g (blk_lt hb) hj).trans hb
theorem PutKeep.lists {us : List Value} {w w1 : World} {A : Option Addr} (h : PutKeep us w w1) (hrow : ∀ i, (h : i < us.length) → ∀ ad, A = some ad → us[i].ownBlock ≠ some ad.block) (hl : Lists w A us) : Lists w1 A us := by
  refine ⟨fun i hi => ?_⟩
  obtain ⟨ad, hA, hc⟩ := hl.at_ i hi
  refine ⟨ad, hA, h.cell (fun j hj => ?_) hc⟩
  have : (ad.add i).block = ad.block := by unfold Addr.add; split <;> rfl
  rw [this]
  exact hrow j hj ad hA
theorem PutKeep.under {us : List Value} {w w1 : World} {base : Nat} (h : PutKeep us w w1) (ho : ∀ i, (h : i < us.length) → ∀ k, us[i].ownBlock = some k → base ≤ k) (hb : base ≤ w.heap.size := by omega) : Below base w w1 :=
  ⟨h.os, h.tape, h.output, h.size, fun q hq => h.far q (by omega) (fun j hj e => by have := ho j hj q e; omega)⟩
theorem getD_len (xss : List (List (Int × Int))) (i : Nat) : (xss.map List.length).getD i 0 = (xss.getD i []).length := by
  rw [List.getD_eq_getElem?_getD, List.getD_eq_getElem?_getD, List.getElem?_map]
  cases xss[i]? <;> rfl
set_option maxRecDepth 100000 in
set_option maxHeartbeats 4000000 in
theorem apartPoints_calls (bk base : Nat) (o0 o1 : Value) (us us' : List Value) (xss : List (List (Int × Int))) (w : World) (hblk : w.heap[bk]? = some (.cells (nilL :: nilL :: nilL :: nilL :: nilL :: nilL :: nilL :: nilL :: nilL :: nilL :: o0 :: o1 :: nils).toArray 51 (0, 0)))
    (h0 : Kd.R (Kd.raw 1) 30 w base (fun _ => True) o0 (us.map fun v => [v])) (h1 : Kd.R (Kd.raw 1) 30 w base (fun _ => True) o1 (us'.map fun v => [v])) (hU : ∀ i, (h : i < us.length) → Kd.R kQ 23 w base (fun _ => True) us[i] (xss.getD i []))
    (hU' : ∀ i, (h : i < us'.length) → ReadsP w us'[i] (xss.getD i [])) (hn : us'.length = us.length) (hx : xss.length = us.length) (hsep : ∀ i j, (hi : i < us.length) → (hj : j < us.length) → i ≠ j → ∀ k, us[i].ownBlock = some k → us[j].ownBlock ≠ some k) (hl : us.length ≤ 1000) (hs : ∀ i, (xss.getD i []).length ≤ 900000) (hbase : base ≤ w.heap.size) :
    Calls Try.prog 25 #[.pointer (some ⟨bk, 0, none⟩)] w fun e w' => e = .returned (.bool true) ∧ Below base w w' := by
  have HBLK := Aside0.mk hblk
  obtain ⟨A, co, rfl⟩ := Kd.R_slice h0
  obtain ⟨A', co', rfl⟩ := Kd.R_slice h1
  simp only [List.length_map] at HBLK hblk h0 h1
  obtain ⟨_, hco, hLA⟩ := lists_of_raw h0
  obtain ⟨_, _, hLA'⟩ := lists_of_raw h1
  have hbko : ∀ i, (h : i < us.length) → us[i].ownBlock ≠ some bk := by
    intro i hi e
    obtain ⟨_, o1⟩ := Kd.R_own (hU i hi)
    obtain ⟨c1, g1⟩ := own_typed o1 bk e
    rw [hblk] at g1
    injection g1 with g1
    injection g1 with _ h3
    exact absurd h3 (by decide)
  have hrow : ∀ i, (h : i < us.length) → ∀ ad, A = some ad → us[i].ownBlock ≠ some ad.block := by
    intro i hi ad hA e
    subst hA
    obtain ⟨g, rfl⟩ := Kd.R_head h0
    exact outs_ne h0 (hU i hi) g rfl e
  have SI := Aside0.mk (stillPoints_calls bk A A' co co' us us' xss w ((blk_cell hblk 10).trans rfl) ((blk_cell hblk 11).trans (by rw [hn]; rfl)) hl hLA hLA' hn hx (fun i h => readsP_of_R (hU i h)) hU' (fun i => by have := hs i; omega))
  have PI := Aside0.mk (fun w' (hb : Below w.heap.size w w') (hbk : w'.heap[bk]? = some (.cells (nilL :: nilL :: nilL :: nilL :: nilL :: nilL :: nilL :: nilL :: nilL :: nilL :: Value.slice A us.length co :: Value.slice A' us'.length co' :: nils).toArray 51 (0, 0))) =>
    putPoints_calls bk A co us xss base w' ((blk_cell hbk 10).trans rfl) hl (hLA.below hb) (fun i h => Kd.R_below (hU i h) hb) hsep hbko hrow (fun i => by have := hs i; omega))
  have GI := Aside0.mk (fun w' (hp : PutKeep us w w') (hbk : w'.heap[bk]? = some (.cells (nilL :: nilL :: nilL :: nilL :: nilL :: nilL :: nilL :: nilL :: nilL :: nilL :: Value.slice A us.length co :: Value.slice A' us'.length co' :: nils).toArray 51 (0, 0))) (hR : ∀ i, (h : i < us.length) → Kd.R kQ 23 w' base (fun _ => True) us[i] (marksP (i : Int) 0 (xss.getD i []).length)) =>
    growPoints_calls bk A co us (xss.map List.length) base w' ((blk_cell hbk 10).trans rfl) hl (hp.lists hrow hLA) (fun i h => by rw [getD_len]; exact hR i h) hsep hbko hrow (fun i => by rw [getD_len]; exact hs i) (Nat.le_trans hbase hp.size))
  have HBKO := Aside0.mk hbko
  have HROW := Aside0.mk hrow
  have HLA := Aside0.mk hLA
  have HS := Aside0.mk hs
  have HL := Aside0.mk hl
  have HCO := Aside0.mk hco
  have HOWN := Aside0.mk (fun i h => Kd.R_base (hU i h))
  have HBASE := Aside0.mk hbase
  obtain ⟨n, hnn⟩ : ∃ n, us.length = n := ⟨_, rfl⟩
  have HNN := Aside0.mk hnn
  clear hblk h0 h1 hU hU' hn hx hsep hl hs hbase hco hLA hLA' hbko hrow hnn
  go_enter Try.func25, Try.ntmps25
  go_wp2_with fail
  refine (Bk.stillInts_none bk w ((blk_cell HBLK.out 0).trans rfl)).mono ?_
  rintro en wx ⟨rfl, hwx⟩
  rw [hwx]
  clear hwx
  go_wp2_with fail
  refine (Bk.stillTexts_none bk w ((blk_cell HBLK.out 2).trans rfl)).mono ?_
  rintro en wx ⟨rfl, hwx⟩
  rw [hwx]
  clear hwx
  go_wp2_with fail
  refine (Bk.stillRows_none bk w ((blk_cell HBLK.out 4).trans rfl)).mono ?_
  rintro en wx ⟨rfl, hwx⟩
  rw [hwx]
  clear hwx
  go_wp2_with fail
  refine (Bk.stillSpots_none bk w ((blk_cell HBLK.out 6).trans rfl)).mono ?_
  rintro en wx ⟨rfl, hwx⟩
  rw [hwx]
  clear hwx
  go_wp2_with fail
  refine (Bk.stillDocs_none bk w ((blk_cell HBLK.out 8).trans rfl)).mono ?_
  rintro en wx ⟨rfl, hwx⟩
  rw [hwx]
  clear hwx
  go_wp2_with fail
  refine SI.out.mono ?_
  rintro en w1 ⟨rfl, hb1⟩
  have hbk1 := blk_below HBLK.out hb1
  have HBK1 := Aside0.mk hbk1
  have HB1 := Aside0.mk hb1
  clear hbk1 hb1
  go_wp2_with fail
  refine (Bk.stillBools_none bk w1 ((blk_cell HBK1.out 12).trans rfl)).mono ?_
  rintro en wx ⟨rfl, hwx⟩
  rw [hwx]
  clear hwx
  go_wp2_with fail
  refine (Bk.stillEvents_none bk w1 ((blk_cell HBK1.out 14).trans rfl)).mono ?_
  rintro en wx ⟨rfl, hwx⟩
  rw [hwx]
  clear hwx
  go_wp2_with fail
  refine (Bk.putEvents_none bk w1 ((blk_cell HBK1.out 14).trans rfl)).mono ?_
  rintro en wx ⟨rfl, hwx⟩
  rw [hwx]
  clear hwx
  go_wp2_with fail
  refine (Bk.putInts_none bk w1 ((blk_cell HBK1.out 0).trans rfl)).mono ?_
  rintro en wx ⟨rfl, hwx⟩
  rw [hwx]
  clear hwx
  go_wp2_with fail
  refine (Bk.putTexts_none bk w1 ((blk_cell HBK1.out 2).trans rfl)).mono ?_
  rintro en wx ⟨rfl, hwx⟩
  rw [hwx]
  clear hwx
  go_wp2_with fail
  refine (Bk.putRows_none bk w1 ((blk_cell HBK1.out 4).trans rfl)).mono ?_
  rintro en wx ⟨rfl, hwx⟩
  rw [hwx]
  clear hwx
  go_wp2_with fail
  refine (Bk.putSpots_none bk w1 ((blk_cell HBK1.out 6).trans rfl)).mono ?_
  rintro en wx ⟨rfl, hwx⟩
  rw [hwx]
  clear hwx
  go_wp2_with fail
  refine (Bk.putDocs_none bk w1 ((blk_cell HBK1.out 8).trans rfl)).mono ?_
  rintro en wx ⟨rfl, hwx⟩
  rw [hwx]
  clear hwx
  go_wp2_with fail
  refine (PI.out _ HB1.out HBK1.out).mono ?_
  rintro en w2 ⟨rfl, hp2, hR2⟩
  have HP2 := Aside0.mk hp2
  have HR2 := Aside0.mk hR2
  have HPK2 := Aside0.mk (show PutKeep us w w2 from ((PutKeep.refl us w).below HB1.out).trans hp2)
  have HBK2 := Aside0.mk (HPK2.out.blk HBKO.out HBLK.out)
  clear hp2 hR2
  go_wp2_with fail
  refine (Bk.putBools_none bk w2 ((blk_cell HBK2.out 12).trans rfl)).mono ?_
  rintro en wx ⟨rfl, hwx⟩
  rw [hwx]
  clear hwx
  go_wp2_with fail
  refine (Bk.growInts_none bk w2 ((blk_cell HBK2.out 0).trans rfl)).mono ?_
  rintro en wx ⟨rfl, hwx⟩
  rw [hwx]
  clear hwx
  go_wp2_with fail
  refine (Bk.growTexts_none bk w2 ((blk_cell HBK2.out 2).trans rfl)).mono ?_
  rintro en wx ⟨rfl, hwx⟩
  rw [hwx]
  clear hwx
  go_wp2_with fail
  refine (Bk.growRows_none bk w2 ((blk_cell HBK2.out 4).trans rfl)).mono ?_
  rintro en wx ⟨rfl, hwx⟩
  rw [hwx]
  clear hwx
  go_wp2_with fail
  refine (Bk.growSpots_none bk w2 ((blk_cell HBK2.out 6).trans rfl)).mono ?_
  rintro en wx ⟨rfl, hwx⟩
  rw [hwx]
  clear hwx
  go_wp2_with fail
  refine (Bk.growDocs_none bk w2 ((blk_cell HBK2.out 8).trans rfl)).mono ?_
  rintro en wx ⟨rfl, hwx⟩
  rw [hwx]
  clear hwx
  go_wp2_with fail
  refine (GI.out _ HPK2.out HBK2.out HR2.out).mono ?_
  rintro en w3 ⟨Ag, cg, gs, rfl, hgl, hgc, hgL, hgR, hgU, hp3⟩
  have HPK3 := Aside0.mk (HPK2.out.trans hp3)
  have HBK3 := Aside0.mk (HPK3.out.blk HBKO.out HBLK.out)
  have HLA3 := Aside0.mk (HPK3.out.lists HROW.out HLA.out)
  have HM1 := Aside0.mk (fun w' (hb : Below w3.heap.size w3 w') => marked_reads w' Ag cg gs (fun i => (xss.getD i []).length + 72) (hgL.below hb) (fun i h => by have := (hgR i h).below hb; rw [getD_len] at this; exact this) (by rw [hgl]; exact hgc) (by rw [hgl]; exact HL.out) (fun i => by have := HS.out i; omega))
  have HM2 := Aside0.mk (fun w' (hb : Below w3.heap.size w3 w') => marked_reads w' A co us (fun i => (xss.getD i []).length) (HLA3.out.below hb) (fun i h => by have := (hgU i h).below hb; rw [getD_len] at this; exact this) HCO.out HL.out (fun i => by have := HS.out i; omega))
  rw [hgl, HNN.out] at HM1
  rw [HNN.out] at HM2
  have HGC := Aside0.mk hgc
  rw [HNN.out]
  clear hp3 hgl hgc hgL hgR hgU
  go_wp2_with fail
  refine (Bk.growBools_none bk w3 ((blk_cell HBK3.out 12).trans rfl)).mono ?_
  rintro en wx ⟨rfl, hwx⟩
  rw [hwx]
  clear hwx
  go_wp2_with fail
  refine (Bk.growEvents_none bk w3 ((blk_cell HBK3.out 14).trans rfl)).mono ?_
  rintro en wx ⟨rfl, hwx⟩
  rw [hwx]
  clear hwx
  have y0 : w3.cell? ⟨bk, 0, none⟩ = some (.slice none 0 0) := (blk_cell HBK3.out 0).trans rfl
  have y1 : w3.cell? ⟨bk, 2, none⟩ = some (.slice none 0 0) := (blk_cell HBK3.out 2).trans rfl
  have y2 : w3.cell? ⟨bk, 4, none⟩ = some (.slice none 0 0) := (blk_cell HBK3.out 4).trans rfl
  have y3 : w3.cell? ⟨bk, 6, none⟩ = some (.slice none 0 0) := (blk_cell HBK3.out 6).trans rfl
  have y4 : w3.cell? ⟨bk, 8, none⟩ = some (.slice none 0 0) := (blk_cell HBK3.out 8).trans rfl
  go_wp2_with fail
  refine (Bk.markedInts_none w3).mono ?_
  rintro en wx ⟨rfl, hwx⟩
  rw [hwx]
  clear hwx
  go_wp2_with fail
  refine (Bk.markedInts_none w3).mono ?_
  rintro en wx ⟨rfl, hwx⟩
  rw [hwx]
  clear hwx
  go_wp2_with fail
  refine (Bk.markedTexts_none w3).mono ?_
  rintro en wx ⟨rfl, hwx⟩
  rw [hwx]
  clear hwx
  go_wp2_with fail
  refine (Bk.markedTexts_none w3).mono ?_
  rintro en wx ⟨rfl, hwx⟩
  rw [hwx]
  clear hwx
  go_wp2_with fail
  refine (Bk.markedRows_none w3).mono ?_
  rintro en wx ⟨rfl, hwx⟩
  rw [hwx]
  clear hwx
  go_wp2_with fail
  refine (Bk.markedRows_none w3).mono ?_
  rintro en wx ⟨rfl, hwx⟩
  rw [hwx]
  clear hwx
  go_wp2_with fail
  refine (Bk.markedSpots_none w3).mono ?_
  rintro en wx ⟨rfl, hwx⟩
  rw [hwx]
  clear hwx
  go_wp2_with fail
  refine (Bk.markedSpots_none w3).mono ?_
  rintro en wx ⟨rfl, hwx⟩
  rw [hwx]
  clear hwx
  go_wp2_with fail
  refine (Bk.markedDocs_none w3).mono ?_
  rintro en wx ⟨rfl, hwx⟩
  rw [hwx]
  clear hwx
  go_wp2_with fail
  refine (Bk.markedDocs_none w3).mono ?_
  rintro en wx ⟨rfl, hwx⟩
  rw [hwx]
  clear hwx
  go_wp2_with fail
  refine (HM1.out _ (Below.refl _ _)).mono ?_
  rintro en w4 ⟨rfl, hb4⟩
  have hbk4 := blk_below HBK3.out hb4
  have HBK4 := Aside0.mk hbk4
  have HB4 := Aside0.mk hb4
  have z0 : w4.cell? ⟨bk, 10, none⟩ = some (.slice A n co) := (blk_cell hbk4 10).trans (by rw [← HNN.out]; rfl)
  clear hbk4 hb4 y0 y1 y2 y3 y4
  go_wp2_with fail
  refine (HM2.out _ HB4.out).mono ?_
  rintro en w5 ⟨rfl, hb5⟩
  have hbk5 := blk_below HBK4.out hb5
  have HB5 := Aside0.mk (below_step HB4.out hb5)
  have y6 : w5.cell? ⟨bk, 12, none⟩ = some (.slice none 0 0) := (blk_cell hbk5 12).trans rfl
  have y7 : w5.cell? ⟨bk, 14, none⟩ = some (.slice none 0 0) := (blk_cell hbk5 14).trans rfl
  clear hbk5 hb5 z0
  go_wp2_with fail
  refine (Bk.markedBools_none w5).mono ?_
  rintro en wx ⟨rfl, hwx⟩
  rw [hwx]
  clear hwx
  go_wp2_with fail
  refine (Bk.markedBools_none w5).mono ?_
  rintro en wx ⟨rfl, hwx⟩
  rw [hwx]
  clear hwx
  go_wp2_with fail
  refine (Bk.markedEvents_none w5).mono ?_
  rintro en wx ⟨rfl, hwx⟩
  rw [hwx]
  clear hwx
  go_wp2_with fail
  refine (Bk.markedEvents_none w5).mono ?_
  rintro en wx ⟨rfl, hwx⟩
  rw [hwx]
  clear hwx
  go_wp2_with fail
  go_ret
  exact ⟨rfl, (HPK3.out.below HB5.out).under HOWN.out HBASE.out⟩
end Go.Proofs.Ytckamijajnmbjaa.P
