/- Book's Apart, of a book that keeps lists of these kinds: Ints, Spots, Docs. It is true. Conditions: the lists are few and small, each the call's own, apart from each other; the copies are alike. (Printed by genap.py.) -/
import Derived.Test.YtibhenengpdahaaGreatBookE
import Derived.Test.YtibhenengpdahaaGreatJN
import Derived.Test.YtibhenengpdahaaGreatJQ
import Derived.Test.YtibhenengpdahaaGreatJT
import Derived.Test.YtibhenengpdahaaGreatJR
section
set_option linter.unusedVariables false
set_option linter.unusedSimpArgs false
namespace Go.Proofs.YtibhenengpdahaaGreat.P
open Go.RowKit Go.Proofs.YtibhenengpdahaaGreatW.PrintWords Go.Proofs.YtibhenengpdahaaGreatW.PrintLast Go.Proofs.YtibhenengpdahaaGreatW.PrintMore

set_option maxRecDepth 100000 in
set_option maxHeartbeats 4000000 in
theorem apartSDI_calls (bk base : Nat) (oInts pInts : Value) (usInts vsInts : List Value) (xsInts : List (List Int)) (oSpots pSpots : Value) (usSpots vsSpots : List Value) (xsSpots : List (List S61)) (oDocs pDocs : Value) (usDocs vsDocs : List Value) (xsDocs : List (List S27)) (w : World) (hblk : w.heap[bk]? = some (.cells [oInts, pInts, nilL, nilL, nilL, nilL, oSpots, pSpots, oDocs, pDocs, nilL, nilL, nilL, nilL, nilL, nilL].toArray 48 (0, 0))) (hbase : base ≤ w.heap.size)
  (tInts : Stat usInts vsInts xsInts) (hInts : StA (Kd.int .i64) 3 31 base oInts pInts usInts vsInts xsInts w)
  (tSpots : Stat usSpots vsSpots xsSpots) (hSpots : StA k61 61 30 base oSpots pSpots usSpots vsSpots xsSpots w)
  (tDocs : Stat usDocs vsDocs xsDocs) (hDocs : StA k27 27 22 base oDocs pDocs usDocs vsDocs xsDocs w) :
  Calls Tryz.prog 19 #[.pointer (some ⟨bk, 0, none⟩)] w fun e w' => e = .returned (.bool true) ∧ Below base w w' := by
 obtain ⟨AInts, nInts, cInts, rfl⟩ : ∃ A n c, oInts = .slice A n c := by obtain ⟨A, c, e⟩ := Kd.R_slice hInts.row; exact ⟨A, _, c, e⟩
 obtain ⟨BInts, mInts, dInts, rfl⟩ : ∃ A n c, pInts = .slice A n c := by obtain ⟨A, c, e⟩ := Kd.R_slice hInts.row'; exact ⟨A, _, c, e⟩
 have SInts := Aside0.mk tInts
 have HInts := Aside0.mk hInts
 clear tInts hInts
 obtain ⟨ASpots, nSpots, cSpots, rfl⟩ : ∃ A n c, oSpots = .slice A n c := by obtain ⟨A, c, e⟩ := Kd.R_slice hSpots.row; exact ⟨A, _, c, e⟩
 obtain ⟨BSpots, mSpots, dSpots, rfl⟩ : ∃ A n c, pSpots = .slice A n c := by obtain ⟨A, c, e⟩ := Kd.R_slice hSpots.row'; exact ⟨A, _, c, e⟩
 have SSpots := Aside0.mk tSpots
 have HSpots := Aside0.mk hSpots
 clear tSpots hSpots
 obtain ⟨ADocs, nDocs, cDocs, rfl⟩ : ∃ A n c, oDocs = .slice A n c := by obtain ⟨A, c, e⟩ := Kd.R_slice hDocs.row; exact ⟨A, _, c, e⟩
 obtain ⟨BDocs, mDocs, dDocs, rfl⟩ : ∃ A n c, pDocs = .slice A n c := by obtain ⟨A, c, e⟩ := Kd.R_slice hDocs.row'; exact ⟨A, _, c, e⟩
 have SDocs := Aside0.mk tDocs
 have HDocs := Aside0.mk hDocs
 clear tDocs hDocs
 have HBLK := Aside0.mk hblk
 have HBASE := Aside0.mk hbase
 have HB := Aside0.mk (Below.refl base w)
 clear hblk hbase
 go_enter Tryz.func19, Tryz.ntmps19
 go_wp2_with fail
 refine (stillInts_st SInts.out HInts.out ((blk_cell HBLK.out 0).trans rfl) ((blk_cell HBLK.out 1).trans rfl)).mono ?_
 rintro en w1 ⟨rfl, hb⟩
 replace HBLK := Aside0.mk (blk_below HBLK.out hb)
 replace HInts := Aside0.mk (HInts.out.below hb)
 replace HSpots := Aside0.mk (HSpots.out.below hb)
 replace HDocs := Aside0.mk (HDocs.out.below hb)
 replace HB := Aside0.mk (HB.out.trans (hb.mono (Nat.le_trans HBASE.out HB.out.size)))
 clear hb
 go_wp2_with fail
 refine (Bk.stillTexts_none bk w1 ((blk_cell HBLK.out 2).trans rfl)).mono ?_
 rintro en wx ⟨rfl, hwx⟩
 rw [hwx]
 clear hwx
 go_wp2_with fail
 refine (Bk.stillRows_none bk w1 ((blk_cell HBLK.out 4).trans rfl)).mono ?_
 rintro en wx ⟨rfl, hwx⟩
 rw [hwx]
 clear hwx
 go_wp2_with fail
 refine (stillSpots_st SSpots.out HSpots.out ((blk_cell HBLK.out 6).trans rfl) ((blk_cell HBLK.out 7).trans rfl)).mono ?_
 rintro en w2 ⟨rfl, hb⟩
 replace HBLK := Aside0.mk (blk_below HBLK.out hb)
 replace HInts := Aside0.mk (HInts.out.below hb)
 replace HSpots := Aside0.mk (HSpots.out.below hb)
 replace HDocs := Aside0.mk (HDocs.out.below hb)
 replace HB := Aside0.mk (HB.out.trans (hb.mono (Nat.le_trans HBASE.out HB.out.size)))
 clear hb
 go_wp2_with fail
 refine (stillDocs_st SDocs.out HDocs.out ((blk_cell HBLK.out 8).trans rfl) ((blk_cell HBLK.out 9).trans rfl)).mono ?_
 rintro en w3 ⟨rfl, hb⟩
 replace HBLK := Aside0.mk (blk_below HBLK.out hb)
 replace HInts := Aside0.mk (HInts.out.below hb)
 replace HSpots := Aside0.mk (HSpots.out.below hb)
 replace HDocs := Aside0.mk (HDocs.out.below hb)
 replace HB := Aside0.mk (HB.out.trans (hb.mono (Nat.le_trans HBASE.out HB.out.size)))
 clear hb
 go_wp2_with fail
 refine (Bk.stillPoints_none bk w3 ((blk_cell HBLK.out 10).trans rfl)).mono ?_
 rintro en wx ⟨rfl, hwx⟩
 rw [hwx]
 clear hwx
 go_wp2_with fail
 refine (Bk.stillBools_none bk w3 ((blk_cell HBLK.out 12).trans rfl)).mono ?_
 rintro en wx ⟨rfl, hwx⟩
 rw [hwx]
 clear hwx
 go_wp2_with fail
 refine (Bk.stillEvents_none bk w3 ((blk_cell HBLK.out 14).trans rfl)).mono ?_
 rintro en wx ⟨rfl, hwx⟩
 rw [hwx]
 clear hwx
 replace HInts := Aside0.mk (HInts.out.b)
 replace HSpots := Aside0.mk (HSpots.out.b)
 replace HDocs := Aside0.mk (HDocs.out.b)
 go_wp2_with fail
 refine (Bk.putEvents_none bk w3 ((blk_cell HBLK.out 14).trans rfl)).mono ?_
 rintro en wx ⟨rfl, hwx⟩
 rw [hwx]
 clear hwx
 go_wp2_with fail
 refine (putInts_st SInts.out HInts.out HBLK.out ((blk_cell HBLK.out 0).trans rfl) (Nat.le_trans HBASE.out HB.out.size)).mono ?_
 rintro en w4 ⟨rfl, hk, hu, hs⟩
 replace HBLK := Aside0.mk (hk.blk (by decide) HBLK.out)
 replace HSpots := Aside0.mk (StB.keep flatSpots.E (by decide) (by decide) HSpots.out hk)
 replace HDocs := Aside0.mk (StB.keep flatDocs.E (by decide) (by decide) HDocs.out hk)
 replace HB := Aside0.mk (HB.out.trans hu)
 replace HInts := Aside0.mk hs
 clear hk hu hs
 go_wp2_with fail
 refine (Bk.putTexts_none bk w4 ((blk_cell HBLK.out 2).trans rfl)).mono ?_
 rintro en wx ⟨rfl, hwx⟩
 rw [hwx]
 clear hwx
 go_wp2_with fail
 refine (Bk.putRows_none bk w4 ((blk_cell HBLK.out 4).trans rfl)).mono ?_
 rintro en wx ⟨rfl, hwx⟩
 rw [hwx]
 clear hwx
 go_wp2_with fail
 refine (putSpots_st SSpots.out HSpots.out HBLK.out ((blk_cell HBLK.out 6).trans rfl) (Nat.le_trans HBASE.out HB.out.size)).mono ?_
 rintro en w5 ⟨rfl, hk, hu, hs⟩
 replace HBLK := Aside0.mk (hk.blk (by decide) HBLK.out)
 replace HInts := Aside0.mk (StB.keep flatInts.E (by decide) (by decide) HInts.out hk)
 replace HDocs := Aside0.mk (StB.keep flatDocs.E (by decide) (by decide) HDocs.out hk)
 replace HB := Aside0.mk (HB.out.trans hu)
 replace HSpots := Aside0.mk hs
 clear hk hu hs
 go_wp2_with fail
 refine (putDocs_st SDocs.out HDocs.out HBLK.out ((blk_cell HBLK.out 8).trans rfl) (Nat.le_trans HBASE.out HB.out.size)).mono ?_
 rintro en w6 ⟨rfl, hk, hu, hs⟩
 replace HBLK := Aside0.mk (hk.blk (by decide) HBLK.out)
 replace HInts := Aside0.mk (StB.keep flatInts.E (by decide) (by decide) HInts.out hk)
 replace HSpots := Aside0.mk (StB.keep flatSpots.E (by decide) (by decide) HSpots.out hk)
 replace HB := Aside0.mk (HB.out.trans hu)
 replace HDocs := Aside0.mk hs
 clear hk hu hs
 go_wp2_with fail
 refine (Bk.putPoints_none bk w6 ((blk_cell HBLK.out 10).trans rfl)).mono ?_
 rintro en wx ⟨rfl, hwx⟩
 rw [hwx]
 clear hwx
 go_wp2_with fail
 refine (Bk.putBools_none bk w6 ((blk_cell HBLK.out 12).trans rfl)).mono ?_
 rintro en wx ⟨rfl, hwx⟩
 rw [hwx]
 clear hwx
 go_wp2_with fail
 refine (growInts_st SInts.out HInts.out HBLK.out ((blk_cell HBLK.out 0).trans rfl) (Nat.le_trans HBASE.out HB.out.size)).mono ?_
 rintro en w7 ⟨AgInts, ngInts, cgInts, gsInts, rfl, hgl, hk, hu, hg, hs⟩
 replace HBLK := Aside0.mk (hk.blk (by decide) HBLK.out)
 replace HSpots := Aside0.mk (StB.keep flatSpots.E (by decide) (by decide) HSpots.out hk)
 replace HDocs := Aside0.mk (StB.keep flatDocs.E (by decide) (by decide) HDocs.out hk)
 replace HB := Aside0.mk (HB.out.trans hu)
 replace HInts := Aside0.mk hs
 have GInts := Aside0.mk hg
 have EInts := Aside0.mk hgl
 clear hk hu hs hg hgl
 go_wp2_with fail
 refine (Bk.growTexts_none bk w7 ((blk_cell HBLK.out 2).trans rfl)).mono ?_
 rintro en wx ⟨rfl, hwx⟩
 rw [hwx]
 clear hwx
 go_wp2_with fail
 refine (Bk.growRows_none bk w7 ((blk_cell HBLK.out 4).trans rfl)).mono ?_
 rintro en wx ⟨rfl, hwx⟩
 rw [hwx]
 clear hwx
 go_wp2_with fail
 refine (growSpots_st SSpots.out HSpots.out HBLK.out ((blk_cell HBLK.out 6).trans rfl) (Nat.le_trans HBASE.out HB.out.size)).mono ?_
 rintro en w8 ⟨AgSpots, ngSpots, cgSpots, gsSpots, rfl, hgl, hk, hu, hg, hs⟩
 replace HBLK := Aside0.mk (hk.blk (by decide) HBLK.out)
 replace HInts := Aside0.mk (StB.keep flatInts.E (by decide) (by decide) HInts.out hk)
 replace HDocs := Aside0.mk (StB.keep flatDocs.E (by decide) (by decide) HDocs.out hk)
 replace GInts := Aside0.mk (StB.keep flatInts.E (by decide) (by decide) GInts.out hk)
 replace HB := Aside0.mk (HB.out.trans hu)
 replace HSpots := Aside0.mk hs
 have GSpots := Aside0.mk hg
 have ESpots := Aside0.mk hgl
 clear hk hu hs hg hgl
 go_wp2_with fail
 refine (growDocs_st SDocs.out HDocs.out HBLK.out ((blk_cell HBLK.out 8).trans rfl) (Nat.le_trans HBASE.out HB.out.size)).mono ?_
 rintro en w9 ⟨AgDocs, ngDocs, cgDocs, gsDocs, rfl, hgl, hk, hu, hg, hs⟩
 replace HBLK := Aside0.mk (hk.blk (by decide) HBLK.out)
 replace HInts := Aside0.mk (StB.keep flatInts.E (by decide) (by decide) HInts.out hk)
 replace HSpots := Aside0.mk (StB.keep flatSpots.E (by decide) (by decide) HSpots.out hk)
 replace GInts := Aside0.mk (StB.keep flatInts.E (by decide) (by decide) GInts.out hk)
 replace GSpots := Aside0.mk (StB.keep flatSpots.E (by decide) (by decide) GSpots.out hk)
 replace HB := Aside0.mk (HB.out.trans hu)
 replace HDocs := Aside0.mk hs
 have GDocs := Aside0.mk hg
 have EDocs := Aside0.mk hgl
 clear hk hu hs hg hgl
 go_wp2_with fail
 refine (Bk.growPoints_none bk w9 ((blk_cell HBLK.out 10).trans rfl)).mono ?_
 rintro en wx ⟨rfl, hwx⟩
 rw [hwx]
 clear hwx
 go_wp2_with fail
 refine (Bk.growBools_none bk w9 ((blk_cell HBLK.out 12).trans rfl)).mono ?_
 rintro en wx ⟨rfl, hwx⟩
 rw [hwx]
 clear hwx
 go_wp2_with fail
 refine (Bk.growEvents_none bk w9 ((blk_cell HBLK.out 14).trans rfl)).mono ?_
 rintro en wx ⟨rfl, hwx⟩
 rw [hwx]
 clear hwx
 go_wp2_with fail
 refine (markedInts_st SInts.out EInts.out (Nat.le_refl 72) GInts.out).mono ?_
 rintro en w10 ⟨rfl, hb⟩
 replace HBLK := Aside0.mk (blk_below HBLK.out hb)
 replace HInts := Aside0.mk (HInts.out.below hb)
 replace HSpots := Aside0.mk (HSpots.out.below hb)
 replace HDocs := Aside0.mk (HDocs.out.below hb)
 replace GInts := Aside0.mk (GInts.out.below hb)
 replace GSpots := Aside0.mk (GSpots.out.below hb)
 replace GDocs := Aside0.mk (GDocs.out.below hb)
 replace HB := Aside0.mk (HB.out.trans (hb.mono (Nat.le_trans HBASE.out HB.out.size)))
 clear hb
 have y0 : w10.cell? ⟨bk, 0, none⟩ = some (.slice AInts nInts cInts) := ((blk_cell HBLK.out 0).trans rfl)
 go_wp2_with fail
 refine (markedInts_st (q := 0) SInts.out rfl (Nat.zero_le _) HInts.out).mono ?_
 rintro en w11 ⟨rfl, hb⟩
 clear y0
 replace HBLK := Aside0.mk (blk_below HBLK.out hb)
 replace HInts := Aside0.mk (HInts.out.below hb)
 replace HSpots := Aside0.mk (HSpots.out.below hb)
 replace HDocs := Aside0.mk (HDocs.out.below hb)
 replace GInts := Aside0.mk (GInts.out.below hb)
 replace GSpots := Aside0.mk (GSpots.out.below hb)
 replace GDocs := Aside0.mk (GDocs.out.below hb)
 replace HB := Aside0.mk (HB.out.trans (hb.mono (Nat.le_trans HBASE.out HB.out.size)))
 clear hb
 go_wp2_with fail
 refine (Bk.markedTexts_none w11).mono ?_
 rintro en wx ⟨rfl, hwx⟩
 rw [hwx]
 clear hwx
 have y0 : w11.cell? ⟨bk, 2, none⟩ = some (.slice none 0 0) := ((blk_cell HBLK.out 2).trans rfl)
 go_wp2_with fail
 refine (Bk.markedTexts_none w11).mono ?_
 rintro en wx ⟨rfl, hwx⟩
 rw [hwx]
 clear hwx y0
 go_wp2_with fail
 refine (Bk.markedRows_none w11).mono ?_
 rintro en wx ⟨rfl, hwx⟩
 rw [hwx]
 clear hwx
 have y0 : w11.cell? ⟨bk, 4, none⟩ = some (.slice none 0 0) := ((blk_cell HBLK.out 4).trans rfl)
 go_wp2_with fail
 refine (Bk.markedRows_none w11).mono ?_
 rintro en wx ⟨rfl, hwx⟩
 rw [hwx]
 clear hwx y0
 go_wp2_with fail
 refine (markedSpots_st SSpots.out ESpots.out (Nat.le_refl 72) GSpots.out).mono ?_
 rintro en w12 ⟨rfl, hb⟩
 replace HBLK := Aside0.mk (blk_below HBLK.out hb)
 replace HInts := Aside0.mk (HInts.out.below hb)
 replace HSpots := Aside0.mk (HSpots.out.below hb)
 replace HDocs := Aside0.mk (HDocs.out.below hb)
 replace GInts := Aside0.mk (GInts.out.below hb)
 replace GSpots := Aside0.mk (GSpots.out.below hb)
 replace GDocs := Aside0.mk (GDocs.out.below hb)
 replace HB := Aside0.mk (HB.out.trans (hb.mono (Nat.le_trans HBASE.out HB.out.size)))
 clear hb
 have y0 : w12.cell? ⟨bk, 6, none⟩ = some (.slice ASpots nSpots cSpots) := ((blk_cell HBLK.out 6).trans rfl)
 go_wp2_with fail
 refine (markedSpots_st (q := 0) SSpots.out rfl (Nat.zero_le _) HSpots.out).mono ?_
 rintro en w13 ⟨rfl, hb⟩
 clear y0
 replace HBLK := Aside0.mk (blk_below HBLK.out hb)
 replace HInts := Aside0.mk (HInts.out.below hb)
 replace HSpots := Aside0.mk (HSpots.out.below hb)
 replace HDocs := Aside0.mk (HDocs.out.below hb)
 replace GInts := Aside0.mk (GInts.out.below hb)
 replace GSpots := Aside0.mk (GSpots.out.below hb)
 replace GDocs := Aside0.mk (GDocs.out.below hb)
 replace HB := Aside0.mk (HB.out.trans (hb.mono (Nat.le_trans HBASE.out HB.out.size)))
 clear hb
 go_wp2_with fail
 refine (markedDocs_st SDocs.out EDocs.out (Nat.le_refl 72) GDocs.out).mono ?_
 rintro en w14 ⟨rfl, hb⟩
 replace HBLK := Aside0.mk (blk_below HBLK.out hb)
 replace HInts := Aside0.mk (HInts.out.below hb)
 replace HSpots := Aside0.mk (HSpots.out.below hb)
 replace HDocs := Aside0.mk (HDocs.out.below hb)
 replace GInts := Aside0.mk (GInts.out.below hb)
 replace GSpots := Aside0.mk (GSpots.out.below hb)
 replace GDocs := Aside0.mk (GDocs.out.below hb)
 replace HB := Aside0.mk (HB.out.trans (hb.mono (Nat.le_trans HBASE.out HB.out.size)))
 clear hb
 have y0 : w14.cell? ⟨bk, 8, none⟩ = some (.slice ADocs nDocs cDocs) := ((blk_cell HBLK.out 8).trans rfl)
 go_wp2_with fail
 refine (markedDocs_st (q := 0) SDocs.out rfl (Nat.zero_le _) HDocs.out).mono ?_
 rintro en w15 ⟨rfl, hb⟩
 clear y0
 replace HBLK := Aside0.mk (blk_below HBLK.out hb)
 replace HInts := Aside0.mk (HInts.out.below hb)
 replace HSpots := Aside0.mk (HSpots.out.below hb)
 replace HDocs := Aside0.mk (HDocs.out.below hb)
 replace GInts := Aside0.mk (GInts.out.below hb)
 replace GSpots := Aside0.mk (GSpots.out.below hb)
 replace GDocs := Aside0.mk (GDocs.out.below hb)
 replace HB := Aside0.mk (HB.out.trans (hb.mono (Nat.le_trans HBASE.out HB.out.size)))
 clear hb
 go_wp2_with fail
 refine (Bk.markedPoints_none w15).mono ?_
 rintro en wx ⟨rfl, hwx⟩
 rw [hwx]
 clear hwx
 have y0 : w15.cell? ⟨bk, 10, none⟩ = some (.slice none 0 0) := ((blk_cell HBLK.out 10).trans rfl)
 go_wp2_with fail
 refine (Bk.markedPoints_none w15).mono ?_
 rintro en wx ⟨rfl, hwx⟩
 rw [hwx]
 clear hwx y0
 go_wp2_with fail
 refine (Bk.markedBools_none w15).mono ?_
 rintro en wx ⟨rfl, hwx⟩
 rw [hwx]
 clear hwx
 have y0 : w15.cell? ⟨bk, 12, none⟩ = some (.slice none 0 0) := ((blk_cell HBLK.out 12).trans rfl)
 go_wp2_with fail
 refine (Bk.markedBools_none w15).mono ?_
 rintro en wx ⟨rfl, hwx⟩
 rw [hwx]
 clear hwx y0
 go_wp2_with fail
 refine (Bk.markedEvents_none w15).mono ?_
 rintro en wx ⟨rfl, hwx⟩
 rw [hwx]
 clear hwx
 have y0 : w15.cell? ⟨bk, 14, none⟩ = some (.slice none 0 0) := ((blk_cell HBLK.out 14).trans rfl)
 go_wp2_with fail
 refine (Bk.markedEvents_none w15).mono ?_
 rintro en wx ⟨rfl, hwx⟩
 rw [hwx]
 clear hwx y0
 go_wp2_with fail
 go_ret
 exact ⟨rfl, HB.out⟩
end Go.Proofs.YtibhenengpdahaaGreat.P

end
section
set_option linter.unusedVariables false
set_option linter.unusedSimpArgs false
namespace Go.Proofs.YtibhenengpdahaaGreat.P
open Go.RowKit Go.Proofs.YtibhenengpdahaaGreatW.PrintWords Go.Proofs.YtibhenengpdahaaGreatW.PrintLast Go.Proofs.YtibhenengpdahaaGreatW.PrintMore

def lentOfDocs : S27 := ⟨-77, ByteArray.empty⟩
set_option maxRecDepth 100000 in
set_option maxHeartbeats 4000000 in
theorem lentDocs_calls (a : Option Addr) (k : Nat) (xs : List S27) (w : World) (hC : Kd.C k27 w a xs.length xs) (hk : xs.length ≤ k) (hl : xs.length ≤ 900000) :
  Calls Tryz.prog 5 #[.slice a xs.length k] w fun e w' => ∃ g c, e = .returned (.slice (some ⟨g, 0, none⟩) xs.length c) ∧ Kd.R k27 27 w' w.heap.size (fun _ => True) (.slice (some ⟨g, 0, none⟩) (xs.length + 1) c) (xs ++ [lentOfDocs]) ∧ Below w.heap.size w w' := by
 have CP := Aside0.mk (copyDocs_calls a k xs w hC hk hl)
 have HXL := Aside0.mk hl
 have hq0 : (0 ≤ (xs.length : Int)) = True := eq_true (by omega)
 clear hC hk hl
 go_enter Tryz.func5, Tryz.ntmps5
 go_wp2_with fail
 refine CP.out.mono ?_
 rintro en w1 ⟨v1, rfl, hR1, hb1⟩
 obtain ⟨A1, c1, rfl⟩ := Kd.R_slice hR1
 have HR1 := Aside0.mk hR1
 have HB1 := Aside0.mk hb1
 clear hR1 hb1 CP
 go_wp2_with (first | ((with_reducible refine gate_builtin (b := .append) (xs := #[.tmp 4, .tmp 6]) rfl ?_); at_builtin; refine Kd.R_append k27 (w0 := w) w.heap.size rfl (.tmp 4) (.tmp 6) 22 27 (.agg #[.int .i64 0, .string ByteArray.empty]) 24 rfl Tryz.underlying22 infoDocs1 rfl (by decide) (by decide) (.slice A1 xs.length c1) xs lentOfDocs [.int .i64 (-77), .string ByteArray.empty] (fun _ => True) (fun _ => False) rfl rfl (k27_mkM _ _ _ lentOfDocs) (fun _ h => h.elim) (fun _ _ => trivial) HR1.out HB1.out HB1.out.size (by have := HXL.out; omega) ?_; intro v2 w2 hO hB hG hA; have hpos : 0 < (xs ++ [lentOfDocs]).length := (by rw [List.length_append, List.length_singleton]; omega); obtain ⟨g2, c2, hv2, _⟩ := Kd.R_form hO hpos; subst hv2; have hle := (Kd.R_reads' hO).2.1; rw [List.length_append, List.length_singleton] at hO hle; obtain ⟨ifo, _, hinf, _⟩ := infoDocs; have hcut := cut_room (P := Tryz.prog) 22 27 .i64 Tryz.underlying22 hinf (some ⟨g2, 0, none⟩) (xs.length + 1) c2 (xs.length : Int) (by omega) (by omega); have hq1 : ((xs.length : Int) ≤ (c2 : Int)) = True := eq_true (by omega); rw [Int.toNat_natCast] at hcut; have HO := Aside0.mk hO; have HB := Aside0.mk hB; rw [List.length_append, List.length_singleton]; clear hO hB hG hA hpos hle hinf))
 go_ret
 exact ⟨g2, c2, rfl, HO.out, HB.out⟩
set_option maxRecDepth 100000 in
set_option maxHeartbeats 4000000 in
theorem staysDocs_calls (g c : Nat) (A : Option Addr) (k : Nat) (xs : List S27) (base : Nat) (w : World) (hR : Kd.R k27 27 w base (fun _ => True) (.slice (some ⟨g, 0, none⟩) (xs.length + 1) c) (xs ++ [lentOfDocs])) (hC : Kd.C k27 w A xs.length xs) (hk : xs.length ≤ k) (hl : xs.length ≤ 900000) :
  Calls Tryz.prog 18 #[.slice (some ⟨g, 0, none⟩) xs.length c, .slice A xs.length k] w fun e w' => e = .returned (.bool true) ∧ Below w.heap.size w w' := by
 have hle := (Kd.R_reads' hR).2.1
 have hR1 := Kd.R_take (m := xs.length) hR (by rw [List.length_append]; omega)
 rw [List.take_left' rfl] at hR1
 have SM := Aside0.mk (sameDocs_calls (some ⟨g, 0, none⟩) A c k xs w (Kd.R_reads' hR1).2.2 hC (by omega) hk (by omega))
 obtain ⟨cl, hcl, hcM, hcc, _⟩ := Kd.R_elem hR z27 (xs.length : Int) (by omega) (by omega)
 have hget : (xs ++ [lentOfDocs]).getD ((xs.length : Int).toNat) z27 = lentOfDocs := by
  rw [Int.toNat_natCast, List.getD_eq_getElem?_getD, List.getElem?_append_right (Nat.le_refl _), Nat.sub_self]
  rfl
 rw [hget] at hcM
 have hce := (flatDocs.M _ _ _ _ _).1 hcM
 subst hce
 have z0 := hcc 0 _ rfl
 have z1 := hcc 1 _ rfl
 rw [Int.toNat_natCast, show (k27).sz = 2 from rfl] at z0 z1
 rw [Nat.add_zero] at z0
 obtain ⟨ifo, _, hinf, _⟩ := infoDocs
 have hcut := cut_room (P := Tryz.prog) 22 27 .i64 Tryz.underlying22 hinf (some ⟨g, 0, none⟩) xs.length c ((xs.length : Int) + 1) (by omega) (by omega)
 have ht : ((xs.length : Int) + 1).toNat = xs.length + 1 := by omega
 rw [ht] at hcut
 have hw : IntKind.i64.wrap ((xs.length : Int) + 1) = (xs.length : Int) + 1 := IntWalk.i64_in _ (by omega)
 have v1 : (0 ≤ (xs.length : Int) + 1) = True := eq_true (by omega)
 have v2 : ((xs.length : Int) + 1 ≤ (c : Int)) = True := eq_true (by omega)
 have v3 : (0 ≤ (xs.length : Int)) = True := eq_true (by omega)
 have v4 : ((xs.length : Int) < ((xs.length + 1 : Nat) : Int)) = True := eq_true (by omega)
 have v5 : ((xs.length : Int) < (xs.length : Int) + 1) = True := eq_true (by omega)
 have hm : (lentOfDocs.f0 == -77) = true := by decide +kernel
 clear hR hR1 hC hk hl hle hcl hcM hcc hget ht hinf
 go_enter Tryz.func18, Tryz.ntmps18
 go_wp2_with fail
 refine SM.out.mono ?_
 rintro en w1 ⟨rfl, hb1⟩
 have HB1 := Aside0.mk hb1
 have z0 := pw_cell_below hb1 z0
 have z1 := pw_cell_below hb1 z1
 clear hb1 SM
 go_wp2_with fail
 go_ret
 exact ⟨rfl, HB1.out⟩
end Go.Proofs.YtibhenengpdahaaGreat.P

end
