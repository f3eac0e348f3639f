/- Book's Apart, of a book that keeps lists of these kinds: Rows. It is true. Conditions: the lists are few and small, each the call's own, apart from each other; the copies are alike. (Printed by genap.py.) -/
import Derived.Test.YtkcpkecaliegfaaGreatBookE
import Derived.Test.YtkcpkecaliegfaaGreatBkRo
set_option linter.unusedVariables false
set_option linter.unusedSimpArgs false
namespace Go.Proofs.YtkcpkecaliegfaaGreat.P
open Go.RowKit Go.Proofs.YtkcpkecaliegfaaGreatW.PrintWords Go.Proofs.YtkcpkecaliegfaaGreatW.PrintLast Go.Proofs.YtkcpkecaliegfaaGreatW.PrintMore

set_option maxRecDepth 100000 in
set_option maxHeartbeats 4000000 in
theorem apartR_calls (bk base : Nat) (oRows pRows : Value) (usRows vsRows : List Value) (xsRows : List (List S75)) (w : World) (hblk : w.heap[bk]? = some (.cells [nilL, nilL, nilL, nilL, oRows, pRows, nilL, nilL, nilL, nilL, nilL, nilL, nilL, nilL, nilL, nilL].toArray 44 (0, 0))) (hbase : base ≤ w.heap.size)
    (tRows : Stat usRows vsRows xsRows) (hRows : StA k75 75 32 base oRows pRows usRows vsRows xsRows w) :
    Calls Tryz.prog 18 #[.pointer (some ⟨bk, 0, none⟩)] w fun e w' => e = .returned (.bool true) ∧ Below base w w' := by
  obtain ⟨ARows, nRows, cRows, rfl⟩ : ∃ A n c, oRows = .slice A n c := by obtain ⟨A, c, e⟩ := Kd.R_slice hRows.row; exact ⟨A, _, c, e⟩
  obtain ⟨BRows, mRows, dRows, rfl⟩ : ∃ A n c, pRows = .slice A n c := by obtain ⟨A, c, e⟩ := Kd.R_slice hRows.row'; exact ⟨A, _, c, e⟩
  have SRows := Aside0.mk tRows
  have HRows := Aside0.mk hRows
  clear tRows hRows
  have HBLK := Aside0.mk hblk
  have HBASE := Aside0.mk hbase
  have HB := Aside0.mk (Below.refl base w)
  clear hblk hbase
  go_enter Tryz.func18, Tryz.ntmps18
  go_wp2_with fail
  refine (Bk.stillInts_none bk w ((blk_cell HBLK.out 0).trans rfl)).mono ?_
  rintro en wx ⟨rfl, hwx⟩
  rw [hwx]
  clear hwx
  go_wp2_with fail
  refine (Bk.stillTexts_none bk w ((blk_cell HBLK.out 2).trans rfl)).mono ?_
  rintro en wx ⟨rfl, hwx⟩
  rw [hwx]
  clear hwx
  go_wp2_with fail
  refine (stillRows_st SRows.out HRows.out ((blk_cell HBLK.out 4).trans rfl) ((blk_cell HBLK.out 5).trans rfl)).mono ?_
  rintro en w1 ⟨rfl, hb⟩
  replace HBLK := Aside0.mk (blk_below HBLK.out hb)
  replace HRows := Aside0.mk (HRows.out.below hb)
  replace HB := Aside0.mk (HB.out.trans (hb.mono (Nat.le_trans HBASE.out HB.out.size)))
  clear hb
  go_wp2_with fail
  refine (Bk.stillSpots_none bk w1 ((blk_cell HBLK.out 6).trans rfl)).mono ?_
  rintro en wx ⟨rfl, hwx⟩
  rw [hwx]
  clear hwx
  go_wp2_with fail
  refine (Bk.stillDocs_none bk w1 ((blk_cell HBLK.out 8).trans rfl)).mono ?_
  rintro en wx ⟨rfl, hwx⟩
  rw [hwx]
  clear hwx
  go_wp2_with fail
  refine (Bk.stillPoints_none bk w1 ((blk_cell HBLK.out 10).trans rfl)).mono ?_
  rintro en wx ⟨rfl, hwx⟩
  rw [hwx]
  clear hwx
  go_wp2_with fail
  refine (Bk.stillBools_none bk w1 ((blk_cell HBLK.out 12).trans rfl)).mono ?_
  rintro en wx ⟨rfl, hwx⟩
  rw [hwx]
  clear hwx
  go_wp2_with fail
  refine (Bk.stillEvents_none bk w1 ((blk_cell HBLK.out 14).trans rfl)).mono ?_
  rintro en wx ⟨rfl, hwx⟩
  rw [hwx]
  clear hwx
  replace HRows := Aside0.mk (HRows.out.b)
  go_wp2_with fail
  refine (Bk.putEvents_none bk w1 ((blk_cell HBLK.out 14).trans rfl)).mono ?_
  rintro en wx ⟨rfl, hwx⟩
  rw [hwx]
  clear hwx
  go_wp2_with fail
  refine (Bk.putInts_none bk w1 ((blk_cell HBLK.out 0).trans rfl)).mono ?_
  rintro en wx ⟨rfl, hwx⟩
  rw [hwx]
  clear hwx
  go_wp2_with fail
  refine (Bk.putTexts_none bk w1 ((blk_cell HBLK.out 2).trans rfl)).mono ?_
  rintro en wx ⟨rfl, hwx⟩
  rw [hwx]
  clear hwx
  go_wp2_with fail
  refine (putRows_st SRows.out HRows.out HBLK.out ((blk_cell HBLK.out 4).trans rfl) (Nat.le_trans HBASE.out HB.out.size)).mono ?_
  rintro en w2 ⟨rfl, hk, hu, hs⟩
  replace HBLK := Aside0.mk (hk.blk (by decide) HBLK.out)
  replace HB := Aside0.mk (HB.out.trans hu)
  replace HRows := Aside0.mk hs
  clear hk hu hs
  go_wp2_with fail
  refine (Bk.putSpots_none bk w2 ((blk_cell HBLK.out 6).trans rfl)).mono ?_
  rintro en wx ⟨rfl, hwx⟩
  rw [hwx]
  clear hwx
  go_wp2_with fail
  refine (Bk.putDocs_none bk w2 ((blk_cell HBLK.out 8).trans rfl)).mono ?_
  rintro en wx ⟨rfl, hwx⟩
  rw [hwx]
  clear hwx
  go_wp2_with fail
  refine (Bk.putPoints_none bk w2 ((blk_cell HBLK.out 10).trans rfl)).mono ?_
  rintro en wx ⟨rfl, hwx⟩
  rw [hwx]
  clear hwx
  go_wp2_with fail
  refine (Bk.putBools_none bk w2 ((blk_cell HBLK.out 12).trans rfl)).mono ?_
  rintro en wx ⟨rfl, hwx⟩
  rw [hwx]
  clear hwx
  go_wp2_with fail
  refine (Bk.growInts_none bk w2 ((blk_cell HBLK.out 0).trans rfl)).mono ?_
  rintro en wx ⟨rfl, hwx⟩
  rw [hwx]
  clear hwx
  go_wp2_with fail
  refine (Bk.growTexts_none bk w2 ((blk_cell HBLK.out 2).trans rfl)).mono ?_
  rintro en wx ⟨rfl, hwx⟩
  rw [hwx]
  clear hwx
  go_wp2_with fail
  refine (growRows_st SRows.out HRows.out HBLK.out ((blk_cell HBLK.out 4).trans rfl) (Nat.le_trans HBASE.out HB.out.size)).mono ?_
  rintro en w3 ⟨AgRows, ngRows, cgRows, gsRows, rfl, hgl, hk, hu, hg, hs⟩
  replace HBLK := Aside0.mk (hk.blk (by decide) HBLK.out)
  replace HB := Aside0.mk (HB.out.trans hu)
  replace HRows := Aside0.mk hs
  have GRows := Aside0.mk hg
  have ERows := Aside0.mk hgl
  clear hk hu hs hg hgl
  go_wp2_with fail
  refine (Bk.growSpots_none bk w3 ((blk_cell HBLK.out 6).trans rfl)).mono ?_
  rintro en wx ⟨rfl, hwx⟩
  rw [hwx]
  clear hwx
  go_wp2_with fail
  refine (Bk.growDocs_none bk w3 ((blk_cell HBLK.out 8).trans rfl)).mono ?_
  rintro en wx ⟨rfl, hwx⟩
  rw [hwx]
  clear hwx
  go_wp2_with fail
  refine (Bk.growPoints_none bk w3 ((blk_cell HBLK.out 10).trans rfl)).mono ?_
  rintro en wx ⟨rfl, hwx⟩
  rw [hwx]
  clear hwx
  go_wp2_with fail
  refine (Bk.growBools_none bk w3 ((blk_cell HBLK.out 12).trans rfl)).mono ?_
  rintro en wx ⟨rfl, hwx⟩
  rw [hwx]
  clear hwx
  go_wp2_with fail
  refine (Bk.growEvents_none bk w3 ((blk_cell HBLK.out 14).trans rfl)).mono ?_
  rintro en wx ⟨rfl, hwx⟩
  rw [hwx]
  clear hwx
  go_wp2_with fail
  refine (Bk.markedInts_none w3).mono ?_
  rintro en wx ⟨rfl, hwx⟩
  rw [hwx]
  clear hwx
  have y0 : w3.cell? ⟨bk, 0, none⟩ = some (.slice none 0 0) := ((blk_cell HBLK.out 0).trans rfl)
  go_wp2_with fail
  refine (Bk.markedInts_none w3).mono ?_
  rintro en wx ⟨rfl, hwx⟩
  rw [hwx]
  clear hwx y0
  go_wp2_with fail
  refine (Bk.markedTexts_none w3).mono ?_
  rintro en wx ⟨rfl, hwx⟩
  rw [hwx]
  clear hwx
  have y0 : w3.cell? ⟨bk, 2, none⟩ = some (.slice none 0 0) := ((blk_cell HBLK.out 2).trans rfl)
  go_wp2_with fail
  refine (Bk.markedTexts_none w3).mono ?_
  rintro en wx ⟨rfl, hwx⟩
  rw [hwx]
  clear hwx y0
  go_wp2_with fail
  refine (markedRows_st SRows.out ERows.out (Nat.le_refl 72) GRows.out).mono ?_
  rintro en w4 ⟨rfl, hb⟩
  replace HBLK := Aside0.mk (blk_below HBLK.out hb)
  replace HRows := Aside0.mk (HRows.out.below hb)
  replace GRows := Aside0.mk (GRows.out.below hb)
  replace HB := Aside0.mk (HB.out.trans (hb.mono (Nat.le_trans HBASE.out HB.out.size)))
  clear hb
  have y0 : w4.cell? ⟨bk, 4, none⟩ = some (.slice ARows nRows cRows) := ((blk_cell HBLK.out 4).trans rfl)
  go_wp2_with fail
  refine (markedRows_st (q := 0) SRows.out rfl (Nat.zero_le _) HRows.out).mono ?_
  rintro en w5 ⟨rfl, hb⟩
  clear y0
  replace HBLK := Aside0.mk (blk_below HBLK.out hb)
  replace HRows := Aside0.mk (HRows.out.below hb)
  replace GRows := Aside0.mk (GRows.out.below hb)
  replace HB := Aside0.mk (HB.out.trans (hb.mono (Nat.le_trans HBASE.out HB.out.size)))
  clear hb
  go_wp2_with fail
  refine (Bk.markedSpots_none w5).mono ?_
  rintro en wx ⟨rfl, hwx⟩
  rw [hwx]
  clear hwx
  have y0 : w5.cell? ⟨bk, 6, none⟩ = some (.slice none 0 0) := ((blk_cell HBLK.out 6).trans rfl)
  go_wp2_with fail
  refine (Bk.markedSpots_none w5).mono ?_
  rintro en wx ⟨rfl, hwx⟩
  rw [hwx]
  clear hwx y0
  go_wp2_with fail
  refine (Bk.markedDocs_none w5).mono ?_
  rintro en wx ⟨rfl, hwx⟩
  rw [hwx]
  clear hwx
  have y0 : w5.cell? ⟨bk, 8, none⟩ = some (.slice none 0 0) := ((blk_cell HBLK.out 8).trans rfl)
  go_wp2_with fail
  refine (Bk.markedDocs_none w5).mono ?_
  rintro en wx ⟨rfl, hwx⟩
  rw [hwx]
  clear hwx y0
  go_wp2_with fail
  refine (Bk.markedPoints_none w5).mono ?_
  rintro en wx ⟨rfl, hwx⟩
  rw [hwx]
  clear hwx
  have y0 : w5.cell? ⟨bk, 10, none⟩ = some (.slice none 0 0) := ((blk_cell HBLK.out 10).trans rfl)
  go_wp2_with fail
  refine (Bk.markedPoints_none w5).mono ?_
  rintro en wx ⟨rfl, hwx⟩
  rw [hwx]
  clear hwx y0
  go_wp2_with fail
  refine (Bk.markedBools_none w5).mono ?_
  rintro en wx ⟨rfl, hwx⟩
  rw [hwx]
  clear hwx
  have y0 : w5.cell? ⟨bk, 12, none⟩ = some (.slice none 0 0) := ((blk_cell HBLK.out 12).trans rfl)
  go_wp2_with fail
  refine (Bk.markedBools_none w5).mono ?_
  rintro en wx ⟨rfl, hwx⟩
  rw [hwx]
  clear hwx y0
  go_wp2_with fail
  refine (Bk.markedEvents_none w5).mono ?_
  rintro en wx ⟨rfl, hwx⟩
  rw [hwx]
  clear hwx
  have y0 : w5.cell? ⟨bk, 14, none⟩ = some (.slice none 0 0) := ((blk_cell HBLK.out 14).trans rfl)
  go_wp2_with fail
  refine (Bk.markedEvents_none w5).mono ?_
  rintro en wx ⟨rfl, hwx⟩
  rw [hwx]
  clear hwx y0
  go_wp2_with fail
  go_ret
  exact ⟨rfl, HB.out⟩
end Go.Proofs.YtkcpkecaliegfaaGreat.P
