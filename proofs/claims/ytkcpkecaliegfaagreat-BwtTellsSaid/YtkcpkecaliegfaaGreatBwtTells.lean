/- The statement BwtTells: its walk. Conditions: the row's. (Printed by genwt.py.) -/
import Derived.Test.YtkcpkecaliegfaaGreatAlive4
import Derived.Test.YtkcpkecaliegfaaGreatP33
import Derived.Test.YtkcpkecaliegfaaGreatBkAll
import Derived.Test.YtkcpkecaliegfaaGreatBkIn
set_option linter.unusedVariables false
set_option linter.unusedSimpArgs false
namespace Go.Proofs.YtkcpkecaliegfaaGreat.P
open Go.RowKit Go.Proofs.YtkcpkecaliegfaaGreatW.PrintWords Go.Proofs.YtkcpkecaliegfaaGreatW.PrintLast Go.Proofs.YtkcpkecaliegfaaGreatW.PrintMore

theorem counts_len (s : List Int) : (countsOf s).length = 257 := by unfold countsOf; rw [List.length_map, List.length_range]
theorem counts_rank (s : List Int) (hn : s.length ≤ 1000000) (i : Nat) (h : i < (if colB s = true then countsOf s else []).length) : Ev (fun k => scriniumref1_Rank.f k (i : Int) (s.length : Int) s) (rd (if colB s = true then countsOf s else []) (i : Int)) := by
 have R := refRank_ev s (i : Int) (s.length : Int) hn
 cases hc : colB s with
 | false =>
  rw [hc, if_neg (by decide)] at h
  exact absurd h (Nat.not_lt_zero _)
 | true =>
  rw [hc, if_pos rfl] at h R
  rw [if_pos rfl, rd_get _ i h]
  rw [clamp_nat _ _ (Nat.le_refl _)] at R
  unfold rank at R
  rw [List.take_length] at R
  rw [show (countsOf s)[i] = ((s.countP (fun y => decide (y = (i : Int))) : Nat) : Int) by simp only [countsOf, List.getElem_map, List.getElem_range]]
  exact R
theorem out_small (s : List Int) (hn : s.length ≤ 160) : (docsB s).1.length ≤ 900000 := by
 have hR := rank_le 0 s.length s
 unfold docsB
 split
 ·unfold lastOf
  split
  ·show (outOf s _).length ≤ _
   rw [out_length]
   omega
  ·exact Nat.zero_le _
 ·exact Nat.zero_le _
def bwtTells.T20 : Bool × List (List Nat × List Nat) := (true, [([], []), ([], []), ([0, 1], [0, 1]), ([2], [2]), ([], []), ([], []), ([5], [5]), ([], []), ([4, 6, 7], [4, 6, 7]), ([3, 8], [3, 8])])
def bwtTells.B20 : List Nat := [0, 0, 3, 7, 0, 0, 32, 0, 240, 511]
theorem bwtTells.tab20 : rtab .any (opsOf Tryz.f4 20) = bwtTells.T20 := by kernel_rfl
theorem bwtTells.bits20 : waitsOk bwtTells.T20.2 bwtTells.B20 = true := by kernel_rfl
set_option maxRecDepth 100000 in
set_option maxHeartbeats 8000000 in
theorem bwtTells_main (A1 : Option Addr) (c1 : Nat) (l1 : List Int) (a1 a2 a3 : Int) (w : World) (hC1 : Kd.C (Kd.int .i64) w A1 l1.length l1) (hc1 : l1.length ≤ c1) (h1 : l1.length ≤ 160) :
  Calls Tryz.prog 4 #[.slice A1 l1.length c1, .int .i64 a1, .int .i64 a2, .int .i64 a3] w fun e w' => e = .returned (.bool true) ∧ Below w.heap.size w w' := by
 have hn : l1.length ≤ 1000000 := by omega
 obtain ⟨gb, hgb⟩ : ∃ b, colB l1 = b := ⟨_, rfl⟩
 obtain ⟨SC, hSC⟩ : ∃ q, (if colB l1 = true then countsOf l1 else []) = q := ⟨_, rfl⟩
 obtain ⟨SD, db, hSD⟩ : ∃ x y, docsB l1 = (x, y) := ⟨_, _, rfl⟩
 obtain ⟨ts, tb, hts⟩ : ∃ x y, textB l1 a3 = (x, y) := ⟨_, _, rfl⟩
 obtain ⟨ni, nb, hni⟩ : ∃ x y, nextI l1 a2 = (x, y) := ⟨_, _, rfl⟩
 obtain ⟨rk, hrk⟩ : ∃ x, (if colB l1 then (rank a1 (clampN a2 l1.length) l1 : Int) else 0) = x := ⟨_, rfl⟩
 obtain ⟨bf, hbf⟩ : ∃ x, (if colB l1 then (before a1 l1 : Int) else 0) = x := ⟨_, rfl⟩
 have CK := Aside0.mk (counts_rank l1 hn)
 rw [hSC] at CK
 have hsd := out_small l1 h1
 rw [hSD] at hsd
 have hsc : SC.length ≤ 257 := by
  rw [← hSC]
  split
  ·rw [counts_len]; exact Nat.le_refl _
  ·exact Nat.zero_le _
 have hgl : ((SC.length : Int) == 257) = gb := by
  rw [← hSC, hgb]
  cases gb with
  | true => rw [if_pos rfl, counts_len]; rfl
  | false => rw [if_neg (by decide)]; rfl
 have hgz : gb = false → ((SC.length : Int) != 0) = false := fun h => by
  rw [← hSC, hgb, h, if_neg (by decide)]
  rfl
 obtain ⟨k2, e2⟩ := (counts_ev l1 hn).rounds
 obtain ⟨k3, e3⟩ := (docs_ev l1 hn).rounds
 obtain ⟨k4, e4⟩ := (refDocs_ev l1 hn).rounds
 obtain ⟨k5, e5⟩ := (refText_ev l1 a3 hn).rounds
 obtain ⟨k6, e6⟩ := (next_any l1 a2 hn).rounds
 obtain ⟨k7, e7⟩ := (refNext_ev l1 a2 hn).rounds
 obtain ⟨k8, e8⟩ := (refCol_ev l1 hn).rounds
 obtain ⟨ka, ea⟩ := (refRank_ev l1 a1 a2 hn).rounds
 obtain ⟨kb, eb⟩ := (refBefore_ev l1 a1 hn).rounds
 have et := text_f l1 hn a3
 have er := rank_ok l1 a1 a2 hn (l1.length + 1) (Nat.le_refl _)
 have eo := before_ok l1 a1 hn (l1.length + 1) (Nat.le_refl _)
 have ec := col_f l1 hn
 rw [hSC] at e2
 rw [hSD] at e3 e4
 rw [hts] at e5 et
 rw [hni] at e6 e7
 rw [hrk] at ea er
 rw [hbf] at eb eo
 rw [hgb] at e8 ec
 have AL := Aside0.mk alive4_walk
 have LN := Aside0.mk (fun w' (h : Kd.C (Kd.int .i64) w' A1 l1.length l1) => lentInts_calls A1 c1 l1 w' h hc1 (by omega))
 have CT := Aside0.mk (fun A c w' (h : Kd.C (Kd.int .i64) w' A l1.length l1) (h2 : l1.length ≤ c) => bwt_Counts.calls k2 A c l1 SC w' h h2 e2)
 have DC := Aside0.mk (fun A c w' (h : Kd.C (Kd.int .i64) w' A l1.length l1) (h2 : l1.length ≤ c) => bwt_Docs.calls k3 A c l1 SD db w' h h2 e3)
 have QD := Aside0.mk (fun w' (h : Kd.C (Kd.int .i64) w' A1 l1.length l1) => scriniumref1_Docs.calls k4 A1 c1 l1 SD db w' h hc1 e4)
 have TX := Aside0.mk (fun A c w' (h : Kd.C (Kd.int .i64) w' A l1.length l1) (h2 : l1.length ≤ c) => bwt_Text.calls a3 A c l1 ts tb w' h h2 et)
 have QT := Aside0.mk (fun w' (h : Kd.C (Kd.int .i64) w' A1 l1.length l1) => scriniumref1_Text.calls k5 a3 A1 c1 l1 ts tb w' h hc1 e5)
 have NX := Aside0.mk (fun A c w' (h : Kd.C (Kd.int .i64) w' A l1.length l1) (h2 : l1.length ≤ c) => bwt_Next.calls k6 a2 A c l1 ni nb w' h h2 e6)
 have QX := Aside0.mk (fun w' (h : Kd.C (Kd.int .i64) w' A1 l1.length l1) => scriniumref1_Next.calls k7 a2 A1 c1 l1 ni nb w' h hc1 e7)
 have CO := Aside0.mk (fun w' (h : Kd.C (Kd.int .i64) w' A1 l1.length l1) => scriniumref1_Column.calls k8 A1 c1 l1 gb w' h hc1 e8)
 have RT := Aside0.mk (fun A c w' (h : Kd.C (Kd.int .i64) w' A l1.length l1) (h2 : l1.length ≤ c) => bwt_Right.calls A c l1 gb w' h h2 ec)
 have RA := Aside0.mk (fun A c w' (h : Kd.C (Kd.int .i64) w' A l1.length l1) (h2 : l1.length ≤ c) => bwt_Rank.calls (l1.length + 1) a1 a2 A c l1 rk w' h h2 er)
 have QR := Aside0.mk (fun w' (h : Kd.C (Kd.int .i64) w' A1 l1.length l1) => scriniumref1_Rank.calls ka a1 a2 A1 c1 l1 rk w' h hc1 ea)
 have BF := Aside0.mk (fun A c w' (h : Kd.C (Kd.int .i64) w' A l1.length l1) (h2 : l1.length ≤ c) => bwt_Before.calls (l1.length + 1) a1 A c l1 bf w' h h2 eo)
 have QB := Aside0.mk (fun w' (h : Kd.C (Kd.int .i64) w' A1 l1.length l1) => scriniumref1_Before.calls kb a1 A1 c1 l1 bf w' h hc1 eb)
 have HSC : Aside0 (SC.length ≤ 900000) := ⟨by omega⟩
 have HSD : Aside0 (SD.length ≤ 900000) := ⟨hsd⟩
 have HR1 := Aside0.mk hC1
 have HC1 := Aside0.mk hc1
 have HL1 : Aside0 (l1.length ≤ 900000) := ⟨by omega⟩
 have d2 : decide ((160 : Int) < (l1.length : Int)) = false := decide_eq_false (by omega)
 clear hC1 hc1 h1 hn hgb hSC hSD hts hni hrk hbf hsd hsc e2 e3 e4 e5 e6 e7 e8 ea eb et er eo ec
 have hcase : (gb = true ∧ True) ∨ (gb = false ∧ ((SC.length : Int) != 0) = false) := by
  cases gb with
  | true => exact Or.inl ⟨rfl, trivial⟩
  | false => exact Or.inr ⟨rfl, hgz rfl⟩
 clear hgz
 rcases hcase with ⟨rfl, hgz⟩ | ⟨rfl, hgz⟩
 all_goals
  go_enter Tryz.func4, Tryz.ntmps4
  have HH := Aside0.mk (Below.refl w.heap.size w)
  go_wp2_with fail
  refine (AL.out _).mono ?_
  rintro en x1 ⟨rfl, hb⟩
  replace HH := Aside0.mk (below_step HH.out hb)
  clear hb
  go_wp2_with fail
  refine (LN.out _ (Kd.C_below HR1.out HH.out)).mono ?_
  rintro en x2 ⟨gm, cm, rfl, hR, hb⟩
  have HM := Aside0.mk (Kd.R_lower hR HH.out.size)
  clear hR
  replace HH := Aside0.mk (below_step HH.out hb)
  clear hb
  go_wp2_with fail
  refine (CT.out _ _ _ (lent_reads HM.out).1 (lent_reads HM.out).2).mono ?_
  rintro en x3 ⟨v, rfl, hR, hb⟩
  obtain ⟨Ac, cc, rfl⟩ := Kd.R_slice hR
  have Hc := Aside0.mk (Kd.R_lower hR HH.out.size)
  clear hR
  replace HM := Aside0.mk (Kd.R_below HM.out hb)
  replace HH := Aside0.mk (below_step HH.out hb)
  clear hb
  go_wp2_with fail
  refine (DC.out _ _ _ (lent_reads HM.out).1 (lent_reads HM.out).2).mono ?_
  rintro en x4 ⟨v, rfl, hR, hb⟩
  obtain ⟨Ad, cd, rfl⟩ := Kd.R_slice hR
  have Hd := Aside0.mk (Kd.R_lower hR HH.out.size)
  clear hR
  replace HM := Aside0.mk (Kd.R_below HM.out hb)
  replace Hc := Aside0.mk (Kd.R_below Hc.out hb)
  replace HH := Aside0.mk (below_step HH.out hb)
  clear hb
  go_wp2_with fail
  refine (QD.out _ (Kd.C_below HR1.out HH.out)).mono ?_
  rintro en x5 ⟨v, rfl, hR, hb⟩
  obtain ⟨Ae, ce, rfl⟩ := Kd.R_slice hR
  have He := Aside0.mk (Kd.R_lower hR HH.out.size)
  clear hR
  replace HM := Aside0.mk (Kd.R_below HM.out hb)
  replace Hc := Aside0.mk (Kd.R_below Hc.out hb)
  replace Hd := Aside0.mk (Kd.R_below Hd.out hb)
  replace HH := Aside0.mk (below_step HH.out hb)
  clear hb
  go_wp2_with fail
  refine (TX.out _ _ _ (lent_reads HM.out).1 (lent_reads HM.out).2).mono ?_
  rintro en x6 ⟨rfl, hb⟩
  replace HM := Aside0.mk (Kd.R_below HM.out hb)
  replace Hc := Aside0.mk (Kd.R_below Hc.out hb)
  replace Hd := Aside0.mk (Kd.R_below Hd.out hb)
  replace He := Aside0.mk (Kd.R_below He.out hb)
  replace HH := Aside0.mk (below_step HH.out hb)
  clear hb
  go_wp2_with fail
  refine (QT.out _ (Kd.C_below HR1.out HH.out)).mono ?_
  rintro en x7 ⟨rfl, hb⟩
  replace HM := Aside0.mk (Kd.R_below HM.out hb)
  replace Hc := Aside0.mk (Kd.R_below Hc.out hb)
  replace Hd := Aside0.mk (Kd.R_below Hd.out hb)
  replace He := Aside0.mk (Kd.R_below He.out hb)
  replace HH := Aside0.mk (below_step HH.out hb)
  clear hb
  go_wp2_with fail
  refine (NX.out _ _ _ (lent_reads HM.out).1 (lent_reads HM.out).2).mono ?_
  rintro en x8 ⟨rfl, hb⟩
  replace HM := Aside0.mk (Kd.R_below HM.out hb)
  replace Hc := Aside0.mk (Kd.R_below Hc.out hb)
  replace Hd := Aside0.mk (Kd.R_below Hd.out hb)
  replace He := Aside0.mk (Kd.R_below He.out hb)
  replace HH := Aside0.mk (below_step HH.out hb)
  clear hb
  go_wp2_with fail
  refine (QX.out _ (Kd.C_below HR1.out HH.out)).mono ?_
  rintro en x9 ⟨rfl, hb⟩
  replace hb := hb.below
  replace HM := Aside0.mk (Kd.R_below HM.out hb)
  replace Hc := Aside0.mk (Kd.R_below Hc.out hb)
  replace Hd := Aside0.mk (Kd.R_below Hd.out hb)
  replace He := Aside0.mk (Kd.R_below He.out hb)
  replace HH := Aside0.mk (below_step HH.out hb)
  clear hb
  go_wp2_with fail
  obtain ⟨x10, hbe⟩ : ∃ x, x9.alloc (.cells #[.slice none 0 0, .slice none 0 0, .slice none 0 0, .slice none 0 0, .slice none 0 0, .slice none 0 0, .slice none 0 0, .slice none 0 0, .slice none 0 0, .slice none 0 0, .slice none 0 0, .slice none 0 0, .slice none 0 0, .slice none 0 0, .slice none 0 0, .slice none 0 0] 44) = x := ⟨_, rfl⟩
  have hblk : x10.heap[x9.heap.size]? = some (.cells [nilL, nilL, nilL, nilL, nilL, nilL, nilL, nilL, nilL, nilL, nilL, nilL, nilL, nilL, nilL, nilL].toArray 44 (0, 0)) := by rw [← hbe]; exact heap_alloc_new _ _
  have hb : Below x9.heap.size x9 x10 := by rw [← hbe]; exact below_alloc (Below.refl _ _) _
  rw [hbe]
  obtain ⟨bk, hbk⟩ : ∃ b, x9.heap.size = b := ⟨_, rfl⟩
  have HBK := Aside0.mk (show w.heap.size ≤ bk by rw [← hbk]; exact HH.out.size)
  rw [hbk] at hblk ⊢
  have HBLK := Aside0.mk hblk
  clear hblk hbe hbk
  replace HM := Aside0.mk (Kd.R_below HM.out hb)
  replace Hc := Aside0.mk (Kd.R_below Hc.out hb)
  replace Hd := Aside0.mk (Kd.R_below Hd.out hb)
  replace He := Aside0.mk (Kd.R_below He.out hb)
  replace HH := Aside0.mk (below_step HH.out hb)
  clear hb
  have OInts := Aside0.mk (Kd.R_nil (Kd.raw 1) 22 x10 w.heap.size (fun _ => True))
  have PInts := OInts
  have QInts : Aside0 (∀ q, nilL.ownBlock = some q → nilL.ownBlock ≠ some q) := ⟨fun q e => by cases e⟩
  go_wp2_with fail
  refine (addInts_calls bk w.heap.size  nilL nilL [nilL, nilL, nilL, nilL, nilL, nilL, nilL, nilL, nilL, nilL, nilL, nilL, nilL, nilL] [] [] Ac cc SC _ HBLK.out OInts.out PInts.out QInts.out Hc.out (by simp) (by simp) HH.out.size HBK.out HSC.out).mono ?_
  rintro en x11 ⟨pc, qc, uc, rfl, hblk, hp0, hp1, hsp, hu1, hk⟩
  replace HM := Aside0.mk (hk.R OInts.out PInts.out HBLK.out rfl (by decide) (by decide) HM.out)
  replace Hc := Aside0.mk (hk.R OInts.out PInts.out HBLK.out rfl (by decide) (by decide) Hc.out)
  replace Hd := Aside0.mk (hk.R OInts.out PInts.out HBLK.out rfl (by decide) (by decide) Hd.out)
  replace He := Aside0.mk (hk.R OInts.out PInts.out HBLK.out rfl (by decide) (by decide) He.out)
  have Cc := Aside0.mk (Kd.R_lower hu1 HH.out.size)
  replace HH := Aside0.mk (HH.out.trans (hk.under HH.out.size HBK.out (fun q e => Kd.R_base OInts.out q e) (fun q e => Kd.R_base PInts.out q e)))
  replace OInts := Aside0.mk hp0
  replace PInts := Aside0.mk hp1
  replace QInts := Aside0.mk hsp
  replace HBLK := Aside0.mk hblk
  clear hblk hp0 hp1 hsp hu1 hk
  have OTexts := Aside0.mk (Kd.R_nil (Kd.raw 1) 23 x11 w.heap.size (fun _ => True))
  have PTexts := OTexts
  have QTexts : Aside0 (∀ q, nilL.ownBlock = some q → nilL.ownBlock ≠ some q) := ⟨fun q e => by cases e⟩
  go_wp2_with fail
  refine (addTexts_calls bk w.heap.size pc qc nilL nilL [nilL, nilL, nilL, nilL, nilL, nilL, nilL, nilL, nilL, nilL, nilL, nilL] [] [] Ad cd SD _ HBLK.out OTexts.out PTexts.out QTexts.out Hd.out (by simp) (by simp) HH.out.size HBK.out HSD.out).mono ?_
  rintro en x12 ⟨pd, qd, ud, rfl, hblk, hp0, hp1, hsp, hu1, hk⟩
  replace HM := Aside0.mk (hk.R OTexts.out PTexts.out HBLK.out rfl (by decide) (by decide) HM.out)
  replace Hc := Aside0.mk (hk.R OTexts.out PTexts.out HBLK.out rfl (by decide) (by decide) Hc.out)
  replace Hd := Aside0.mk (hk.R OTexts.out PTexts.out HBLK.out rfl (by decide) (by decide) Hd.out)
  replace He := Aside0.mk (hk.R OTexts.out PTexts.out HBLK.out rfl (by decide) (by decide) He.out)
  replace Cc := Aside0.mk (hk.R OTexts.out PTexts.out HBLK.out rfl (by decide) (by decide) Cc.out)
  replace OInts := Aside0.mk (hk.R OTexts.out PTexts.out HBLK.out rfl (by decide) (by decide) OInts.out)
  replace PInts := Aside0.mk (hk.R OTexts.out PTexts.out HBLK.out rfl (by decide) (by decide) PInts.out)
  have Cd := Aside0.mk (Kd.R_lower hu1 HH.out.size)
  replace HH := Aside0.mk (HH.out.trans (hk.under HH.out.size HBK.out (fun q e => Kd.R_base OTexts.out q e) (fun q e => Kd.R_base PTexts.out q e)))
  replace OTexts := Aside0.mk hp0
  replace PTexts := Aside0.mk hp1
  replace QTexts := Aside0.mk hsp
  replace HBLK := Aside0.mk hblk
  clear hblk hp0 hp1 hsp hu1 hk
  go_wp2_with fail
  refine (CO.out _ (Kd.C_below HR1.out HH.out)).mono ?_
  rintro en x13 ⟨rfl, hb⟩
  replace hb := hb.below
  replace HM := Aside0.mk (Kd.R_below HM.out hb)
  replace Hc := Aside0.mk (Kd.R_below Hc.out hb)
  replace Hd := Aside0.mk (Kd.R_below Hd.out hb)
  replace He := Aside0.mk (Kd.R_below He.out hb)
  replace Cc := Aside0.mk (Kd.R_below Cc.out hb)
  replace OInts := Aside0.mk (Kd.R_below OInts.out hb)
  replace PInts := Aside0.mk (Kd.R_below PInts.out hb)
  replace Cd := Aside0.mk (Kd.R_below Cd.out hb)
  replace OTexts := Aside0.mk (Kd.R_below OTexts.out hb)
  replace PTexts := Aside0.mk (Kd.R_below PTexts.out hb)
  replace HBLK := Aside0.mk (blk_below HBLK.out hb)
  replace HH := Aside0.mk (below_step HH.out hb)
  clear hb
  go_wp2_with fail
  refine (RT.out _ _ _ (lent_reads HM.out).1 (lent_reads HM.out).2).mono ?_
  rintro en x14 ⟨rfl, hb⟩
  replace HM := Aside0.mk (Kd.R_below HM.out hb)
  replace Hc := Aside0.mk (Kd.R_below Hc.out hb)
  replace Hd := Aside0.mk (Kd.R_below Hd.out hb)
  replace He := Aside0.mk (Kd.R_below He.out hb)
  replace Cc := Aside0.mk (Kd.R_below Cc.out hb)
  replace OInts := Aside0.mk (Kd.R_below OInts.out hb)
  replace PInts := Aside0.mk (Kd.R_below PInts.out hb)
  replace Cd := Aside0.mk (Kd.R_below Cd.out hb)
  replace OTexts := Aside0.mk (Kd.R_below OTexts.out hb)
  replace PTexts := Aside0.mk (Kd.R_below PTexts.out hb)
  replace HBLK := Aside0.mk (blk_below HBLK.out hb)
  replace HH := Aside0.mk (below_step HH.out hb)
  clear hb
  go_wp2_with fail
  go_loopw [104] (fun iv wr => ∃ i : Nat, i ≤ SC.length ∧ iv = .int .i64 i ∧ Aside0 (Below x14.heap.size x14 wr)) (fun iv _ => SC.length - (intOf iv).toNat)
  case atStart => exact ⟨0, Nat.zero_le _, rfl, ⟨Below.refl _ _⟩⟩
  case round =>
   obtain ⟨i, hi, rfl, HBr⟩ := hrel
   by_cases hlt : i < SC.length
   ·have e1 : decide ((i : Int) < (SC.length : Int)) = true := decide_eq_true (by omega)
    have e2 : decide (i < SC.length) = true := decide_eq_true hlt
    have e3 : (0 ≤ (i : Int)) = True := eq_true (by omega)
    have e4 : ((i : Int) < (SC.length : Int)) = True := eq_true (by omega)
    have e5 : IntKind.i64.wrap ((i : Int) + 1) = (i : Int) + 1 := IntWalk.i64_in _ (by have := HSC.out; omega)
    obtain ⟨ac, hAc, z0⟩ := Kd.at_int (Kd.R_reads' (Kd.R_below Hc.out HBr.out)).2.2 (i : Int) (by omega) (by omega)
    rw [Int.toNat_natCast] at z0
    subst hAc
    obtain ⟨q, hq⟩ : ∃ q, rd SC (i : Int) = q := ⟨_, rfl⟩
    obtain ⟨k9, e9⟩ := (CK.out i hlt).rounds
    rw [hq] at z0 e9
    have RK := Aside0.mk (fun w' (h : Kd.C (Kd.int .i64) w' A1 l1.length l1) => scriniumref1_Rank.calls k9 (i : Int) (l1.length : Int) A1 c1 l1 q w' h HC1.out e9)
    clear hq e9
    go_wp2_with fail
    refine start_ (n := 10) (S := fun w' => Below wr.heap.size wr w') (ds := []) #[false, false, false, false, false, false, false, false, false, false] (by kernel_rfl) rfl rfl (below_drew1 (Below.refl _ _)) (fun hHeld => ?_)
    refine with_tabW bwtTells.tab20 bwtTells.bits20 (fun HT_ HW_ => ?_)
    refine take_ (i := 0) (N := some 107) (v := ?_) (a' := ?_) #[true, false, false, false, false, false, false, false, false, false] rfl rfl (take_ofW HT_.out HW_.out (by kernel_rfl)) (fun _ _ _ h => h) (Or.inl ⟨by rfl, ?_⟩) hHeld ?_ ?_
    rotate_left
    ·intro w' s
     go_simp
     with_reducible rfl
    rotate_left
    ·simp only [Act.put, List.setIfInBounds_toArray, List.set_cons_zero, List.set_cons_succ, i64_w, i32_w]
     rfl
    refine take_ (i := 1) (N := some 108) (v := ?_) (a' := ?_) #[true, true, false, false, false, false, false, false, false, false] rfl rfl (take_ofW HT_.out HW_.out (by kernel_rfl)) (fun _ _ _ h => h) (Or.inl ⟨by rfl, ?_⟩) hHeld ?_ ?_
    rotate_left
    ·intro w' s
     go_simp
     with_reducible rfl
    rotate_left
    ·simp only [Act.put, List.setIfInBounds_toArray, List.set_cons_zero, List.set_cons_succ, i64_w, i32_w]
     rfl
    refine take_ (i := 2) (N := some 109) (v := ?_) (a' := ?_) #[true, true, true, false, false, false, false, false, false, false] rfl rfl (take_ofW HT_.out HW_.out (by kernel_rfl)) (fun _ _ _ h => h) (Or.inl ⟨by rfl, ?_⟩) hHeld ?_ ?_
    rotate_left
    ·intro w' s
     go_simp
     with_reducible rfl
    rotate_left
    ·simp only [Act.put, List.setIfInBounds_toArray, List.set_cons_zero, List.set_cons_succ, i64_w, i32_w]
     rfl
    refine take_ (i := 3) (N := some 110) (v := ?_) (a' := ?_) #[true, true, true, true, false, false, false, false, false, false] rfl rfl (take_ofW HT_.out HW_.out (by kernel_rfl)) (fun _ _ _ h => h) (Or.inl ⟨by rfl, ?_⟩) hHeld ?_ ?_
    rotate_left
    ·intro w' s
     have s0 := pw_cell_below s z0
     go_simp
     with_reducible rfl
    rotate_left
    ·simp only [Act.put, List.setIfInBounds_toArray, List.set_cons_zero, List.set_cons_succ, i64_w, i32_w]
     rfl
    refine take_ (i := 4) (N := some 111) (v := ?_) (a' := ?_) #[true, true, true, true, true, false, false, false, false, false] rfl rfl (take_ofW HT_.out HW_.out (by kernel_rfl)) (fun _ _ _ h => h) (Or.inl ⟨by rfl, ?_⟩) hHeld ?_ ?_
    rotate_left
    ·intro w' s
     go_simp
     with_reducible rfl
    rotate_left
    ·simp only [Act.put, List.setIfInBounds_toArray, List.set_cons_zero, List.set_cons_succ, i64_w, i32_w]
     rfl
    refine take_ (i := 5) (N := some 112) (v := ?_) (a' := ?_) #[true, true, true, true, true, true, false, false, false, false] rfl rfl (take_ofW HT_.out HW_.out (by kernel_rfl)) (fun _ _ _ h => h) (Or.inl ⟨by rfl, ?_⟩) hHeld ?_ ?_
    rotate_left
    ·intro w' s
     go_simp
     with_reducible rfl
    rotate_left
    ·simp only [Act.put, List.setIfInBounds_toArray, List.set_cons_zero, List.set_cons_succ, i64_w, i32_w]
     rfl
    refine take_ (i := 6) (N := some 113) (v := ?_) (a' := ?_) #[true, true, true, true, true, true, true, false, false, false] rfl rfl (take_ofW HT_.out HW_.out (by kernel_rfl)) (fun _ _ _ h => h) (Or.inl ⟨by rfl, ?_⟩) hHeld ?_ ?_
    rotate_left
    ·intro w' s
     go_simp
     with_reducible rfl
    rotate_left
    ·simp only [Act.put, List.setIfInBounds_toArray, List.set_cons_zero, List.set_cons_succ, i64_w, i32_w]
     rfl
    refine take_ (i := 7) (N := some 114) (v := ?_) (a' := ?_) #[true, true, true, true, true, true, true, true, false, false] rfl rfl (take_ofW HT_.out HW_.out (by kernel_rfl)) (fun _ _ _ h => h) (Or.inl ⟨by rfl, ?_⟩) hHeld ?_ ?_
    rotate_left
    ·intro w' s
     go_simp
     with_reducible rfl
    rotate_left
    ·simp only [Act.put, List.setIfInBounds_toArray, List.set_cons_zero, List.set_cons_succ, i64_w, i32_w]
     rfl
    refine one_ (i := 8) (N := some 115) #[true, true, true, true, true, true, true, true, true, false] rfl rfl (one_of HT_.out (by kernel_rfl)) (by decide) (fun K hK => ?_)
    refine goes_ Tryz.func31 (by kernel_rfl) rfl #[.int .i64 i, .int .i64 l1.length, .slice A1 l1.length c1] (by rfl) rfl rfl (by (try simp only [List.map_toArray, List.map_cons, List.map_nil]); first | done | rfl | (simp only [List.length_drop, List.length_take]; rfl)) ?_
    refine (RK.out _ (Kd.C_below (Kd.C_below (Kd.C_below HR1.out HH.out) HBr.out) hHeld)).mono ?_
    rintro en w8 ⟨rfl, hb⟩
    replace hb := hb.below
    refine ⟨_, rfl, ?_⟩
    have hS8 := below_step hHeld hb
    refine hK.out _ _ hS8 (fun hHeld => ?_)
    clear hb hS8
    clear hK K
    refine norm_ (a' := ?_) ?_ ?_
    rotate_left
    ·show Act.put _ (some 115) _ = _
     simp only [Act.put, List.setIfInBounds_toArray, List.set_cons_zero, List.set_cons_succ, i64_w, i32_w]
     rfl
    refine take_ (i := 9) (N := some 116) (v := ?_) (a' := ?_) #[true, true, true, true, true, true, true, true, true, true] rfl rfl (take_ofW HT_.out HW_.out (by kernel_rfl)) (fun _ _ _ h => h) (Or.inl ⟨by rfl, ?_⟩) hHeld ?_ ?_
    rotate_left
    ·intro w' s
     go_simp
     with_reducible rfl
    rotate_left
    ·simp only [Act.put, List.setIfInBounds_toArray, List.set_cons_zero, List.set_cons_succ, i64_w, i32_w]
     rfl
    refine done_ (done_of HT_.out (by kernel_rfl)) ?_
    have HBn := Aside0.mk (below_step HBr.out hHeld)
    clear hHeld z0
    go_wp2_with fail
    go_roundw
    case rel => exact ⟨i + 1, by omega, by go_num, HBn⟩
    case measure => simp [intOf]; omega
   ·obtain rfl : i = SC.length := by omega
    have e1 : decide ((SC.length : Int) < (SC.length : Int)) = false := decide_eq_false (by omega)
    have hb := HBr.out
    clear HBr hlt hi
    replace HM := Aside0.mk (Kd.R_below HM.out hb)
    replace Hc := Aside0.mk (Kd.R_below Hc.out hb)
    replace Hd := Aside0.mk (Kd.R_below Hd.out hb)
    replace He := Aside0.mk (Kd.R_below He.out hb)
    replace Cc := Aside0.mk (Kd.R_below Cc.out hb)
    replace OInts := Aside0.mk (Kd.R_below OInts.out hb)
    replace PInts := Aside0.mk (Kd.R_below PInts.out hb)
    replace Cd := Aside0.mk (Kd.R_below Cd.out hb)
    replace OTexts := Aside0.mk (Kd.R_below OTexts.out hb)
    replace PTexts := Aside0.mk (Kd.R_below PTexts.out hb)
    replace HBLK := Aside0.mk (blk_below HBLK.out hb)
    replace HH := Aside0.mk (below_step HH.out hb)
    clear hb
    skip
    go_wp2_with fail
    refine (RA.out _ _ _ (lent_reads HM.out).1 (lent_reads HM.out).2).mono ?_
    rintro en x15 ⟨rfl, hb⟩
    replace HM := Aside0.mk (Kd.R_below HM.out hb)
    replace Hc := Aside0.mk (Kd.R_below Hc.out hb)
    replace Hd := Aside0.mk (Kd.R_below Hd.out hb)
    replace He := Aside0.mk (Kd.R_below He.out hb)
    replace Cc := Aside0.mk (Kd.R_below Cc.out hb)
    replace OInts := Aside0.mk (Kd.R_below OInts.out hb)
    replace PInts := Aside0.mk (Kd.R_below PInts.out hb)
    replace Cd := Aside0.mk (Kd.R_below Cd.out hb)
    replace OTexts := Aside0.mk (Kd.R_below OTexts.out hb)
    replace PTexts := Aside0.mk (Kd.R_below PTexts.out hb)
    replace HBLK := Aside0.mk (blk_below HBLK.out hb)
    replace HH := Aside0.mk (below_step HH.out hb)
    clear hb
    go_wp2_with fail
    refine (QR.out _ (Kd.C_below HR1.out HH.out)).mono ?_
    rintro en x16 ⟨rfl, hb⟩
    replace hb := hb.below
    replace HM := Aside0.mk (Kd.R_below HM.out hb)
    replace Hc := Aside0.mk (Kd.R_below Hc.out hb)
    replace Hd := Aside0.mk (Kd.R_below Hd.out hb)
    replace He := Aside0.mk (Kd.R_below He.out hb)
    replace Cc := Aside0.mk (Kd.R_below Cc.out hb)
    replace OInts := Aside0.mk (Kd.R_below OInts.out hb)
    replace PInts := Aside0.mk (Kd.R_below PInts.out hb)
    replace Cd := Aside0.mk (Kd.R_below Cd.out hb)
    replace OTexts := Aside0.mk (Kd.R_below OTexts.out hb)
    replace PTexts := Aside0.mk (Kd.R_below PTexts.out hb)
    replace HBLK := Aside0.mk (blk_below HBLK.out hb)
    replace HH := Aside0.mk (below_step HH.out hb)
    clear hb
    go_wp2_with fail
    refine (BF.out _ _ _ (lent_reads HM.out).1 (lent_reads HM.out).2).mono ?_
    rintro en x17 ⟨rfl, hb⟩
    replace HM := Aside0.mk (Kd.R_below HM.out hb)
    replace Hc := Aside0.mk (Kd.R_below Hc.out hb)
    replace Hd := Aside0.mk (Kd.R_below Hd.out hb)
    replace He := Aside0.mk (Kd.R_below He.out hb)
    replace Cc := Aside0.mk (Kd.R_below Cc.out hb)
    replace OInts := Aside0.mk (Kd.R_below OInts.out hb)
    replace PInts := Aside0.mk (Kd.R_below PInts.out hb)
    replace Cd := Aside0.mk (Kd.R_below Cd.out hb)
    replace OTexts := Aside0.mk (Kd.R_below OTexts.out hb)
    replace PTexts := Aside0.mk (Kd.R_below PTexts.out hb)
    replace HBLK := Aside0.mk (blk_below HBLK.out hb)
    replace HH := Aside0.mk (below_step HH.out hb)
    clear hb
    go_wp2_with fail
    refine (QB.out _ (Kd.C_below HR1.out HH.out)).mono ?_
    rintro en x18 ⟨rfl, hb⟩
    replace hb := hb.below
    replace HM := Aside0.mk (Kd.R_below HM.out hb)
    replace Hc := Aside0.mk (Kd.R_below Hc.out hb)
    replace Hd := Aside0.mk (Kd.R_below Hd.out hb)
    replace He := Aside0.mk (Kd.R_below He.out hb)
    replace Cc := Aside0.mk (Kd.R_below Cc.out hb)
    replace OInts := Aside0.mk (Kd.R_below OInts.out hb)
    replace PInts := Aside0.mk (Kd.R_below PInts.out hb)
    replace Cd := Aside0.mk (Kd.R_below Cd.out hb)
    replace OTexts := Aside0.mk (Kd.R_below OTexts.out hb)
    replace PTexts := Aside0.mk (Kd.R_below PTexts.out hb)
    replace HBLK := Aside0.mk (blk_below HBLK.out hb)
    replace HH := Aside0.mk (below_step HH.out hb)
    clear hb
    go_wp2_with fail
    refine (sameTexts_calls Ad Ae cd ce SD _ (Kd.R_reads' Hd.out).2.2 (Kd.R_reads' He.out).2.2 (Kd.R_reads' Hd.out).2.1 (Kd.R_reads' He.out).2.1 (Nat.le_trans HSD.out (by decide))).mono ?_
    rintro en x19 ⟨rfl, hb⟩
    replace HM := Aside0.mk (Kd.R_below HM.out hb)
    replace Hc := Aside0.mk (Kd.R_below Hc.out hb)
    replace Hd := Aside0.mk (Kd.R_below Hd.out hb)
    replace He := Aside0.mk (Kd.R_below He.out hb)
    replace Cc := Aside0.mk (Kd.R_below Cc.out hb)
    replace OInts := Aside0.mk (Kd.R_below OInts.out hb)
    replace PInts := Aside0.mk (Kd.R_below PInts.out hb)
    replace Cd := Aside0.mk (Kd.R_below Cd.out hb)
    replace OTexts := Aside0.mk (Kd.R_below OTexts.out hb)
    replace PTexts := Aside0.mk (Kd.R_below PTexts.out hb)
    replace HBLK := Aside0.mk (blk_below HBLK.out hb)
    replace HH := Aside0.mk (below_step HH.out hb)
    clear hb
    go_wp2_with fail
    refine (staysInts_calls gm cm A1 c1 l1 w.heap.size _ HM.out (Kd.C_below HR1.out HH.out) HC1.out HL1.out).mono ?_
    rintro en x20 ⟨rfl, hb⟩
    replace HM := Aside0.mk (Kd.R_below HM.out hb)
    replace Hc := Aside0.mk (Kd.R_below Hc.out hb)
    replace Hd := Aside0.mk (Kd.R_below Hd.out hb)
    replace He := Aside0.mk (Kd.R_below He.out hb)
    replace Cc := Aside0.mk (Kd.R_below Cc.out hb)
    replace OInts := Aside0.mk (Kd.R_below OInts.out hb)
    replace PInts := Aside0.mk (Kd.R_below PInts.out hb)
    replace Cd := Aside0.mk (Kd.R_below Cd.out hb)
    replace OTexts := Aside0.mk (Kd.R_below OTexts.out hb)
    replace PTexts := Aside0.mk (Kd.R_below PTexts.out hb)
    replace HBLK := Aside0.mk (blk_below HBLK.out hb)
    replace HH := Aside0.mk (below_step HH.out hb)
    clear hb
    go_wp2_with fail
    refine (apartIT_calls bk w.heap.size pc qc [(.slice Ac SC.length cc)] [uc] [SC] pd qd [(.slice Ad SD.length cd)] [ud] [SD] _ (blk_below HBLK.out (Below.refl x20.heap.size x20)) (Nat.le_trans HH.out.size (Below.refl x20.heap.size x20).size) (stat_one _ _ _ HSC.out) (sta_one (Kd.R_below OInts.out (Below.refl x20.heap.size x20)) (Kd.R_below PInts.out (Below.refl x20.heap.size x20)) (Kd.R_below Hc.out (Below.refl x20.heap.size x20)) (Kd.R_below Cc.out (Below.refl x20.heap.size x20))) (stat_one _ _ _ HSD.out) (sta_one (Kd.R_below OTexts.out (Below.refl x20.heap.size x20)) (Kd.R_below PTexts.out (Below.refl x20.heap.size x20)) (Kd.R_below Hd.out (Below.refl x20.heap.size x20)) (Kd.R_below Cd.out (Below.refl x20.heap.size x20)))).mono ?_
    rintro en x21 ⟨rfl, hb⟩
    replace HH := Aside0.mk (HH.out.trans hb)
    clear hb
    go_wp2_with fail
    go_ret
    exact ⟨rfl, HH.out⟩
set_option maxRecDepth 100000 in
set_option maxHeartbeats 4000000 in
theorem BwtTells_all (A1 : Option Addr) (c1 : Nat) (l1 : List Int) (a1 a2 a3 : Int) (w : World) (hC1 : Kd.C (Kd.int .i64) w A1 l1.length l1) (hc1 : l1.length ≤ c1) (_ : ∀ x ∈ l1, (Lit.int .i64 x).wf = true) (_ : l1.length * 8 ≤ 140737488351232)
  (_ : (Lit.int .i64 a1).wf = true) (_ : (Lit.int .i64 a2).wf = true) (_ : (Lit.int .i64 a3).wf = true) :
  Calls Tryz.prog 4 #[.slice A1 l1.length c1, .int .i64 a1, .int .i64 a2, .int .i64 a3] w fun e w' => e = .returned (.bool true) ∧ Below w.heap.size w w' := by
 by_cases h1 : l1.length ≤ 160
 ·exact bwtTells_main A1 c1 l1 a1 a2 a3 w hC1 hc1 h1
 ·have AL := Aside0.mk alive4_walk
  have d2 : decide ((160 : Int) < (l1.length : Int)) = true := decide_eq_true (by omega)
  clear hC1 hc1
  go_enter Tryz.func4, Tryz.ntmps4
  go_wp2_with fail
  refine (AL.out _).mono ?_
  rintro en w2 ⟨rfl, hb⟩
  have HB2 := Aside0.mk hb
  clear hb
  go_wp2_with fail
  go_ret
  exact ⟨rfl, HB2.out⟩
end Go.Proofs.YtkcpkecaliegfaaGreat.P
