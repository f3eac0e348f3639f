/- The statement BackTells: its walk. Conditions: the row's. (Printed by genbt.py.) -/
import Derived.Test.YtkcpkecaliegfaaGreatRefRange
import Derived.Test.YtkcpkecaliegfaaGreatPa
import Derived.Test.YtkcpkecaliegfaaGreatBkApR
import Derived.Test.YtkcpkecaliegfaaGreatBkIn
set_option linter.unusedVariables false
set_option linter.unusedSimpArgs false
namespace Go.Proofs.YtkcpkecaliegfaaGreat.P
open Go.RowKit Go.Proofs.YtkcpkecaliegfaaGreatW.PrintWords Go.Proofs.YtkcpkecaliegfaaGreatW.PrintLast Go.Proofs.YtkcpkecaliegfaaGreatW.PrintMore

theorem naive_short (l : List ByteArray) (p : List Int) (hl : l.length ≤ 14) (hs : ∀ d : Int, (docAt l d).size ≤ 160) : (naiveOf l p).length ≤ 900000 := by
  unfold naiveOf naiveTo
  have h1 : ((rowsTo l l.length).filter (fun r => preP (suf l r.f0 r.f1) p)).length ≤ (rowsTo l l.length).length := List.length_filter_le _ _
  have h2 := rows_lim l 160 hs l.length
  have h3 : l.length * (160 + 1) ≤ 14 * 161 := Nat.mul_le_mul hl (Nat.le_refl _)
  omega
set_option maxRecDepth 100000 in
set_option maxHeartbeats 8000000 in
theorem backTells_main (a0 : ByteArray) (A1 : Option Addr) (c1 : Nat) (l1 : List Int) (a2 a3 a4 : Int) (A2 : Option Addr) (c2 : Nat) (l2 : List ByteArray) (w : World) (hC1 : Kd.C (Kd.int .i64) w A1 l1.length l1) (hc1 : l1.length ≤ c1) (hC2 : Kd.C Kd.string w A2 l2.length l2) (hc2 : l2.length ≤ c2)
    (hs : ∀ s ∈ l2, s.size ≤ 140737488351232) (hl : l2.length * 16 ≤ 140737488351232) (h0 : a0.size ≤ 60) (h1 : l1.length ≤ 160) (hf : fewB l2 = true) :
    Calls Tryz.prog 3 #[.string a0, .slice A1 l1.length c1, .int .i64 a2, .int .i64 a3, .int .i64 a4, .slice A2 l2.length c2] w fun e w' => e = .returned (.bool true) ∧ Below w.heap.size w w' := by
  have hn : l1.length ≤ 1000000 := by omega
  have hp : a0.size ≤ 1000000 := by omega
  obtain ⟨hll, hds⟩ := few_doc l2 hf
  have hds2 : ∀ d : Int, (docAt l2 d).size ≤ 1000000 := fun d => by have := hds d; omega
  obtain ⟨ra, rb, hab⟩ : ∃ x y, rangeAny l1 a0 = (x, y) := ⟨_, _, rfl⟩
  obtain ⟨sa, sb, hsab⟩ : ∃ x y, stepOf l1 a2 a3 a4 = (x, y) := ⟨_, _, rfl⟩
  obtain ⟨SR, hSR⟩ : ∃ q, naiveOf l2 (bytesOf a0) = q := ⟨_, rfl⟩
  have hsm := range_small l1 a0 hn
  rw [hab] at hsm
  have hw : IntKind.i64.wrap (rb - ra) = rb - ra := IntWalk.i64_in _ (by simp only at hsm; omega)
  obtain ⟨k1, e1⟩ := (range_any l1 a0 hn hp).rounds
  obtain ⟨k2, e2⟩ := (refRange_any l1 a0 hn hp).rounds
  obtain ⟨k3, e3⟩ := (step_any l1 a2 a3 a4 hn).rounds
  obtain ⟨k4, e4⟩ := (refBack_ev l1 a2 a3 a4 hn).rounds
  obtain ⟨k5, e5⟩ := (naive_ok l2 a0 (by omega) hds2).rounds
  obtain ⟨k6, e6⟩ := (refNaive_ok l2 a0 (by omega) hp hds2).rounds
  obtain ⟨k7, e7⟩ := (count_any l1 a0 hn hp).rounds
  obtain ⟨k8, e8⟩ := alive5_ev.rounds
  rw [hab] at e1 e2 e7
  rw [hsab] at e3 e4
  rw [hSR] at e5 e6
  have FC := Aside0.mk (fun w' (h : Kd.C Kd.string w' A2 l2.length l2) => scriniumlaw3_Few.calls (l2.length + 1) A2 c2 l2 true w' h hc2 (by rw [few_all l2 hs hl _ (Nat.le_refl _), hf]))
  have AL := Aside0.mk (fun w' => scriniumlaw5_alive.calls k8 true w' e8)
  have LN := Aside0.mk (fun w' (h : Kd.C (Kd.int .i64) w' A1 l1.length l1) => lentInts_calls A1 c1 l1 w' h hc1 (by omega))
  have RG := Aside0.mk (fun A c w' (h : Kd.C (Kd.int .i64) w' A l1.length l1) (h2 : l1.length ≤ c) => back_Range.calls k1 a0 A c l1 ra rb w' h h2 e1)
  have QG := Aside0.mk (fun w' (h : Kd.C (Kd.int .i64) w' A1 l1.length l1) => scriniumref1_Range.calls k2 a0 A1 c1 l1 ra rb w' h hc1 e2)
  have ST := Aside0.mk (fun A c w' (h : Kd.C (Kd.int .i64) w' A l1.length l1) (h2 : l1.length ≤ c) => back_Step.calls k3 a2 a3 a4 A c l1 sa sb w' h h2 e3)
  have QS := Aside0.mk (fun w' (h : Kd.C (Kd.int .i64) w' A1 l1.length l1) => scriniumref1_Back.calls k4 a2 a3 a4 A1 c1 l1 sa sb w' h hc1 e4)
  have NV := Aside0.mk (fun w' (h : Kd.C Kd.string w' A2 l2.length l2) => back_Naive.calls k5 a0 A2 c2 l2 SR w' h hc2 e5)
  have QN := Aside0.mk (fun w' (h : Kd.C Kd.string w' A2 l2.length l2) => scriniumref1_Naive.calls k6 a0 A2 c2 l2 SR w' h hc2 e6)
  have CN := Aside0.mk (fun A c w' (h : Kd.C (Kd.int .i64) w' A l1.length l1) (h2 : l1.length ≤ c) => back_Count.calls k7 a0 A c l1 (rb - ra) w' h h2 e7)
  have HSR : Aside0 (SR.length ≤ 900000) := ⟨by rw [← hSR]; exact naive_short l2 _ hll hds⟩
  have HR1 := Aside0.mk hC1
  have HR2 := Aside0.mk hC2
  have HC1 := Aside0.mk hc1
  have HL1 : Aside0 (l1.length ≤ 900000) := ⟨by omega⟩
  have d1 : decide ((60 : Int) < (a0.size : Int)) = false := decide_eq_false (by omega)
  have d2 : decide ((160 : Int) < (l1.length : Int)) = false := decide_eq_false (by omega)
  clear hC1 hC2 hc1 hc2 hs hl h0 h1 hf hn hp hll hds hds2 hab hsab hSR hsm e1 e2 e3 e4 e5 e6 e7 e8
  go_enter Tryz.func3, Tryz.ntmps3
  have HH := Aside0.mk (Below.refl w.heap.size w)
  go_wp2_with fail
  refine (FC.out _ (Kd.C_below HR2.out HH.out)).mono ?_
  rintro en x1 ⟨rfl, hb⟩
  replace hb := hb.below
  replace HH := Aside0.mk (below_step HH.out hb)
  clear hb
  go_wp2_with fail
  refine (AL.out _).mono ?_
  rintro en x2 ⟨rfl, hb⟩
  replace HH := Aside0.mk (below_step HH.out hb)
  clear hb
  go_wp2_with fail
  refine (LN.out _ (Kd.C_below HR1.out HH.out)).mono ?_
  rintro en x3 ⟨gm, cm, rfl, hR, hb⟩
  have HM := Aside0.mk (Kd.R_lower hR HH.out.size)
  clear hR
  replace HH := Aside0.mk (below_step HH.out hb)
  clear hb
  go_wp2_with fail
  refine (RG.out _ _ _ (lent_reads HM.out).1 (lent_reads HM.out).2).mono ?_
  rintro en x4 ⟨rfl, hb⟩
  replace HM := Aside0.mk (Kd.R_below HM.out hb)
  replace HH := Aside0.mk (below_step HH.out hb)
  clear hb
  go_wp2_with fail
  refine (QG.out _ (Kd.C_below HR1.out HH.out)).mono ?_
  rintro en x5 ⟨rfl, hb⟩
  replace hb := hb.below
  replace HM := Aside0.mk (Kd.R_below HM.out hb)
  replace HH := Aside0.mk (below_step HH.out hb)
  clear hb
  go_wp2_with fail
  refine (ST.out _ _ _ (lent_reads HM.out).1 (lent_reads HM.out).2).mono ?_
  rintro en x6 ⟨rfl, hb⟩
  replace HM := Aside0.mk (Kd.R_below HM.out hb)
  replace HH := Aside0.mk (below_step HH.out hb)
  clear hb
  go_wp2_with fail
  refine (QS.out _ (Kd.C_below HR1.out HH.out)).mono ?_
  rintro en x7 ⟨rfl, hb⟩
  replace hb := hb.below
  replace HM := Aside0.mk (Kd.R_below HM.out hb)
  replace HH := Aside0.mk (below_step HH.out hb)
  clear hb
  go_wp2_with fail
  refine (NV.out _ (Kd.C_below HR2.out HH.out)).mono ?_
  rintro en x8 ⟨v, rfl, hR, hb⟩
  obtain ⟨Ar, cr, rfl⟩ := Kd.R_slice hR
  have Hr := Aside0.mk (Kd.R_lower hR HH.out.size)
  clear hR
  replace HM := Aside0.mk (Kd.R_below HM.out hb)
  replace HH := Aside0.mk (below_step HH.out hb)
  clear hb
  go_wp2_with fail
  obtain ⟨x9, hbe⟩ : ∃ x, x8.alloc (.cells #[.slice none 0 0, .slice none 0 0, .slice none 0 0, .slice none 0 0, .slice none 0 0, .slice none 0 0, .slice none 0 0, .slice none 0 0, .slice none 0 0, .slice none 0 0, .slice none 0 0, .slice none 0 0, .slice none 0 0, .slice none 0 0, .slice none 0 0, .slice none 0 0] 44) = x := ⟨_, rfl⟩
  have hblk : x9.heap[x8.heap.size]? = some (.cells [nilL, nilL, nilL, nilL, nilL, nilL, nilL, nilL, nilL, nilL, nilL, nilL, nilL, nilL, nilL, nilL].toArray 44 (0, 0)) := by rw [← hbe]; exact heap_alloc_new _ _
  have hb : Below x8.heap.size x8 x9 := by rw [← hbe]; exact below_alloc (Below.refl _ _) _
  rw [hbe]
  obtain ⟨bk, hbk⟩ : ∃ b, x8.heap.size = b := ⟨_, rfl⟩
  have HBK := Aside0.mk (show w.heap.size ≤ bk by rw [← hbk]; exact HH.out.size)
  rw [hbk] at hblk ⊢
  have HBLK := Aside0.mk hblk
  clear hblk hbe hbk
  replace HM := Aside0.mk (Kd.R_below HM.out hb)
  replace Hr := Aside0.mk (Kd.R_below Hr.out hb)
  replace HH := Aside0.mk (below_step HH.out hb)
  clear hb
  have ORows := Aside0.mk (Kd.R_nil (Kd.raw 1) 32 x9 w.heap.size (fun _ => True))
  have PRows := ORows
  have QRows : Aside0 (∀ q, nilL.ownBlock = some q → nilL.ownBlock ≠ some q) := ⟨fun q e => by cases e⟩
  go_wp2_with fail
  refine (addRows_calls bk w.heap.size nilL nilL nilL nilL nilL nilL [nilL, nilL, nilL, nilL, nilL, nilL, nilL, nilL, nilL, nilL] [] [] Ar cr SR _ HBLK.out ORows.out PRows.out QRows.out Hr.out (by simp) (by simp) HH.out.size HBK.out HSR.out).mono ?_
  rintro en x10 ⟨pr, qr, ur, rfl, hblk, hp0, hp1, hsp, hu1, hk⟩
  replace HM := Aside0.mk (hk.R ORows.out PRows.out HBLK.out rfl (by decide) (by decide) HM.out)
  replace Hr := Aside0.mk (hk.R ORows.out PRows.out HBLK.out rfl (by decide) (by decide) Hr.out)
  have Cr := Aside0.mk (Kd.R_lower hu1 HH.out.size)
  replace HH := Aside0.mk (HH.out.trans (hk.under HH.out.size HBK.out (fun q e => Kd.R_base ORows.out q e) (fun q e => Kd.R_base PRows.out q e)))
  replace ORows := Aside0.mk hp0
  replace PRows := Aside0.mk hp1
  replace QRows := Aside0.mk hsp
  replace HBLK := Aside0.mk hblk
  clear hblk hp0 hp1 hsp hu1 hk
  go_wp2_with fail
  refine (NV.out _ (Kd.C_below HR2.out HH.out)).mono ?_
  rintro en x11 ⟨v, rfl, hR, hb⟩
  obtain ⟨Aq, cq, rfl⟩ := Kd.R_slice hR
  have Nrq : Aside0 (∀ q, (Value.slice Ar SR.length cr).ownBlock = some q → (Value.slice Aq SR.length cq).ownBlock ≠ some q) := ⟨fun q e1 e2 => by have h1 := Kd.R_lt Hr.out q e1; have h2 := Kd.R_base hR q e2; omega⟩
  have Hq := Aside0.mk (Kd.R_lower hR HH.out.size)
  clear hR
  replace HM := Aside0.mk (Kd.R_below HM.out hb)
  replace Hr := Aside0.mk (Kd.R_below Hr.out hb)
  replace Cr := Aside0.mk (Kd.R_below Cr.out hb)
  replace ORows := Aside0.mk (Kd.R_below ORows.out hb)
  replace PRows := Aside0.mk (Kd.R_below PRows.out hb)
  replace HBLK := Aside0.mk (blk_below HBLK.out hb)
  replace HH := Aside0.mk (below_step HH.out hb)
  clear hb
  go_wp2_with fail
  refine (addRows_calls bk w.heap.size nilL nilL nilL nilL pr qr [nilL, nilL, nilL, nilL, nilL, nilL, nilL, nilL, nilL, nilL] [.slice Ar SR.length cr] [ur] Aq cq SR _ HBLK.out ORows.out PRows.out QRows.out Hq.out (by simp) (by simp) HH.out.size HBK.out HSR.out).mono ?_
  rintro en x12 ⟨pq, qq, uq, rfl, hblk, hp0, hp1, hsp, hu1, hk⟩
  replace HM := Aside0.mk (hk.R ORows.out PRows.out HBLK.out rfl (by decide) (by decide) HM.out)
  replace Hr := Aside0.mk (hk.R ORows.out PRows.out HBLK.out rfl (by decide) (by decide) Hr.out)
  replace Cr := Aside0.mk (hk.R ORows.out PRows.out HBLK.out rfl (by decide) (by decide) Cr.out)
  replace Hq := Aside0.mk (hk.R ORows.out PRows.out HBLK.out rfl (by decide) (by decide) Hq.out)
  have Cq := Aside0.mk (Kd.R_lower hu1 HH.out.size)
  replace HH := Aside0.mk (HH.out.trans (hk.under HH.out.size HBK.out (fun q e => Kd.R_base ORows.out q e) (fun q e => Kd.R_base PRows.out q e)))
  replace ORows := Aside0.mk hp0
  replace PRows := Aside0.mk hp1
  replace QRows := Aside0.mk hsp
  replace HBLK := Aside0.mk hblk
  clear hblk hp0 hp1 hsp hu1 hk
  go_wp2_with fail
  refine (CN.out _ _ _ (lent_reads HM.out).1 (lent_reads HM.out).2).mono ?_
  rintro en x13 ⟨rfl, hb⟩
  replace HM := Aside0.mk (Kd.R_below HM.out hb)
  replace Hr := Aside0.mk (Kd.R_below Hr.out hb)
  replace Cr := Aside0.mk (Kd.R_below Cr.out hb)
  replace ORows := Aside0.mk (Kd.R_below ORows.out hb)
  replace PRows := Aside0.mk (Kd.R_below PRows.out hb)
  replace Hq := Aside0.mk (Kd.R_below Hq.out hb)
  replace Cq := Aside0.mk (Kd.R_below Cq.out hb)
  replace HBLK := Aside0.mk (blk_below HBLK.out hb)
  replace HH := Aside0.mk (below_step HH.out hb)
  clear hb
  go_wp2_with fail
  refine (QN.out _ (Kd.C_below HR2.out HH.out)).mono ?_
  rintro en x14 ⟨v, rfl, hR, hb⟩
  obtain ⟨A1', k1, rfl⟩ := Kd.R_slice hR
  have H1 := Aside0.mk (Kd.R_lower hR HH.out.size)
  clear hR
  replace HM := Aside0.mk (Kd.R_below HM.out hb)
  replace Hr := Aside0.mk (Kd.R_below Hr.out hb)
  replace Cr := Aside0.mk (Kd.R_below Cr.out hb)
  replace ORows := Aside0.mk (Kd.R_below ORows.out hb)
  replace PRows := Aside0.mk (Kd.R_below PRows.out hb)
  replace Hq := Aside0.mk (Kd.R_below Hq.out hb)
  replace Cq := Aside0.mk (Kd.R_below Cq.out hb)
  replace HBLK := Aside0.mk (blk_below HBLK.out hb)
  replace HH := Aside0.mk (below_step HH.out hb)
  clear hb
  go_wp2_with fail
  refine (sameRows_calls Ar A1' cr k1 SR _ (Kd.R_reads' Hr.out).2.2 (Kd.R_reads' H1.out).2.2 (Kd.R_reads' Hr.out).2.1 (Kd.R_reads' H1.out).2.1 (Nat.le_trans HSR.out (by decide))).mono ?_
  rintro en x15 ⟨rfl, hb⟩
  replace HM := Aside0.mk (Kd.R_below HM.out hb)
  replace Hr := Aside0.mk (Kd.R_below Hr.out hb)
  replace Cr := Aside0.mk (Kd.R_below Cr.out hb)
  replace ORows := Aside0.mk (Kd.R_below ORows.out hb)
  replace PRows := Aside0.mk (Kd.R_below PRows.out hb)
  replace Hq := Aside0.mk (Kd.R_below Hq.out hb)
  replace Cq := Aside0.mk (Kd.R_below Cq.out hb)
  replace H1 := Aside0.mk (Kd.R_below H1.out hb)
  replace HBLK := Aside0.mk (blk_below HBLK.out hb)
  replace HH := Aside0.mk (below_step HH.out hb)
  clear hb
  go_wp2_with fail
  refine (staysInts_calls gm cm A1 c1 l1 w.heap.size _ HM.out (Kd.C_below HR1.out HH.out) HC1.out HL1.out).mono ?_
  rintro en x16 ⟨rfl, hb⟩
  replace HM := Aside0.mk (Kd.R_below HM.out hb)
  replace Hr := Aside0.mk (Kd.R_below Hr.out hb)
  replace Cr := Aside0.mk (Kd.R_below Cr.out hb)
  replace ORows := Aside0.mk (Kd.R_below ORows.out hb)
  replace PRows := Aside0.mk (Kd.R_below PRows.out hb)
  replace Hq := Aside0.mk (Kd.R_below Hq.out hb)
  replace Cq := Aside0.mk (Kd.R_below Cq.out hb)
  replace H1 := Aside0.mk (Kd.R_below H1.out hb)
  replace HBLK := Aside0.mk (blk_below HBLK.out hb)
  replace HH := Aside0.mk (below_step HH.out hb)
  clear hb
  go_wp2_with fail
  refine (apartR_calls bk w.heap.size pq qq [(.slice Ar SR.length cr), (.slice Aq SR.length cq)] [ur, uq] [SR, SR] _ (blk_below HBLK.out (Below.refl x16.heap.size x16)) (Nat.le_trans HH.out.size (Below.refl x16.heap.size x16).size) (stat_two _ _ _ _ _ _ Nrq.out HSR.out HSR.out) (sta_two (Kd.R_below ORows.out (Below.refl x16.heap.size x16)) (Kd.R_below PRows.out (Below.refl x16.heap.size x16)) (Kd.R_below Hr.out (Below.refl x16.heap.size x16)) (Kd.R_below Cr.out (Below.refl x16.heap.size x16)) (Kd.R_below Hq.out (Below.refl x16.heap.size x16)) (Kd.R_below Cq.out (Below.refl x16.heap.size x16)))).mono ?_
  rintro en x17 ⟨rfl, hb⟩
  replace HH := Aside0.mk (HH.out.trans hb)
  clear hb
  go_wp2_with fail
  go_ret
  exact ⟨rfl, HH.out⟩
set_option maxRecDepth 100000 in
set_option maxHeartbeats 4000000 in
theorem backTells_out (a0 : ByteArray) (A1 : Option Addr) (c1 : Nat) (l1 : List Int) (a2 a3 a4 : Int) (A2 : Option Addr) (c2 : Nat) (l2 : List ByteArray) (w : World) (hC2 : Kd.C Kd.string w A2 l2.length l2) (hc2 : l2.length ≤ c2)
    (hs : ∀ s ∈ l2, s.size ≤ 140737488351232) (hl : l2.length * 16 ≤ 140737488351232) (h : 60 < a0.size ∨ 160 < l1.length ∨ fewB l2 = false) :
    Calls Tryz.prog 3 #[.string a0, .slice A1 l1.length c1, .int .i64 a2, .int .i64 a3, .int .i64 a4, .slice A2 l2.length c2] w fun e w' => e = .returned (.bool true) ∧ Below w.heap.size w w' := by
  obtain ⟨k8, e8⟩ := alive5_ev.rounds
  obtain ⟨fb, hfb⟩ : ∃ b, fewB l2 = b := ⟨_, rfl⟩
  have FC := Aside0.mk (scriniumlaw3_Few.calls (l2.length + 1) A2 c2 l2 fb w hC2 hc2 (by rw [few_all l2 hs hl _ (Nat.le_refl _), hfb]))
  have AL := Aside0.mk (fun w' => scriniumlaw5_alive.calls k8 true w' e8)
  clear hC2 hc2 hs hl e8
  by_cases h1 : 60 < a0.size
  · have d1 : decide ((60 : Int) < (a0.size : Int)) = true := decide_eq_true (by omega)
    clear h hfb FC
    go_enter Tryz.func3, Tryz.ntmps3
    go_wp2_with fail
    refine (AL.out _).mono ?_
    rintro en w2 ⟨rfl, hb⟩
    have HB2 := Aside0.mk hb
    clear hb
    go_wp2_with fail
    go_ret
    exact ⟨rfl, HB2.out⟩
  by_cases h2 : 160 < l1.length
  · have d1 : decide ((60 : Int) < (a0.size : Int)) = false := decide_eq_false (by omega)
    have d2 : decide ((160 : Int) < (l1.length : Int)) = true := decide_eq_true (by omega)
    clear h hfb FC
    go_enter Tryz.func3, Tryz.ntmps3
    go_wp2_with fail
    refine (AL.out _).mono ?_
    rintro en w2 ⟨rfl, hb⟩
    have HB2 := Aside0.mk hb
    clear hb
    go_wp2_with fail
    go_ret
    exact ⟨rfl, HB2.out⟩
  · have d1 : decide ((60 : Int) < (a0.size : Int)) = false := decide_eq_false (by omega)
    have d2 : decide ((160 : Int) < (l1.length : Int)) = false := decide_eq_false (by omega)
    obtain rfl : fb = false := by
      rcases h with h | h | h
      · exact absurd h h1
      · exact absurd h h2
      · rw [← hfb, h]
    clear h hfb
    go_enter Tryz.func3, Tryz.ntmps3
    go_wp2_with fail
    refine FC.out.mono ?_
    rintro en w1 ⟨rfl, hb⟩
    have HB1 := Aside0.mk hb.below
    clear hb
    go_wp2_with fail
    refine (AL.out _).mono ?_
    rintro en w2 ⟨rfl, hb⟩
    have HB2 := Aside0.mk (below_step HB1.out hb)
    clear hb
    go_wp2_with fail
    go_ret
    exact ⟨rfl, HB2.out⟩
theorem BackTells_all (a0 : ByteArray) (A1 : Option Addr) (c1 : Nat) (l1 : List Int) (a2 a3 a4 : Int) (A2 : Option Addr) (c2 : Nat) (l2 : List ByteArray) (w : World) (_ : a0.size ≤ 140737488351232) (hC1 : Kd.C (Kd.int .i64) w A1 l1.length l1) (hc1 : l1.length ≤ c1) (_ : ∀ x ∈ l1, (Lit.int .i64 x).wf = true) (_ : l1.length * 8 ≤ 140737488351232)
    (_ : (Lit.int .i64 a2).wf = true) (_ : (Lit.int .i64 a3).wf = true) (_ : (Lit.int .i64 a4).wf = true) (hC2 : Kd.C Kd.string w A2 l2.length l2) (hc2 : l2.length ≤ c2) (hs : ∀ s ∈ l2, s.size ≤ 140737488351232) (hl : l2.length * 16 ≤ 140737488351232) :
    Calls Tryz.prog 3 #[.string a0, .slice A1 l1.length c1, .int .i64 a2, .int .i64 a3, .int .i64 a4, .slice A2 l2.length c2] w fun e w' => e = .returned (.bool true) ∧ Below w.heap.size w w' := by
  by_cases h0 : a0.size ≤ 60
  · by_cases h1 : l1.length ≤ 160
    · cases hf : fewB l2 with
      | true => exact backTells_main a0 A1 c1 l1 a2 a3 a4 A2 c2 l2 w hC1 hc1 hC2 hc2 hs hl h0 h1 hf
      | false => exact backTells_out a0 A1 c1 l1 a2 a3 a4 A2 c2 l2 w hC2 hc2 hs hl (Or.inr (Or.inr hf))
    · exact backTells_out a0 A1 c1 l1 a2 a3 a4 A2 c2 l2 w hC2 hc2 hs hl (Or.inr (Or.inl (by omega)))
  · exact backTells_out a0 A1 c1 l1 a2 a3 a4 A2 c2 l2 w hC2 hc2 hs hl (Or.inl (by omega))
end Go.Proofs.YtkcpkecaliegfaaGreat.P
