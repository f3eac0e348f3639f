/- The statement RowsTells: its walk. Conditions: the row's. (Printed by genrt.py.) -/
import Derived.Test.YthoapfagcdbpeaaPure0
import Derived.Test.YthoapfagcdbpeaaRefSyms
import Derived.Test.YthoapfagcdbpeaaBkApIR
import Derived.Test.YthoapfagcdbpeaaBkTx
set_option linter.unusedVariables false
set_option linter.unusedSimpArgs false
namespace Go.Proofs.Ythoapfagcdbpeaa.P
open Go.RowKit Go.Proofs.YthoapfagcdbpeaaW.PrintWords Go.Proofs.YthoapfagcdbpeaaW.PrintLast Go.Proofs.YthoapfagcdbpeaaW.PrintMore

theorem doc_small {l : List ByteArray} (hs : ∀ s ∈ l, s.size ≤ 140737488351232) (d : Int) : (docAt l d).size ≤ 140737488351232 := by
  unfold docAt rdOf
  rw [List.getD_eq_getElem?_getD]
  by_cases h : d.toNat < l.length
  · rw [List.getElem?_eq_getElem h]
    exact hs _ (List.getElem_mem h)
  · rw [List.getElem?_eq_none (by omega)]
    exact Nat.zero_le _
def rowsTells.T9 : Bool × List (List Nat × List Nat) := (true, [([], []), ([], []), ([1], [1]), ([0, 2, 2], [0, 2]), ([3, 3], [3]), ([4], [4]), ([4], [4]), ([6, 4, 4], [4, 6]), ([5, 7, 7, 4], [4, 5, 7]), ([4, 8], [4, 8]), ([9, 8], [9]), ([10], [10]), ([10], [10]), ([10], [10]), ([11, 12, 13, 10, 10], [10, 11, 12, 13]), ([10], [10]), ([10], [10]), ([10], [10]), ([15, 16, 17, 14, 10], [10, 15, 16, 17]), ([14, 18, 10], [10, 14, 18]), ([10, 19], [10, 19]), ([20, 18], [20]), ([21], [21]), ([22, 21, 21], [21, 22]), ([21], [21]), ([24, 23, 21], [21, 24]), ([23, 25, 21], [21, 23, 25]), ([21, 26], [21, 26]), ([27, 25], [27]), ([28], [28]), ([28], [28]), ([29, 30, 28, 28], [28, 29, 30]), ([28, 31], [28, 31]), ([32, 31], [32]), ([33], [33]), ([34, 33, 33], [33, 34]), ([33, 35], [33, 35]), ([36, 35, 0, 1, 2, 3, 4, 5, 6, 7, 8, 9, 10, 11, 12, 13, 14, 15, 16, 17, 18, 19, 20, 21, 22, 23, 24, 25, 26, 27, 28, 29, 30, 31, 32, 33, 34, 35, 36], [36])])
def rowsTells.B9 : List Nat := [0, 0, 2, 7, 15, 31, 31, 95, 255, 511, 1023, 2047, 2047, 2047, 16383, 2047, 2047, 2047, 262143, 524287, 1048575, 2097151, 4194303, 8388607, 4194303, 33554431, 67108863, 134217727, 268435455, 536870911, 536870911, 2147483647, 4294967295, 8589934591, 17179869183, 34359738367, 68719476735, 137438953471]
theorem rowsTells.tab9 : rtab .any (opsOf Try.f3 9) = rowsTells.T9 := by kernel_rfl
theorem rowsTells.bits9 : waitsOk rowsTells.T9.2 rowsTells.B9 = true := by kernel_rfl
set_option maxRecDepth 100000 in
set_option maxHeartbeats 8000000 in
theorem rowsTells_main (A0 : Option Addr) (c0 : Nat) (l0 : List ByteArray) (a0 a1 b0 b1 : Int) (w : World) (hC : Kd.C Kd.string w A0 l0.length l0) (hc : l0.length ≤ c0) (hs : ∀ s ∈ l0, s.size ≤ 140737488351232) (hl : l0.length * 16 ≤ 140737488351232) (hf : fewB l0 = true) :
    Calls Try.prog 3 #[.slice A0 l0.length c0, .agg #[.int .i64 a0, .int .i64 a1], .agg #[.int .i64 b0, .int .i64 b1]] w fun e w' => e = .returned (.bool true) ∧ Below w.heap.size w w' := by
  have hll : l0.length ≤ 14 := by
    unfold fewB at hf
    simp only [Bool.and_eq_true, decide_eq_true_eq] at hf
    omega
  obtain ⟨SR, hSR⟩ : ∃ q, sortedRows l0 = q := ⟨_, rfl⟩
  obtain ⟨SI, hSI⟩ : ∃ q, symbolsOf l0 = q := ⟨_, rfl⟩
  have FC := Aside0.mk (fun w' (h : Kd.C Kd.string w' A0 l0.length l0) => scriniumlaw3_Few.calls (l0.length + 1) A0 c0 l0 true w' h hc (by rw [few_all l0 hs hl _ (Nat.le_refl _), hf]))
  have AL := Aside0.mk (fun w' => scriniumlaw3_alive.calls 5 true w' (alive_ok 5 (Nat.le_refl _)))
  have LN := Aside0.mk (fun w' (h : Kd.C Kd.string w' A0 l0.length l0) => lentTexts_calls A0 c0 l0 w' h hc (by omega))
  have SO := Aside0.mk (fun A c w' (h : Kd.C Kd.string w' A l0.length l0) (h2 : l0.length ≤ c) => rows_Sorted.calls A c l0 SR w' h h2 (by unfold rows_Sorted.f; rw [hSR]))
  have SY := Aside0.mk (fun A c w' (h : Kd.C Kd.string w' A l0.length l0) (h2 : l0.length ≤ c) => rows_Symbols.calls 411 A c l0 SI w' h h2 (by rw [symbols_ok l0 411 (Nat.le_refl _), hSI]))
  have RS := Aside0.mk (fun w' (h : Kd.C Kd.string w' A0 l0.length l0) => scriniumref1_Sorted.calls A0 c0 l0 SR w' h hc (by unfold scriniumref1_Sorted.f; rw [if_pos (by omega), hSR]))
  have RY := Aside0.mk (fun w' (h : Kd.C Kd.string w' A0 l0.length l0) => scriniumref1_Symbols.calls 411 A0 c0 l0 SI w' h hc (by rw [refSyms_ok l0 (by omega) 411 (Nat.le_refl _), hSI]))
  obtain ⟨lb, hlb⟩ : ∃ b, lessB l0 a0 a1 b0 b1 = b := ⟨_, rfl⟩
  obtain ⟨rb, hrb⟩ : ∃ b, rightB l0 = b := ⟨_, rfl⟩
  have LE := Aside0.mk (fun A c w' (h : Kd.C Kd.string w' A l0.length l0) (h2 : l0.length ≤ c) => rows_Less.calls A c l0 a0 a1 b0 b1 lb w' h h2 (by unfold rows_Less.f; rw [if_pos (doc_small hs a0), hlb]))
  have RL := Aside0.mk (fun w' (h : Kd.C Kd.string w' A0 l0.length l0) => scriniumref1_Less.calls _ A0 c0 l0 a0 a1 b0 b1 lb w' h hc (by rw [refLess_ok l0 a0 a1 b0 b1 (doc_small hs a0) _ (Nat.le_refl _), hlb]))
  have RT := Aside0.mk (fun A c w' (h : Kd.C Kd.string w' A l0.length l0) (h2 : l0.length ≤ c) => rows_Right.calls A c l0 rb w' h h2 (by unfold rows_Right.f; rw [hrb]))
  have RR := Aside0.mk (fun w' (h : Kd.C Kd.string w' A0 l0.length l0) => scriniumref1_Right.calls (l0.length + 1) A0 c0 l0 rb w' h hc (by rw [refRight_ok l0 (by omega) _ (Nat.le_refl _), hrb]))
  have HSR : Aside0 (SR.length ≤ 900000) := ⟨by rw [← hSR]; have := sortedRows_le l0; omega⟩
  have HSI : Aside0 (SI.length ≤ 900000) := ⟨by rw [← hSI, symbolsOf_length]; have := sortedRows_le l0; omega⟩
  have HR := Aside0.mk hC
  have HC0 := Aside0.mk hc
  have HLL : Aside0 (l0.length ≤ 900000) := ⟨by omega⟩
  clear hC hc hs hl hf hll hSR hSI hlb hrb
  go_enter Try.func3, Try.ntmps3
  go_wp2_with fail
  obtain ⟨wb, hwb⟩ : ∃ x, (w.alloc (.cells #[.int .i64 a0, .int .i64 a1] 24)).alloc (.cells #[.int .i64 b0, .int .i64 b1] 24) = x := ⟨_, rfl⟩
  have hb0 : Below w.heap.size w wb := by rw [← hwb]; exact below_alloc (below_alloc (Below.refl _ _) _) _
  have hbx : wb.heap[w.heap.size]? = some (.cells #[.int .i64 a0, .int .i64 a1] 24 (0, 0)) := by rw [← hwb]; exact blk_alloc (heap_alloc_new _ _) _
  have hby : wb.heap[w.heap.size + 1]? = some (.cells #[.int .i64 b0, .int .i64 b1] 24 (0, 0)) := by rw [← hwb, ← size_alloc w (.cells #[.int .i64 a0, .int .i64 a1] 24)]; exact heap_alloc_new _ _
  rw [hwb]
  obtain ⟨bx, hbxe⟩ : ∃ b, w.heap.size = b := ⟨_, rfl⟩
  obtain ⟨by_, hbye⟩ : ∃ b, w.heap.size + 1 = b := ⟨_, rfl⟩
  have HW := Aside0.mk hb0
  have HRb := Aside0.mk (Kd.C_below HR.out hb0)
  have HBX := Aside0.mk hbx
  have HBY := Aside0.mk hby
  rw [hbxe] at HBX
  rw [hbye] at HBY
  rw [hbye]
  rw [hbxe]
  clear hb0 hbx hby hwb hbxe hbye
  have HH := Aside0.mk (Below.refl wb.heap.size wb)
  refine (FC.out _ HRb.out).mono ?_
  rintro en x0 ⟨rfl, hb⟩
  replace hb := hb.below
  replace HH := Aside0.mk (below_step HH.out hb)
  clear hb
  go_wp2_with fail
  refine (AL.out _).mono ?_
  rintro en x1 ⟨rfl, hb⟩
  replace HH := Aside0.mk (below_step HH.out hb)
  clear hb
  go_wp2_with fail
  refine (LN.out _ (Kd.C_below HRb.out HH.out)).mono ?_
  rintro en x2 ⟨gm, cm, rfl, hR, hb⟩
  have HM := Aside0.mk (Kd.R_lower hR HH.out.size)
  clear hR
  replace HH := Aside0.mk (below_step HH.out hb)
  clear hb
  go_wp2_with fail
  refine (SO.out _ _ _ (lent_reads HM.out).1 (lent_reads HM.out).2).mono ?_
  rintro en x3 ⟨v, rfl, hR, hb⟩
  obtain ⟨Ar, cr, rfl⟩ := Kd.R_slice hR
  have Hr := Aside0.mk (Kd.R_lower hR HH.out.size)
  clear hR
  replace HM := Aside0.mk (Kd.R_below HM.out hb)
  replace HH := Aside0.mk (below_step HH.out hb)
  clear hb
  go_wp2_with fail
  refine (SY.out _ _ _ (lent_reads HM.out).1 (lent_reads HM.out).2).mono ?_
  rintro en x4 ⟨v, rfl, hR, hb⟩
  obtain ⟨As, cs, rfl⟩ := Kd.R_slice hR
  have Hs := Aside0.mk (Kd.R_lower hR HH.out.size)
  clear hR
  replace HM := Aside0.mk (Kd.R_below HM.out hb)
  replace Hr := Aside0.mk (Kd.R_below Hr.out hb)
  replace HH := Aside0.mk (below_step HH.out hb)
  clear hb
  go_wp2_with fail
  obtain ⟨x5, hbe⟩ : ∃ x, x4.alloc (.cells #[.slice none 0 0, .slice none 0 0, .slice none 0 0, .slice none 0 0, .slice none 0 0, .slice none 0 0, .slice none 0 0, .slice none 0 0, .slice none 0 0, .slice none 0 0, .slice none 0 0, .slice none 0 0, .slice none 0 0, .slice none 0 0, .slice none 0 0, .slice none 0 0] 42) = x := ⟨_, rfl⟩
  have hblk : x5.heap[x4.heap.size]? = some (.cells [nilL, nilL, nilL, nilL, nilL, nilL, nilL, nilL, nilL, nilL, nilL, nilL, nilL, nilL, nilL, nilL].toArray 42 (0, 0)) := by rw [← hbe]; exact heap_alloc_new _ _
  have hb : Below x4.heap.size x4 x5 := by rw [← hbe]; exact below_alloc (Below.refl _ _) _
  rw [hbe]
  obtain ⟨bk, hbk⟩ : ∃ b, x4.heap.size = b := ⟨_, rfl⟩
  have HBK := Aside0.mk (show wb.heap.size ≤ bk by rw [← hbk]; exact HH.out.size)
  rw [hbk] at hblk ⊢
  have HBLK := Aside0.mk hblk
  clear hblk hbe hbk
  replace HM := Aside0.mk (Kd.R_below HM.out hb)
  replace Hr := Aside0.mk (Kd.R_below Hr.out hb)
  replace Hs := Aside0.mk (Kd.R_below Hs.out hb)
  replace HH := Aside0.mk (below_step HH.out hb)
  clear hb
  have ORows := Aside0.mk (Kd.R_nil (Kd.raw 1) 28 x5 wb.heap.size (fun _ => True))
  have PRows := ORows
  have QRows : Aside0 (∀ q, nilL.ownBlock = some q → nilL.ownBlock ≠ some q) := ⟨fun q e => by cases e⟩
  go_wp2_with fail
  refine (addRows_calls bk wb.heap.size nilL nilL nilL nilL nilL nilL [nilL, nilL, nilL, nilL, nilL, nilL, nilL, nilL, nilL, nilL] [] [] Ar cr SR _ HBLK.out ORows.out PRows.out QRows.out Hr.out (by simp) (by simp) HH.out.size HBK.out HSR.out).mono ?_
  rintro en x6 ⟨pr, qr, ur, rfl, hblk, hp0, hp1, hsp, hu1, hk⟩
  replace HM := Aside0.mk (hk.R ORows.out PRows.out HBLK.out rfl (by decide) (by decide) HM.out)
  replace Hr := Aside0.mk (hk.R ORows.out PRows.out HBLK.out rfl (by decide) (by decide) Hr.out)
  replace Hs := Aside0.mk (hk.R ORows.out PRows.out HBLK.out rfl (by decide) (by decide) Hs.out)
  have Cr := Aside0.mk (Kd.R_lower hu1 HH.out.size)
  replace HH := Aside0.mk (HH.out.trans (hk.under HH.out.size HBK.out (fun q e => Kd.R_base ORows.out q e) (fun q e => Kd.R_base PRows.out q e)))
  replace ORows := Aside0.mk hp0
  replace PRows := Aside0.mk hp1
  replace QRows := Aside0.mk hsp
  replace HBLK := Aside0.mk hblk
  clear hblk hp0 hp1 hsp hu1 hk
  have OInts := Aside0.mk (Kd.R_nil (Kd.raw 1) 30 x6 wb.heap.size (fun _ => True))
  have PInts := OInts
  have QInts : Aside0 (∀ q, nilL.ownBlock = some q → nilL.ownBlock ≠ some q) := ⟨fun q e => by cases e⟩
  go_wp2_with fail
  refine (addInts_calls bk wb.heap.size  nilL nilL [nilL, nilL, pr, qr, nilL, nilL, nilL, nilL, nilL, nilL, nilL, nilL, nilL, nilL] [] [] As cs SI _ HBLK.out OInts.out PInts.out QInts.out Hs.out (by simp) (by simp) HH.out.size HBK.out HSI.out).mono ?_
  rintro en x7 ⟨ps, qs, us, rfl, hblk, hp0, hp1, hsp, hu1, hk⟩
  replace HM := Aside0.mk (hk.R OInts.out PInts.out HBLK.out rfl (by decide) (by decide) HM.out)
  replace Hr := Aside0.mk (hk.R OInts.out PInts.out HBLK.out rfl (by decide) (by decide) Hr.out)
  replace Hs := Aside0.mk (hk.R OInts.out PInts.out HBLK.out rfl (by decide) (by decide) Hs.out)
  replace Cr := Aside0.mk (hk.R OInts.out PInts.out HBLK.out rfl (by decide) (by decide) Cr.out)
  replace ORows := Aside0.mk (hk.R OInts.out PInts.out HBLK.out rfl (by decide) (by decide) ORows.out)
  replace PRows := Aside0.mk (hk.R OInts.out PInts.out HBLK.out rfl (by decide) (by decide) PRows.out)
  have Cs := Aside0.mk (Kd.R_lower hu1 HH.out.size)
  replace HH := Aside0.mk (HH.out.trans (hk.under HH.out.size HBK.out (fun q e => Kd.R_base OInts.out q e) (fun q e => Kd.R_base PInts.out q e)))
  replace OInts := Aside0.mk hp0
  replace PInts := Aside0.mk hp1
  replace QInts := Aside0.mk hsp
  replace HBLK := Aside0.mk hblk
  clear hblk hp0 hp1 hsp hu1 hk
  go_wp2_with fail
  refine (SO.out _ _ _ (lent_reads HM.out).1 (lent_reads HM.out).2).mono ?_
  rintro en x8 ⟨v, rfl, hR, hb⟩
  obtain ⟨Aq, cq, rfl⟩ := Kd.R_slice hR
  have Nrq : Aside0 (∀ q, (Value.slice Ar SR.length cr).ownBlock = some q → (Value.slice Aq SR.length cq).ownBlock ≠ some q) := ⟨fun q e1 e2 => by have h1 := Kd.R_lt Hr.out q e1; have h2 := Kd.R_base hR q e2; omega⟩
  have Hq := Aside0.mk (Kd.R_lower hR HH.out.size)
  clear hR
  replace HM := Aside0.mk (Kd.R_below HM.out hb)
  replace Hr := Aside0.mk (Kd.R_below Hr.out hb)
  replace Hs := Aside0.mk (Kd.R_below Hs.out hb)
  replace Cr := Aside0.mk (Kd.R_below Cr.out hb)
  replace ORows := Aside0.mk (Kd.R_below ORows.out hb)
  replace PRows := Aside0.mk (Kd.R_below PRows.out hb)
  replace Cs := Aside0.mk (Kd.R_below Cs.out hb)
  replace OInts := Aside0.mk (Kd.R_below OInts.out hb)
  replace PInts := Aside0.mk (Kd.R_below PInts.out hb)
  replace HBLK := Aside0.mk (blk_below HBLK.out hb)
  replace HH := Aside0.mk (below_step HH.out hb)
  clear hb
  go_wp2_with fail
  refine (addRows_calls bk wb.heap.size ps qs nilL nilL pr qr [nilL, nilL, nilL, nilL, nilL, nilL, nilL, nilL, nilL, nilL] [.slice Ar SR.length cr] [ur] Aq cq SR _ HBLK.out ORows.out PRows.out QRows.out Hq.out (by simp) (by simp) HH.out.size HBK.out HSR.out).mono ?_
  rintro en x9 ⟨pq, qq, uq, rfl, hblk, hp0, hp1, hsp, hu1, hk⟩
  replace HM := Aside0.mk (hk.R ORows.out PRows.out HBLK.out rfl (by decide) (by decide) HM.out)
  replace Hr := Aside0.mk (hk.R ORows.out PRows.out HBLK.out rfl (by decide) (by decide) Hr.out)
  replace Hs := Aside0.mk (hk.R ORows.out PRows.out HBLK.out rfl (by decide) (by decide) Hs.out)
  replace Cr := Aside0.mk (hk.R ORows.out PRows.out HBLK.out rfl (by decide) (by decide) Cr.out)
  replace Cs := Aside0.mk (hk.R ORows.out PRows.out HBLK.out rfl (by decide) (by decide) Cs.out)
  replace OInts := Aside0.mk (hk.R ORows.out PRows.out HBLK.out rfl (by decide) (by decide) OInts.out)
  replace PInts := Aside0.mk (hk.R ORows.out PRows.out HBLK.out rfl (by decide) (by decide) PInts.out)
  replace Hq := Aside0.mk (hk.R ORows.out PRows.out HBLK.out rfl (by decide) (by decide) Hq.out)
  have Cq := Aside0.mk (Kd.R_lower hu1 HH.out.size)
  replace HH := Aside0.mk (HH.out.trans (hk.under HH.out.size HBK.out (fun q e => Kd.R_base ORows.out q e) (fun q e => Kd.R_base PRows.out q e)))
  replace ORows := Aside0.mk hp0
  replace PRows := Aside0.mk hp1
  replace QRows := Aside0.mk hsp
  replace HBLK := Aside0.mk hblk
  clear hblk hp0 hp1 hsp hu1 hk
  go_wp2_with fail
  have y0 : wb.cell? ⟨bx, 0, none⟩ = some (.int .i64 a0) := (blk_cell HBX.out 0).trans rfl
  have y1 : wb.cell? ⟨bx, 1, none⟩ = some (.int .i64 a1) := (blk_cell HBX.out 1).trans rfl
  have y2 : wb.cell? ⟨by_, 0, none⟩ = some (.int .i64 b0) := (blk_cell HBY.out 0).trans rfl
  have y3 : wb.cell? ⟨by_, 1, none⟩ = some (.int .i64 b1) := (blk_cell HBY.out 1).trans rfl
  have HZ := Aside0.mk (below_drew1 (Below.refl x9.heap.size x9))
  refine start_ (n := 38) (S := fun w' => Below wb.heap.size wb w') (ds := []) #[false, false, false, false, false, false, false, false, false, false, false, false, false, false, false, false, false, false, false, false, false, false, false, false, false, false, false, false, false, false, false, false, false, false, false, false, false, false] (by kernel_rfl) rfl rfl (below_drew1 HH.out) (fun hHeld => ?_)
  refine with_tabW rowsTells.tab9 rowsTells.bits9 (fun HT_ HW_ => ?_)
  refine take_ (i := 0) (N := some 37) (v := ?_) (a' := ?_) #[true, false, false, false, false, false, false, false, false, false, false, false, false, false, false, false, false, false, false, false, false, false, false, false, false, false, false, false, false, false, false, false, false, false, false, false, false, false] rfl rfl (take_ofW HT_.out HW_.out (by kernel_rfl)) (fun _ _ _ h => h) (Or.inl ⟨by rfl, ?_⟩) hHeld ?_ ?_
  rotate_left
  · intro w' s
    go_simp
    with_reducible rfl
  rotate_left
  · simp only [Act.put, List.setIfInBounds_toArray, List.set_cons_zero, List.set_cons_succ, i64_w, i32_w]
    rfl
  refine take_ (i := 1) (N := some 38) (v := ?_) (a' := ?_) #[true, true, false, false, false, false, false, false, false, false, false, false, false, false, false, false, false, false, false, false, false, false, false, false, false, false, false, false, false, false, false, false, false, false, false, false, false, false] rfl rfl (take_ofW HT_.out HW_.out (by kernel_rfl)) (fun _ _ _ h => h) (Or.inl ⟨by rfl, ?_⟩) hHeld ?_ ?_
  rotate_left
  · intro w' s
    go_simp
    with_reducible rfl
  rotate_left
  · simp only [Act.put, List.setIfInBounds_toArray, List.set_cons_zero, List.set_cons_succ, i64_w, i32_w]
    rfl
  refine one_ (i := 2) (N := some 39) #[true, true, true, false, false, false, false, false, false, false, false, false, false, false, false, false, false, false, false, false, false, false, false, false, false, false, false, false, false, false, false, false, false, false, false, false, false, false] rfl rfl (one_of HT_.out (by kernel_rfl)) (by decide) (fun K hK => ?_)
  refine goes_ Try.func21 (by kernel_rfl) rfl #[.slice A0 l0.length c0] (by rfl) rfl rfl (by (try simp only [List.map_toArray, List.map_cons, List.map_nil]); first | done | rfl | (simp only [List.length_drop, List.length_take]; rfl)) ?_
  refine (RS.out _ (Kd.C_below HRb.out hHeld)).mono ?_
  rintro en v1 ⟨v, rfl, hR, hb⟩
  obtain ⟨A1, k1, rfl⟩ := Kd.R_slice hR
  refine ⟨_, rfl, ?_⟩
  have H1 := Aside0.mk hR
  clear hR
  replace HZ := Aside0.mk (below_step HZ.out hb)
  refine hK.out _ _ (below_step hHeld hb) (fun hHeld => ?_)
  clear hb
  clear hK K
  refine norm_ (a' := ?_) ?_ ?_
  rotate_left
  · show Act.put _ (some 39) _ = _
    simp only [Act.put, List.setIfInBounds_toArray, List.set_cons_zero, List.set_cons_succ, i64_w, i32_w]
    rfl
  refine one_ (i := 3) (N := some 40) #[true, true, true, true, false, false, false, false, false, false, false, false, false, false, false, false, false, false, false, false, false, false, false, false, false, false, false, false, false, false, false, false, false, false, false, false, false, false] rfl rfl (one_of HT_.out (by kernel_rfl)) (by decide) (fun K hK => ?_)
  refine goes_ Try.func20 (by kernel_rfl) rfl #[.slice Ar SR.length cr, .slice A1 SR.length k1] (by rfl) rfl rfl (by (try simp only [List.map_toArray, List.map_cons, List.map_nil]); first | done | rfl | (simp only [List.length_drop, List.length_take]; rfl)) ?_
  refine (sameRows_calls Ar A1 cr k1 SR _ (Kd.R_reads' (Kd.R_below Hr.out HZ.out)).2.2 (Kd.R_reads' H1.out).2.2 (Kd.R_reads' (Kd.R_below Hr.out HZ.out)).2.1 (Kd.R_reads' H1.out).2.1 (Nat.le_trans HSR.out (by decide))).mono ?_
  rintro en v2 ⟨rfl, hb⟩
  refine ⟨_, rfl, ?_⟩
  replace HZ := Aside0.mk (below_step HZ.out hb)
  refine hK.out _ _ (below_step hHeld hb) (fun hHeld => ?_)
  clear hb
  clear hK K
  refine norm_ (a' := ?_) ?_ ?_
  rotate_left
  · show Act.put _ (some 40) _ = _
    simp only [Act.put, List.setIfInBounds_toArray, List.set_cons_zero, List.set_cons_succ, i64_w, i32_w]
    rfl
  refine take_ (i := 4) (N := some 41) (v := ?_) (a' := ?_) #[true, true, true, true, true, false, false, false, false, false, false, false, false, false, false, false, false, false, false, false, false, false, false, false, false, false, false, false, false, false, false, false, false, false, false, false, false, false] rfl rfl (take_ofW HT_.out HW_.out (by kernel_rfl)) (fun _ _ _ h => h) (Or.inl ⟨by rfl, ?_⟩) hHeld ?_ ?_
  rotate_left
  · intro w' s
    go_simp
    with_reducible rfl
  rotate_left
  · simp only [Act.put, List.setIfInBounds_toArray, List.set_cons_zero, List.set_cons_succ, i64_w, i32_w]
    rfl
  refine take_ (i := 5) (N := some 42) (v := ?_) (a' := ?_) #[true, true, true, true, true, true, false, false, false, false, false, false, false, false, false, false, false, false, false, false, false, false, false, false, false, false, false, false, false, false, false, false, false, false, false, false, false, false] rfl rfl (take_ofW HT_.out HW_.out (by kernel_rfl)) (fun _ _ _ h => h) (Or.inl ⟨by rfl, ?_⟩) hHeld ?_ ?_
  rotate_left
  · intro w' s
    go_simp
    with_reducible rfl
  rotate_left
  · simp only [Act.put, List.setIfInBounds_toArray, List.set_cons_zero, List.set_cons_succ, i64_w, i32_w]
    rfl
  refine take_ (i := 6) (N := some 43) (v := ?_) (a' := ?_) #[true, true, true, true, true, true, true, false, false, false, false, false, false, false, false, false, false, false, false, false, false, false, false, false, false, false, false, false, false, false, false, false, false, false, false, false, false, false] rfl rfl (take_ofW HT_.out HW_.out (by kernel_rfl)) (fun _ _ _ h => h) (Or.inl ⟨by rfl, ?_⟩) hHeld ?_ ?_
  rotate_left
  · intro w' s
    go_simp
    with_reducible rfl
  rotate_left
  · simp only [Act.put, List.setIfInBounds_toArray, List.set_cons_zero, List.set_cons_succ, i64_w, i32_w]
    rfl
  refine one_ (i := 7) (N := some 44) #[true, true, true, true, true, true, true, true, false, false, false, false, false, false, false, false, false, false, false, false, false, false, false, false, false, false, false, false, false, false, false, false, false, false, false, false, false, false] rfl rfl (one_of HT_.out (by kernel_rfl)) (by decide) (fun K hK => ?_)
  refine goes_ Try.func23 (by kernel_rfl) rfl #[.slice A0 l0.length c0] (by rfl) rfl rfl (by (try simp only [List.map_toArray, List.map_cons, List.map_nil]); first | done | rfl | (simp only [List.length_drop, List.length_take]; rfl)) ?_
  refine (RY.out _ (Kd.C_below HRb.out hHeld)).mono ?_
  rintro en v3 ⟨v, rfl, hR, hb⟩
  obtain ⟨A3, k3, rfl⟩ := Kd.R_slice hR
  refine ⟨_, rfl, ?_⟩
  have H3 := Aside0.mk hR
  clear hR
  replace HZ := Aside0.mk (below_step HZ.out hb)
  refine hK.out _ _ (below_step hHeld hb) (fun hHeld => ?_)
  clear hb
  clear hK K
  refine norm_ (a' := ?_) ?_ ?_
  rotate_left
  · show Act.put _ (some 44) _ = _
    simp only [Act.put, List.setIfInBounds_toArray, List.set_cons_zero, List.set_cons_succ, i64_w, i32_w]
    rfl
  refine one_ (i := 8) (N := some 45) #[true, true, true, true, true, true, true, true, true, false, false, false, false, false, false, false, false, false, false, false, false, false, false, false, false, false, false, false, false, false, false, false, false, false, false, false, false, false] rfl rfl (one_of HT_.out (by kernel_rfl)) (by decide) (fun K hK => ?_)
  refine goes_ Try.func22 (by kernel_rfl) rfl #[.slice As SI.length cs, .slice A3 SI.length k3] (by rfl) rfl rfl (by (try simp only [List.map_toArray, List.map_cons, List.map_nil]); first | done | rfl | (simp only [List.length_drop, List.length_take]; rfl)) ?_
  refine (sameInts_calls As A3 cs k3 SI _ (Kd.R_reads' (Kd.R_below Hs.out HZ.out)).2.2 (Kd.R_reads' H3.out).2.2 (Kd.R_reads' (Kd.R_below Hs.out HZ.out)).2.1 (Kd.R_reads' H3.out).2.1 (Nat.le_trans HSI.out (by decide))).mono ?_
  rintro en v4 ⟨rfl, hb⟩
  refine ⟨_, rfl, ?_⟩
  replace HZ := Aside0.mk (below_step HZ.out hb)
  refine hK.out _ _ (below_step hHeld hb) (fun hHeld => ?_)
  clear hb
  clear hK K
  refine norm_ (a' := ?_) ?_ ?_
  rotate_left
  · show Act.put _ (some 45) _ = _
    simp only [Act.put, List.setIfInBounds_toArray, List.set_cons_zero, List.set_cons_succ, i64_w, i32_w]
    rfl
  refine take_ (i := 9) (N := some 46) (v := ?_) (a' := ?_) #[true, true, true, true, true, true, true, true, true, true, false, false, false, false, false, false, false, false, false, false, false, false, false, false, false, false, false, false, false, false, false, false, false, false, false, false, false, false] rfl rfl (take_ofW HT_.out HW_.out (by kernel_rfl)) (fun _ _ _ h => h) (Or.inl ⟨by rfl, ?_⟩) hHeld ?_ ?_
  rotate_left
  · intro w' s
    go_simp
    with_reducible rfl
  rotate_left
  · simp only [Act.put, List.setIfInBounds_toArray, List.set_cons_zero, List.set_cons_succ, i64_w, i32_w]
    rfl
  refine take_ (i := 10) (N := some 47) (v := ?_) (a' := ?_) #[true, true, true, true, true, true, true, true, true, true, true, false, false, false, false, false, false, false, false, false, false, false, false, false, false, false, false, false, false, false, false, false, false, false, false, false, false, false] rfl rfl (take_ofW HT_.out HW_.out (by kernel_rfl)) (fun _ _ _ h => h) (Or.inl ⟨by rfl, ?_⟩) hHeld ?_ ?_
  rotate_left
  · intro w' s
    go_simp
    with_reducible rfl
  rotate_left
  · simp only [Act.put, List.setIfInBounds_toArray, List.set_cons_zero, List.set_cons_succ, i64_w, i32_w]
    rfl
  refine take_ (i := 11) (N := some 48) (v := ?_) (a' := ?_) #[true, true, true, true, true, true, true, true, true, true, true, true, false, false, false, false, false, false, false, false, false, false, false, false, false, false, false, false, false, false, false, false, false, false, false, false, false, false] rfl rfl (take_ofW HT_.out HW_.out (by kernel_rfl)) (fun _ _ _ h => h) (Or.inl ⟨by rfl, ?_⟩) hHeld ?_ ?_
  rotate_left
  · intro w' s
    go_simp
    with_reducible rfl
  rotate_left
  · simp only [Act.put, List.setIfInBounds_toArray, List.set_cons_zero, List.set_cons_succ, i64_w, i32_w]
    rfl
  refine take_ (i := 12) (N := some 49) (v := ?_) (a' := ?_) #[true, true, true, true, true, true, true, true, true, true, true, true, true, false, false, false, false, false, false, false, false, false, false, false, false, false, false, false, false, false, false, false, false, false, false, false, false, false] rfl rfl (take_ofW HT_.out HW_.out (by kernel_rfl)) (fun _ _ _ h => h) (Or.inl ⟨by rfl, ?_⟩) hHeld ?_ ?_
  rotate_left
  · intro w' s
    have s0 := pw_cell_below s y0
    have s1 := pw_cell_below s y1
    have s2 := pw_cell_below s y2
    have s3 := pw_cell_below s y3
    go_simp
    with_reducible rfl
  rotate_left
  · simp only [Act.put, List.setIfInBounds_toArray, List.set_cons_zero, List.set_cons_succ, i64_w, i32_w]
    rfl
  refine take_ (i := 13) (N := some 50) (v := ?_) (a' := ?_) #[true, true, true, true, true, true, true, true, true, true, true, true, true, true, false, false, false, false, false, false, false, false, false, false, false, false, false, false, false, false, false, false, false, false, false, false, false, false] rfl rfl (take_ofW HT_.out HW_.out (by kernel_rfl)) (fun _ _ _ h => h) (Or.inl ⟨by rfl, ?_⟩) hHeld ?_ ?_
  rotate_left
  · intro w' s
    have s0 := pw_cell_below s y0
    have s1 := pw_cell_below s y1
    have s2 := pw_cell_below s y2
    have s3 := pw_cell_below s y3
    go_simp
    with_reducible rfl
  rotate_left
  · simp only [Act.put, List.setIfInBounds_toArray, List.set_cons_zero, List.set_cons_succ, i64_w, i32_w]
    rfl
  refine take_ (i := 15) (N := some 52) (v := ?_) (a' := ?_) #[true, true, true, true, true, true, true, true, true, true, true, true, true, true, false, true, false, false, false, false, false, false, false, false, false, false, false, false, false, false, false, false, false, false, false, false, false, false] rfl rfl (take_ofW HT_.out HW_.out (by kernel_rfl)) (fun _ _ _ h => h) (Or.inl ⟨by rfl, ?_⟩) hHeld ?_ ?_
  rotate_left
  · intro w' s
    go_simp
    with_reducible rfl
  rotate_left
  · simp only [Act.put, List.setIfInBounds_toArray, List.set_cons_zero, List.set_cons_succ, i64_w, i32_w]
    rfl
  refine take_ (i := 16) (N := some 53) (v := ?_) (a' := ?_) #[true, true, true, true, true, true, true, true, true, true, true, true, true, true, false, true, true, false, false, false, false, false, false, false, false, false, false, false, false, false, false, false, false, false, false, false, false, false] rfl rfl (take_ofW HT_.out HW_.out (by kernel_rfl)) (fun _ _ _ h => h) (Or.inl ⟨by rfl, ?_⟩) hHeld ?_ ?_
  rotate_left
  · intro w' s
    have s0 := pw_cell_below s y0
    have s1 := pw_cell_below s y1
    have s2 := pw_cell_below s y2
    have s3 := pw_cell_below s y3
    go_simp
    with_reducible rfl
  rotate_left
  · simp only [Act.put, List.setIfInBounds_toArray, List.set_cons_zero, List.set_cons_succ, i64_w, i32_w]
    rfl
  refine take_ (i := 17) (N := some 54) (v := ?_) (a' := ?_) #[true, true, true, true, true, true, true, true, true, true, true, true, true, true, false, true, true, true, false, false, false, false, false, false, false, false, false, false, false, false, false, false, false, false, false, false, false, false] rfl rfl (take_ofW HT_.out HW_.out (by kernel_rfl)) (fun _ _ _ h => h) (Or.inl ⟨by rfl, ?_⟩) hHeld ?_ ?_
  rotate_left
  · intro w' s
    have s0 := pw_cell_below s y0
    have s1 := pw_cell_below s y1
    have s2 := pw_cell_below s y2
    have s3 := pw_cell_below s y3
    go_simp
    with_reducible rfl
  rotate_left
  · simp only [Act.put, List.setIfInBounds_toArray, List.set_cons_zero, List.set_cons_succ, i64_w, i32_w]
    rfl
  refine one_ (i := 14) (N := some 51) #[true, true, true, true, true, true, true, true, true, true, true, true, true, true, true, true, true, true, false, false, false, false, false, false, false, false, false, false, false, false, false, false, false, false, false, false, false, false] rfl rfl (one_of HT_.out (by kernel_rfl)) (by decide) (fun K hK => ?_)
  refine goes_ Try.func24 (by kernel_rfl) rfl #[.slice (some ⟨gm, 0, none⟩) l0.length cm, .agg #[.int .i64 a0, .int .i64 a1], .agg #[.int .i64 b0, .int .i64 b1]] (by rfl) rfl rfl (by (try simp only [List.map_toArray, List.map_cons, List.map_nil]); first | done | rfl | (simp only [List.length_drop, List.length_take]; rfl)) ?_
  refine (LE.out _ _ _ (lent_reads (Kd.R_below HM.out HZ.out)).1 (lent_reads (Kd.R_below HM.out HZ.out)).2).mono ?_
  rintro en v5 ⟨rfl, hb⟩
  refine ⟨_, rfl, ?_⟩
  replace HZ := Aside0.mk (below_step HZ.out hb)
  refine hK.out _ _ (below_step hHeld hb) (fun hHeld => ?_)
  clear hb
  clear hK K
  refine norm_ (a' := ?_) ?_ ?_
  rotate_left
  · show Act.put _ (some 51) _ = _
    simp only [Act.put, List.setIfInBounds_toArray, List.set_cons_zero, List.set_cons_succ, i64_w, i32_w]
    rfl
  refine one_ (i := 18) (N := some 55) #[true, true, true, true, true, true, true, true, true, true, true, true, true, true, true, true, true, true, true, false, false, false, false, false, false, false, false, false, false, false, false, false, false, false, false, false, false, false] rfl rfl (one_of HT_.out (by kernel_rfl)) (by decide) (fun K hK => ?_)
  refine goes_ Try.func25 (by kernel_rfl) rfl #[.slice A0 l0.length c0, .agg #[.int .i64 a0, .int .i64 a1], .agg #[.int .i64 b0, .int .i64 b1]] (by rfl) rfl rfl (by (try simp only [List.map_toArray, List.map_cons, List.map_nil]); first | done | rfl | (simp only [List.length_drop, List.length_take]; rfl)) ?_
  refine (RL.out _ (Kd.C_below HRb.out hHeld)).mono ?_
  rintro en v6 ⟨rfl, hb⟩
  refine ⟨_, rfl, ?_⟩
  replace HZ := Aside0.mk (below_step HZ.out hb)
  refine hK.out _ _ (below_step hHeld hb) (fun hHeld => ?_)
  clear hb
  clear hK K
  refine norm_ (a' := ?_) ?_ ?_
  rotate_left
  · show Act.put _ (some 55) _ = _
    simp only [Act.put, List.setIfInBounds_toArray, List.set_cons_zero, List.set_cons_succ, i64_w, i32_w]
    rfl
  refine take_ (i := 19) (N := some 56) (v := ?_) (a' := ?_) #[true, true, true, true, true, true, true, true, true, true, true, true, true, true, true, true, true, true, true, true, false, false, false, false, false, false, false, false, false, false, false, false, false, false, false, false, false, false] rfl rfl (take_ofW HT_.out HW_.out (by kernel_rfl)) (fun _ _ _ h => h) (Or.inl ⟨by rfl, ?_⟩) hHeld ?_ ?_
  rotate_left
  · intro w' s
    go_simp
    with_reducible rfl
  rotate_left
  · simp only [Act.put, List.setIfInBounds_toArray, List.set_cons_zero, List.set_cons_succ, i64_w, i32_w]
    rfl
  refine take_ (i := 20) (N := some 57) (v := ?_) (a' := ?_) #[true, true, true, true, true, true, true, true, true, true, true, true, true, true, true, true, true, true, true, true, true, false, false, false, false, false, false, false, false, false, false, false, false, false, false, false, false, false] rfl rfl (take_ofW HT_.out HW_.out (by kernel_rfl)) (fun _ _ _ h => h) (Or.inl ⟨by rfl, ?_⟩) hHeld ?_ ?_
  rotate_left
  · intro w' s
    go_simp
    with_reducible rfl
  rotate_left
  · simp only [Act.put, List.setIfInBounds_toArray, List.set_cons_zero, List.set_cons_succ, i64_w, i32_w]
    rfl
  refine take_ (i := 21) (N := some 58) (v := ?_) (a' := ?_) #[true, true, true, true, true, true, true, true, true, true, true, true, true, true, true, true, true, true, true, true, true, true, false, false, false, false, false, false, false, false, false, false, false, false, false, false, false, false] rfl rfl (take_ofW HT_.out HW_.out (by kernel_rfl)) (fun _ _ _ h => h) (Or.inl ⟨by rfl, ?_⟩) hHeld ?_ ?_
  rotate_left
  · intro w' s
    go_simp
    with_reducible rfl
  rotate_left
  · simp only [Act.put, List.setIfInBounds_toArray, List.set_cons_zero, List.set_cons_succ, i64_w, i32_w]
    rfl
  refine take_ (i := 22) (N := some 59) (v := ?_) (a' := ?_) #[true, true, true, true, true, true, true, true, true, true, true, true, true, true, true, true, true, true, true, true, true, true, true, false, false, false, false, false, false, false, false, false, false, false, false, false, false, false] rfl rfl (take_ofW HT_.out HW_.out (by kernel_rfl)) (fun _ _ _ h => h) (Or.inl ⟨by rfl, ?_⟩) hHeld ?_ ?_
  rotate_left
  · intro w' s
    go_simp
    with_reducible rfl
  rotate_left
  · simp only [Act.put, List.setIfInBounds_toArray, List.set_cons_zero, List.set_cons_succ, i64_w, i32_w]
    rfl
  refine take_ (i := 24) (N := some 61) (v := ?_) (a' := ?_) #[true, true, true, true, true, true, true, true, true, true, true, true, true, true, true, true, true, true, true, true, true, true, true, false, true, false, false, false, false, false, false, false, false, false, false, false, false, false] rfl rfl (take_ofW HT_.out HW_.out (by kernel_rfl)) (fun _ _ _ h => h) (Or.inl ⟨by rfl, ?_⟩) hHeld ?_ ?_
  rotate_left
  · intro w' s
    go_simp
    with_reducible rfl
  rotate_left
  · simp only [Act.put, List.setIfInBounds_toArray, List.set_cons_zero, List.set_cons_succ, i64_w, i32_w]
    rfl
  refine one_ (i := 23) (N := some 60) #[true, true, true, true, true, true, true, true, true, true, true, true, true, true, true, true, true, true, true, true, true, true, true, true, true, false, false, false, false, false, false, false, false, false, false, false, false, false] rfl rfl (one_of HT_.out (by kernel_rfl)) (by decide) (fun K hK => ?_)
  refine goes_ Try.func26 (by kernel_rfl) rfl #[.slice (some ⟨gm, 0, none⟩) l0.length cm] (by rfl) rfl rfl (by (try simp only [List.map_toArray, List.map_cons, List.map_nil]); first | done | rfl | (simp only [List.length_drop, List.length_take]; rfl)) ?_
  refine (RT.out _ _ _ (lent_reads (Kd.R_below HM.out HZ.out)).1 (lent_reads (Kd.R_below HM.out HZ.out)).2).mono ?_
  rintro en v7 ⟨rfl, hb⟩
  refine ⟨_, rfl, ?_⟩
  replace HZ := Aside0.mk (below_step HZ.out hb)
  refine hK.out _ _ (below_step hHeld hb) (fun hHeld => ?_)
  clear hb
  clear hK K
  refine norm_ (a' := ?_) ?_ ?_
  rotate_left
  · show Act.put _ (some 60) _ = _
    simp only [Act.put, List.setIfInBounds_toArray, List.set_cons_zero, List.set_cons_succ, i64_w, i32_w]
    rfl
  refine one_ (i := 25) (N := some 62) #[true, true, true, true, true, true, true, true, true, true, true, true, true, true, true, true, true, true, true, true, true, true, true, true, true, true, false, false, false, false, false, false, false, false, false, false, false, false] rfl rfl (one_of HT_.out (by kernel_rfl)) (by decide) (fun K hK => ?_)
  refine goes_ Try.func27 (by kernel_rfl) rfl #[.slice A0 l0.length c0] (by rfl) rfl rfl (by (try simp only [List.map_toArray, List.map_cons, List.map_nil]); first | done | rfl | (simp only [List.length_drop, List.length_take]; rfl)) ?_
  refine (RR.out _ (Kd.C_below HRb.out hHeld)).mono ?_
  rintro en v8 ⟨rfl, hb⟩
  replace hb := hb.below
  refine ⟨_, rfl, ?_⟩
  replace HZ := Aside0.mk (below_step HZ.out hb)
  refine hK.out _ _ (below_step hHeld hb) (fun hHeld => ?_)
  clear hb
  clear hK K
  refine norm_ (a' := ?_) ?_ ?_
  rotate_left
  · show Act.put _ (some 62) _ = _
    simp only [Act.put, List.setIfInBounds_toArray, List.set_cons_zero, List.set_cons_succ, i64_w, i32_w]
    rfl
  refine take_ (i := 26) (N := some 63) (v := ?_) (a' := ?_) #[true, true, true, true, true, true, true, true, true, true, true, true, true, true, true, true, true, true, true, true, true, true, true, true, true, true, true, false, false, false, false, false, false, false, false, false, false, false] rfl rfl (take_ofW HT_.out HW_.out (by kernel_rfl)) (fun _ _ _ h => h) (Or.inl ⟨by rfl, ?_⟩) hHeld ?_ ?_
  rotate_left
  · intro w' s
    go_simp
    with_reducible rfl
  rotate_left
  · simp only [Act.put, List.setIfInBounds_toArray, List.set_cons_zero, List.set_cons_succ, i64_w, i32_w]
    rfl
  refine take_ (i := 27) (N := some 64) (v := ?_) (a' := ?_) #[true, true, true, true, true, true, true, true, true, true, true, true, true, true, true, true, true, true, true, true, true, true, true, true, true, true, true, true, false, false, false, false, false, false, false, false, false, false] rfl rfl (take_ofW HT_.out HW_.out (by kernel_rfl)) (fun _ _ _ h => h) (Or.inl ⟨by rfl, ?_⟩) hHeld ?_ ?_
  rotate_left
  · intro w' s
    go_simp
    with_reducible rfl
  rotate_left
  · simp only [Act.put, List.setIfInBounds_toArray, List.set_cons_zero, List.set_cons_succ, i64_w, i32_w]
    rfl
  refine take_ (i := 28) (N := some 65) (v := ?_) (a' := ?_) #[true, true, true, true, true, true, true, true, true, true, true, true, true, true, true, true, true, true, true, true, true, true, true, true, true, true, true, true, true, false, false, false, false, false, false, false, false, false] rfl rfl (take_ofW HT_.out HW_.out (by kernel_rfl)) (fun _ _ _ h => h) (Or.inl ⟨by rfl, ?_⟩) hHeld ?_ ?_
  rotate_left
  · intro w' s
    go_simp
    with_reducible rfl
  rotate_left
  · simp only [Act.put, List.setIfInBounds_toArray, List.set_cons_zero, List.set_cons_succ, i64_w, i32_w]
    rfl
  refine take_ (i := 29) (N := some 66) (v := ?_) (a' := ?_) #[true, true, true, true, true, true, true, true, true, true, true, true, true, true, true, true, true, true, true, true, true, true, true, true, true, true, true, true, true, true, false, false, false, false, false, false, false, false] rfl rfl (take_ofW HT_.out HW_.out (by kernel_rfl)) (fun _ _ _ h => h) (Or.inl ⟨by rfl, ?_⟩) hHeld ?_ ?_
  rotate_left
  · intro w' s
    go_simp
    with_reducible rfl
  rotate_left
  · simp only [Act.put, List.setIfInBounds_toArray, List.set_cons_zero, List.set_cons_succ, i64_w, i32_w]
    rfl
  refine take_ (i := 30) (N := some 67) (v := ?_) (a' := ?_) #[true, true, true, true, true, true, true, true, true, true, true, true, true, true, true, true, true, true, true, true, true, true, true, true, true, true, true, true, true, true, true, false, false, false, false, false, false, false] rfl rfl (take_ofW HT_.out HW_.out (by kernel_rfl)) (fun _ _ _ h => h) (Or.inl ⟨by rfl, ?_⟩) hHeld ?_ ?_
  rotate_left
  · intro w' s
    go_simp
    with_reducible rfl
  rotate_left
  · simp only [Act.put, List.setIfInBounds_toArray, List.set_cons_zero, List.set_cons_succ, i64_w, i32_w]
    rfl
  refine one_ (i := 31) (N := some 68) #[true, true, true, true, true, true, true, true, true, true, true, true, true, true, true, true, true, true, true, true, true, true, true, true, true, true, true, true, true, true, true, true, false, false, false, false, false, false] rfl rfl (one_of HT_.out (by kernel_rfl)) (by decide) (fun K hK => ?_)
  refine goes_ Try.func28 (by kernel_rfl) rfl #[.slice (some ⟨gm, 0, none⟩) l0.length cm, .slice A0 l0.length c0] (by rfl) rfl rfl (by (try simp only [List.map_toArray, List.map_cons, List.map_nil]); first | done | rfl | (simp only [List.length_drop, List.length_take]; rfl)) ?_
  refine (staysTexts_calls gm cm A0 c0 l0 wb.heap.size _ (Kd.R_below HM.out HZ.out) (Kd.C_below HRb.out hHeld) HC0.out HLL.out).mono ?_
  rintro en v9 ⟨rfl, hb⟩
  refine ⟨_, rfl, ?_⟩
  replace HZ := Aside0.mk (below_step HZ.out hb)
  refine hK.out _ _ (below_step hHeld hb) (fun hHeld => ?_)
  clear hb
  clear hK K
  refine norm_ (a' := ?_) ?_ ?_
  rotate_left
  · show Act.put _ (some 68) _ = _
    simp only [Act.put, List.setIfInBounds_toArray, List.set_cons_zero, List.set_cons_succ, i64_w, i32_w]
    rfl
  refine take_ (i := 32) (N := some 69) (v := ?_) (a' := ?_) #[true, true, true, true, true, true, true, true, true, true, true, true, true, true, true, true, true, true, true, true, true, true, true, true, true, true, true, true, true, true, true, true, true, false, false, false, false, false] rfl rfl (take_ofW HT_.out HW_.out (by kernel_rfl)) (fun _ _ _ h => h) (Or.inl ⟨by rfl, ?_⟩) hHeld ?_ ?_
  rotate_left
  · intro w' s
    go_simp
    with_reducible rfl
  rotate_left
  · simp only [Act.put, List.setIfInBounds_toArray, List.set_cons_zero, List.set_cons_succ, i64_w, i32_w]
    rfl
  refine take_ (i := 33) (N := some 70) (v := ?_) (a' := ?_) #[true, true, true, true, true, true, true, true, true, true, true, true, true, true, true, true, true, true, true, true, true, true, true, true, true, true, true, true, true, true, true, true, true, true, false, false, false, false] rfl rfl (take_ofW HT_.out HW_.out (by kernel_rfl)) (fun _ _ _ h => h) (Or.inl ⟨by rfl, ?_⟩) hHeld ?_ ?_
  rotate_left
  · intro w' s
    go_simp
    with_reducible rfl
  rotate_left
  · simp only [Act.put, List.setIfInBounds_toArray, List.set_cons_zero, List.set_cons_succ, i64_w, i32_w]
    rfl
  refine take_ (i := 34) (N := some 71) (v := ?_) (a' := ?_) #[true, true, true, true, true, true, true, true, true, true, true, true, true, true, true, true, true, true, true, true, true, true, true, true, true, true, true, true, true, true, true, true, true, true, true, false, false, false] rfl rfl (take_ofW HT_.out HW_.out (by kernel_rfl)) (fun _ _ _ h => h) (Or.inl ⟨by rfl, ?_⟩) hHeld ?_ ?_
  rotate_left
  · intro w' s
    go_simp
    with_reducible rfl
  rotate_left
  · simp only [Act.put, List.setIfInBounds_toArray, List.set_cons_zero, List.set_cons_succ, i64_w, i32_w]
    rfl
  refine one_ (i := 35) (N := some 72) #[true, true, true, true, true, true, true, true, true, true, true, true, true, true, true, true, true, true, true, true, true, true, true, true, true, true, true, true, true, true, true, true, true, true, true, true, false, false] rfl rfl (one_of HT_.out (by kernel_rfl)) (by decide) (fun K hK => ?_)
  refine goes_ Try.func29 (by kernel_rfl) rfl #[.pointer (some ⟨bk, 0, none⟩)] (by rfl) rfl rfl (by (try simp only [List.map_toArray, List.map_cons, List.map_nil]); first | done | rfl | (simp only [List.length_drop, List.length_take]; rfl)) ?_
  refine (apartIR_calls bk wb.heap.size ps qs [(.slice As SI.length cs)] [us] [SI] pq qq [(.slice Ar SR.length cr), (.slice Aq SR.length cq)] [ur, uq] [SR, SR] _ (blk_below HBLK.out HZ.out) (Nat.le_trans HH.out.size HZ.out.size) (stat_one _ _ _ HSI.out) (sta_one (Kd.R_below OInts.out HZ.out) (Kd.R_below PInts.out HZ.out) (Kd.R_below Hs.out HZ.out) (Kd.R_below Cs.out HZ.out)) (stat_two _ _ _ _ _ _ Nrq.out HSR.out HSR.out) (sta_two (Kd.R_below ORows.out HZ.out) (Kd.R_below PRows.out HZ.out) (Kd.R_below Hr.out HZ.out) (Kd.R_below Cr.out HZ.out) (Kd.R_below Hq.out HZ.out) (Kd.R_below Cq.out HZ.out))).mono ?_
  rintro en v10 ⟨rfl, hb⟩
  refine ⟨_, rfl, ?_⟩
  refine hK.out _ _ (hHeld.trans hb) (fun hHeld => ?_)
  clear hb
  clear hK K
  refine norm_ (a' := ?_) ?_ ?_
  rotate_left
  · show Act.put _ (some 72) _ = _
    simp only [Act.put, List.setIfInBounds_toArray, List.set_cons_zero, List.set_cons_succ, i64_w, i32_w]
    rfl
  refine take_ (i := 36) (N := some 73) (v := ?_) (a' := ?_) #[true, true, true, true, true, true, true, true, true, true, true, true, true, true, true, true, true, true, true, true, true, true, true, true, true, true, true, true, true, true, true, true, true, true, true, true, true, false] rfl rfl (take_ofW HT_.out HW_.out (by kernel_rfl)) (fun _ _ _ h => h) (Or.inl ⟨by rfl, ?_⟩) hHeld ?_ ?_
  rotate_left
  · intro w' s
    go_simp
    with_reducible rfl
  rotate_left
  · simp only [Act.put, List.setIfInBounds_toArray, List.set_cons_zero, List.set_cons_succ, i64_w, i32_w]
    rfl
  refine take_ (i := 37) (N := some 6) (v := ?_) (a' := ?_) #[true, true, true, true, true, true, true, true, true, true, true, true, true, true, true, true, true, true, true, true, true, true, true, true, true, true, true, true, true, true, true, true, true, true, true, true, true, true] rfl rfl (take_ofW HT_.out HW_.out (by kernel_rfl)) (fun _ _ _ h => h) (Or.inl ⟨by rfl, ?_⟩) hHeld ?_ ?_
  rotate_left
  · intro w' s
    go_simp
    with_reducible rfl
  rotate_left
  · simp only [Act.put, List.setIfInBounds_toArray, List.set_cons_zero, List.set_cons_succ, i64_w, i32_w]
    rfl
  refine done_ (done_of HT_.out (by kernel_rfl)) ?_
  have HE := Aside0.mk (HW.out.trans (hHeld.mono HW.out.size))
  clear hHeld y0 y1 y2 y3
  go_wp2_with fail
  go_ret
  exact ⟨rfl, HE.out⟩
set_option maxRecDepth 100000 in
set_option maxHeartbeats 4000000 in
theorem rowsTells_out (A0 : Option Addr) (c0 : Nat) (l0 : List ByteArray) (a0 a1 b0 b1 : Int) (w : World) (hC : Kd.C Kd.string w A0 l0.length l0) (hc : l0.length ≤ c0) (hs : ∀ s ∈ l0, s.size ≤ 140737488351232) (hl : l0.length * 16 ≤ 140737488351232) (hf : fewB l0 = false) :
    Calls Try.prog 3 #[.slice A0 l0.length c0, .agg #[.int .i64 a0, .int .i64 a1], .agg #[.int .i64 b0, .int .i64 b1]] w fun e w' => e = .returned (.bool true) ∧ Below w.heap.size w w' := by
  have FC := Aside0.mk (fun w' (h : Kd.C Kd.string w' A0 l0.length l0) => scriniumlaw3_Few.calls (l0.length + 1) A0 c0 l0 false w' h hc (by rw [few_all l0 hs hl _ (Nat.le_refl _), hf]))
  have AL := Aside0.mk (fun w' => scriniumlaw3_alive.calls 5 true w' (alive_ok 5 (Nat.le_refl _)))
  have HR := Aside0.mk hC
  clear hC hc hs hl hf
  go_enter Try.func3, Try.ntmps3
  go_wp2_with fail
  have HB0 := Aside0.mk (below_alloc (below_alloc (Below.refl w.heap.size w) (.cells #[.int .i64 a0, .int .i64 a1] 24)) (.cells #[.int .i64 b0, .int .i64 b1] 24))
  refine (FC.out _ (Kd.C_below HR.out HB0.out)).mono ?_
  rintro en w1 ⟨rfl, hb⟩
  have HB1 := Aside0.mk (below_step HB0.out hb.below)
  clear hb HB0
  go_wp2_with fail
  refine (AL.out _).mono ?_
  rintro en w2 ⟨rfl, hb⟩
  have HB2 := Aside0.mk (below_step HB1.out hb)
  clear hb
  go_wp2_with fail
  go_ret
  exact ⟨rfl, HB2.out⟩
theorem RowsTells_all (A0 : Option Addr) (c0 : Nat) (l0 : List ByteArray) (a0 a1 b0 b1 : Int) (w : World) (hC : Kd.C Kd.string w A0 l0.length l0) (hc : l0.length ≤ c0) (hs : ∀ s ∈ l0, s.size ≤ 140737488351232) (hl : l0.length * 16 ≤ 140737488351232) (_ : (Lit.int .i64 a0).wf = true) (_ : (Lit.int .i64 a1).wf = true) (_ : (Lit.int .i64 b0).wf = true) (_ : (Lit.int .i64 b1).wf = true) :
    Calls Try.prog 3 #[.slice A0 l0.length c0, .agg #[.int .i64 a0, .int .i64 a1], .agg #[.int .i64 b0, .int .i64 b1]] w fun e w' => e = .returned (.bool true) ∧ Below w.heap.size w w' := by
  cases hf : fewB l0 with
  | false => exact rowsTells_out A0 c0 l0 a0 a1 b0 b1 w hC hc hs hl hf
  | true => exact rowsTells_main A0 c0 l0 a0 a1 b0 b1 w hC hc hs hl hf
end Go.Proofs.Ythoapfagcdbpeaa.P
