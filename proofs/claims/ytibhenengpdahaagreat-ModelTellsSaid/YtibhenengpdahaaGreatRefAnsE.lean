/- The document's Answer, of Extract and of Plot. Conditions: how the list lies in memory, and its length. (Printed by genref.py.) -/
import Derived.Test.YtibhenengpdahaaGreatJK
set_option linter.unusedVariables false
set_option linter.unusedSimpArgs false
namespace Go.Proofs.YtibhenengpdahaaGreat.P
open Go.RowKit Go.Proofs.YtibhenengpdahaaGreatW.PrintWords Go.Proofs.YtibhenengpdahaaGreatW.PrintLast Go.Proofs.YtibhenengpdahaaGreatW.PrintMore

theorem letOk_pos {has : ByteArray} {c : UInt8} {n : Int} (h : letOk has c n = true) : 0 ≤ n := by
 unfold letOk at h
 simp only [Bool.and_eq_true, decide_eq_true_eq] at h
 exact h.1
theorem ask_pos {kind id fr tt snap : Int} {text : ByteArray} (h : askB kind id fr tt snap text = true) : 0 ≤ fr ∧ 0 ≤ tt ∧ text.size ≤ 40 := by
 unfold askB at h
 simp only [Bool.and_eq_true, decide_eq_true_eq] at h
 exact ⟨letOk_pos h.2.2.2.2.1, letOk_pos h.2.2.2.2.2.1, by have := h.2.1; omega⟩
theorem ask_plot_from {id fr tt snap : Int} {text : ByteArray} (h : askB 7 id fr tt snap text = true) : fr = 0 := by
 unfold askB at h
 simp only [Bool.and_eq_true] at h
 have h1 := h.2.2.2.2.1
 unfold letOk at h1
 rw [show hasC (hasOf 7) 102 = false by decide +kernel] at h1
 simp only [Bool.and_eq_true, Bool.or_false, decide_eq_true_eq] at h1
 omega
/-- What a walk's place is, of a part that may be asked. -/
def plotAt (p : ByteArray × Int) : Value := if p.2 = 0 then endOf p.1 else zeroC
theorem end_cx (s : ByteArray) (hs : s.size ≤ 100000) : ∃ ea eb, endOf s = .complex .f64 ea eb ∧ (FloatKind.f64.format.order ea ea == some .eq) = true ∧ (FloatKind.f64.format.order eb eb == some .eq) = true := by
 have h := Wk.pos_bd (bytesOf s)
 have hl := bytesOf_length s
 have ha : Fpx.small (Wk.pos (bytesOf s)).1 := Fpx.small_of (by omega) (by omega)
 have hb : Fpx.small (Wk.pos (bytesOf s)).2 := Fpx.small_of (by omega) (by omega)
 exact ⟨_, _, rfl, by rw [Fpx.fmt, Fpx.eq_val (Fpx.Val_fz _ ha) (Fpx.Val_fz _ ha)]; exact decide_eq_true rfl, by rw [Fpx.fmt, Fpx.eq_val (Fpx.Val_fz _ hb) (Fpx.Val_fz _ hb)]; exact decide_eq_true rfl⟩
def refAns.T23 : Bool × List (List Nat × List Nat) := (true, [([], []), ([0], [0]), ([], []), ([], []), ([2, 3], [2, 3]), ([4], [4]), ([5], [5]), ([6], [6]), ([1, 7], [1, 7]), ([8], [8]), ([9], [9]), ([10, 9], [9, 10]), ([9], [9]), ([12, 9], [9, 12]), ([11, 13, 9], [9, 11, 13]), ([9, 14], [9, 14])])
def refAns.B23 : List Nat := [0, 1, 0, 0, 12, 28, 60, 124, 255, 511, 1023, 2047, 1023, 5119, 16383, 32767]
theorem refAns.tab23 : rtab .any (opsOf Tryz.f7 23) = refAns.T23 := by kernel_rfl
theorem refAns.bits23 : waitsOk refAns.T23.2 refAns.B23 = true := by kernel_rfl
def refAns.T26 : Bool × List (List Nat × List Nat) := (true, [([], []), ([], []), ([0, 1], [0, 1]), ([2], [2]), ([3], [3]), ([], []), ([5], [5]), ([], []), ([7], [7]), ([4, 6, 8], [4, 6, 8]), ([9], [9]), ([10, 0, 1, 2, 3, 4, 5, 6, 7, 8, 9, 10], [10])])
def refAns.B26 : List Nat := [0, 0, 3, 7, 15, 0, 32, 0, 128, 511, 1023, 2047]
theorem refAns.tab26 : rtab .any (opsOf Tryz.f7 26) = refAns.T26 := by kernel_rfl
theorem refAns.bits26 : waitsOk refAns.T26.2 refAns.B26 = true := by kernel_rfl
def refAns.T27 : Bool × List (List Nat × List Nat) := (true, [([], []), ([], []), ([0, 1], [0, 1]), ([2], [2]), ([3], [3]), ([], []), ([5], [5]), ([4, 6], [4, 6]), ([7], [7]), ([8], [8]), ([9, 8, 0, 1, 2, 3, 4, 5, 6, 7, 8, 9], [9])])
def refAns.B27 : List Nat := [0, 0, 3, 7, 15, 0, 32, 127, 255, 511, 1023]
theorem refAns.tab27 : rtab .any (opsOf Tryz.f7 27) = refAns.T27 := by kernel_rfl
theorem refAns.bits27 : waitsOk refAns.T27.2 refAns.B27 = true := by kernel_rfl
set_option maxRecDepth 100000 in
set_option maxHeartbeats 8000000 in
theorem refAns_extract (A0 : Option Addr) (c0 : Nat) (l0 : List S27) (kind id fr tt snap : Int) (text : ByteArray) (w : World) (hr0 : Kd.C k27 w A0 l0.length l0) (hc0 : l0.length ≤ c0) (hl : l0.length ≤ 1000000) (hmay : mayB l0 kind id fr tt snap text = true) (hk : kind = 5) :
  Calls Tryz.prog 7 #[.slice A0 l0.length c0, .agg #[.int .i64 kind, .int .i64 id, .int .i64 fr, .int .i64 tt, .int .i64 snap, .string text]] w fun e w' =>
   e = .returned (.agg (repCells (partOf l0 id fr tt).2 0 (partOf l0 id fr tt).1 nilS nilS nilS zeroC).toArray) ∧ Below w.heap.size w w' := by
 subst hk
 have hmay2 := hmay
 unfold mayB at hmay2
 rw [Bool.and_eq_true] at hmay2
 have hpos := ask_pos hmay2.2
 obtain ⟨b, rfl⟩ : ∃ b : Nat, tt = (b : Int) := ⟨tt.toNat, by omega⟩
 obtain ⟨a, rfl⟩ : ∃ a : Nat, fr = (a : Int) := ⟨fr.toNat, by omega⟩
 have HM := Aside0.mk hmay2
 have HD := Aside0.mk ((modelB_iff l0).1 hmay2.1)
 have PL := Aside0.mk (fun w' (hr : Kd.C k27 w' A0 l0.length l0) => refPL_calls A0 c0 l0 id w' hr hc0 hl)
 clear hmay hmay2 hpos
 have MR := Aside0.mk (fun w' (hr : Kd.C k27 w' A0 l0.length l0) => refMR_calls A0 c0 l0 w' hr hc0 hl)
 have AR := Aside0.mk (fun w' => refAR_calls 5 id (a : Int) (b : Int) snap text w')
 rw [HM.out.1] at MR
 rw [HM.out.2] at AR
 have HR := Aside0.mk hr0
 have HC := Aside0.mk hc0
 have HL := Aside0.mk hl
 obtain ⟨W1, hW1⟩ : ∃ W1, w.alloc (.cells #[.int .i64 5, .int .i64 id, .int .i64 a, .int .i64 b, .int .i64 snap, .string text] 24) = W1 := ⟨_, rfl⟩
 have HB1 : Aside0 (Below w.heap.size w W1) := ⟨by rw [← hW1]; exact below_alloc (Below.refl _ _) _⟩
 have g0 : Aside0 (W1.cell? ⟨w.heap.size, 0, none⟩ = some (.int .i64 5)) := ⟨by rw [← hW1]; exact cell_newA w _ _ 0 _ rfl⟩
 have g1 : Aside0 (W1.cell? ⟨w.heap.size, 1, none⟩ = some (.int .i64 id)) := ⟨by rw [← hW1]; exact cell_newA w _ _ 1 _ rfl⟩
 have g2 : Aside0 (W1.cell? ⟨w.heap.size, 2, none⟩ = some (.int .i64 a)) := ⟨by rw [← hW1]; exact cell_newA w _ _ 2 _ rfl⟩
 have g3 : Aside0 (W1.cell? ⟨w.heap.size, 3, none⟩ = some (.int .i64 b)) := ⟨by rw [← hW1]; exact cell_newA w _ _ 3 _ rfl⟩
 have g4 : Aside0 (W1.cell? ⟨w.heap.size, 4, none⟩ = some (.int .i64 snap)) := ⟨by rw [← hW1]; exact cell_newA w _ _ 4 _ rfl⟩
 have g5 : Aside0 (W1.cell? ⟨w.heap.size, 5, none⟩ = some (.string text)) := ⟨by rw [← hW1]; exact cell_newA w _ _ 5 _ rfl⟩
 have W1E := Aside0.mk hW1
 clear hr0 hc0 hl
 go_enter Tryz.func7, Tryz.ntmps7
 go_wp2_with fail
 try rw [W1E.out]
 obtain ⟨b4, hb4⟩ : ∃ b4, W1.heap.size = b4 := ⟨_, rfl⟩
 have hb5 : w.heap.size + 1 = b4 := by rw [← hb4, ← W1E.out]; exact (Array.size_push _).symm
 obtain ⟨W2, hW2⟩ : ∃ W2, W1.alloc (.cells (repCells 0 0 ⟨#[]⟩ nilS nilS nilS zeroC).toArray 34) = W2 := ⟨_, rfl⟩
 have hr2 : W2.heap[b4]? = some (.cells (repCells 0 0 ⟨#[]⟩ nilS nilS nilS zeroC).toArray 34 (0, 0)) := by rw [← hW2, ← hb4]; exact heap_alloc_new _ _
 have HB12 : Aside0 (Below W1.heap.size W1 W2) := ⟨by rw [← hW2]; exact below_alloc (Below.refl _ _) _⟩
 change Calls _ _ _ (W1.alloc (.cells (repCells 0 0 ⟨#[]⟩ nilS nilS nilS zeroC).toArray 34)) _
 rw [hW2, hb4]
 refine (MR.out _ (Kd.C_below HR.out (below_step HB1.out HB12.out))).mono ?_
 rintro en w3 ⟨rfl, hb⟩
 have HB13 := Aside0.mk (below_step HB12.out hb)
 have hr3 := blk_below hr2 hb
 have HB3 := Aside0.mk (below_step HB1.out HB13.out)
 clear hW2 hb
 all_goals skip
 have k0 := pw_cell_below HB13.out g0.out
 have k1 := pw_cell_below HB13.out g1.out
 have k2 := pw_cell_below HB13.out g2.out
 have k3 := pw_cell_below HB13.out g3.out
 have k4 := pw_cell_below HB13.out g4.out
 have k5 := pw_cell_below HB13.out g5.out
 go_wp2_with fail
 refine (AR.out _).mono ?_
 rintro en w4 ⟨rfl, hb⟩
 have HB14 := Aside0.mk (below_step HB13.out hb)
 have HB4 := Aside0.mk (below_step HB3.out hb)
 have hr4 := blk_below hr3 hb
 clear hb k0 k1 k2 k3 k4 k5
 have k0 := pw_cell_below HB14.out g0.out
 have k1 := pw_cell_below HB14.out g1.out
 go_wp2_with fail
 refine (PL.out _ (Kd.C_below HR.out HB4.out)).mono ?_
 rintro en w5 ⟨rfl, hb⟩
 have HB15 := Aside0.mk (below_step HB14.out hb)
 have HB5 := Aside0.mk (below_step HB4.out hb)
 have hr5 := blk_below hr4 hb
 clear hb k0 k1
 by_cases hf : findOf l0 id < 0
 ·have t4 : decide (findOf l0 id < 0) = true := decide_eq_true hf
  have HE : Aside0 (partOf l0 id (a : Int) (b : Int) = (⟨#[]⟩, 4)) := ⟨if_pos hf⟩
  obtain ⟨wz, hrs, hz, hbz, hfar⟩ := rep_put_far (repCells 4 0 ⟨#[]⟩ nilS nilS nilS zeroC) hr5 rfl rfl (by simp [repCells, nilS, zeroC, Value.oneCell'])
  have RS := Aside0.mk hrs
  have HBz := Aside0.mk (HB5.out.trans (hbz.mono (show w.heap.size ≤ b4 by omega)))
  clear hrs hbz hfar
  go_wp2_with (first
   | ((with_reducible refine gate_store (t := 34) (p := 4) (v := .tmp 115) rfl ?_); refine store_event (t := 34) (p := 4) (v := .tmp 115) (w1 := wz) rfl rfl rfl ?hr ?_; (case hr => exact store_runs rfl rfl rfl RS.out); intro w9 hw; subst hw))
  exact bodyPost_ret (ans_results _ b4 (repCells 4 0 ⟨#[]⟩ nilS nilS nilS zeroC).toArray rfl hz _ rfl) rfl ⟨by rw [HE.out], HBz.out⟩
 ·have t4 : decide (findOf l0 id < 0) = false := decide_eq_false hf
  obtain ⟨q, hq⟩ : ∃ q : Nat, findOf l0 id = (q : Int) := ⟨(findOf l0 id).toNat, by omega⟩
  have hql : (q : Int) < (l0.length : Int) := by have := find_lt l0 id; omega
  obtain ⟨ad, hA, _, x1⟩ := at_T27 (Kd.C_below HR.out HB5.out) (q : Int) (by omega) hql
  obtain ⟨ad2, hA2, _, y1⟩ := at_T27 HR.out (q : Int) (by omega) hql
  obtain rfl : ad = ad2 := by rw [hA] at hA2; injection hA2
  have hbk : (ad.add (q * 2)).block < w.heap.size := by
   have h := World.block_lt_of_cell? w _ y1
   rw [Int.toNat_natCast] at h
   exact h
  have hP : partOf l0 id (a : Int) (b : Int) = if (a : Int) < 0 ∨ (b : Int) < (a : Int) ∨ ((rd_T27 l0 (q : Int)).f1.size : Int) < (b : Int) then (⟨#[]⟩, 3) else (((rd_T27 l0 (q : Int)).f1).extract a b, 0) := by
   unfold partOf
   rw [if_neg hf, hq]
   rfl
  rw [hq]
  rw [hq] at t4
  have hsz : (rd_T27 l0 (q : Int)).f1.size ≤ 40 := by
   rw [rd_doc_get l0 q (by omega)]
   exact HD.out.short _ (List.getElem_mem _)
  obtain ⟨tx, htx⟩ : ∃ tx, (rd_T27 l0 (q : Int)).f1 = tx := ⟨_, rfl⟩
  rw [htx] at x1 hP hsz
  have HP := Aside0.mk hP
  have HSZ := Aside0.mk hsz
  have HBK := Aside0.mk hbk
  subst hA
  clear y1 htx hA2 hP hsz
  rw [Int.toNat_natCast] at x1
  have v4 : (0 ≤ (q : Int)) = True := eq_true (by omega)
  have v5 : ((q : Int) < (l0.length : Int)) = True := eq_true hql
  have k2 := pw_cell_below HB15.out g2.out
  have k3 := pw_cell_below HB15.out g3.out
  by_cases h1 : tx.size < b
  ·have c1 : decide ((tx.size : Int) < (b : Int)) = true := decide_eq_true (by omega)
   have c2 : decide (tx.size < b) = true := decide_eq_true h1
   have HE : Aside0 (partOf l0 id (a : Int) (b : Int) = (⟨#[]⟩, 3)) := ⟨HP.out.trans (if_pos (by omega))⟩
   go_wp2_with fail
   refine start_ (n := 16) (S := fun w' => Below w5.heap.size w5 w') (ds := []) (bs 16 0) (by kernel_rfl) rfl rfl (below_drew1 (Below.refl _ _)) (fun hHeld => ?_)
   refine with_tabW refAns.tab23 refAns.bits23 (fun HT_ HW_ => ?_)
   refine take_ (i := 0) (N := some 116) (v := ?_) (a' := ?_) (bs 16 1) rfl rfl (take_ofW HT_.out HW_.out (by kernel_rfl)) (fun _ _ _ h => h) (Or.inl ⟨by rfl, ?_⟩) hHeld ?_ ?_
   rotate_left
   ·intro w' s
    go_simp
    with_reducible rfl
   rotate_left
   ·simp only [Act.put, List.setIfInBounds_toArray, List.set_cons_zero, List.set_cons_succ, i64_w, i32_w]
    rfl
   refine take_ (i := 1) (N := some 117) (v := ?_) (a' := ?_) (bs 16 3) rfl rfl (take_ofW HT_.out HW_.out (by kernel_rfl)) (fun _ _ _ h => h) (Or.inl ⟨by rfl, ?_⟩) hHeld ?_ ?_
   rotate_left
   ·intro w' s
    have s1 := pw_cell_below s x1
    have s2 := pw_cell_below s k2
    have s3 := pw_cell_below s k3
    go_simp
    with_reducible rfl
   rotate_left
   ·simp only [Act.put, List.setIfInBounds_toArray, List.set_cons_zero, List.set_cons_succ, i64_w, i32_w]
    rfl
   iterate 4
    refine tk_ (N := some _) (v := ?_) (a' := ?_) rfl rfl (take_ofW HT_.out HW_.out (by kernel_rfl)) (fun _ _ _ h => h) (Or.inl ⟨by rfl, ?_⟩) hHeld ?_ ?_
    rotate_left
    ·intro w' s
     go_simp
     with_reducible rfl
    rotate_left
    ·simp only [Act.put, List.setIfInBounds_toArray, List.set_cons_zero, List.set_cons_succ, i64_w, i32_w]
     rfl
   refine take_ (i := 6) (N := some 122) (v := ?_) (a' := ?_) (bs 16 127) rfl rfl (take_ofW HT_.out HW_.out (by kernel_rfl)) (fun _ _ _ h => h) (Or.inl ⟨by rfl, ?_⟩) hHeld ?_ ?_
   rotate_left
   ·intro w' s
    have s1 := pw_cell_below s x1
    have s2 := pw_cell_below s k2
    have s3 := pw_cell_below s k3
    go_simp
    with_reducible rfl
   rotate_left
   ·simp only [Act.put, List.setIfInBounds_toArray, List.set_cons_zero, List.set_cons_succ, i64_w, i32_w]
    rfl
   iterate 3
    refine tk_ (N := some _) (v := ?_) (a' := ?_) rfl rfl (take_ofW HT_.out HW_.out (by kernel_rfl)) (fun _ _ _ h => h) (Or.inl ⟨by rfl, ?_⟩) hHeld ?_ ?_
    rotate_left
    ·intro w' s
     go_simp
     with_reducible rfl
    rotate_left
    ·simp only [Act.put, List.setIfInBounds_toArray, List.set_cons_zero, List.set_cons_succ, i64_w, i32_w]
     rfl
   iterate 5
    refine tk_ (N := some _) (v := undef) (a' := ?_) rfl rfl (take_ofW HT_.out HW_.out (by kernel_rfl)) (fun _ _ _ h => h) (Or.inr ⟨by rfl, rfl⟩) hHeld ?_ ?_
    rotate_left
    ·simp only [Act.put, List.setIfInBounds_toArray, List.set_cons_zero, List.set_cons_succ, i64_w, i32_w]
     rfl
   refine take_ (i := 15) (N := some 131) (v := ?_) (a' := ?_) (bs 16 65535) rfl rfl (take_ofW HT_.out HW_.out (by kernel_rfl)) (fun _ _ _ h => h) (Or.inl ⟨by rfl, ?_⟩) hHeld ?_ ?_
   rotate_left
   ·intro w' s
    go_simp
    with_reducible rfl
   rotate_left
   ·simp only [Act.put, List.setIfInBounds_toArray, List.set_cons_zero, List.set_cons_succ, i64_w, i32_w]
    rfl
   refine done_ (done_of HT_.out (by kernel_rfl)) ?_
   have hr6 := blk_drew hr5
   have HB6 := Aside0.mk (HB5.out.drew)
   clear hHeld
   obtain ⟨wz, hrs, hz, hbz, hfar⟩ := rep_put_far (repCells 3 0 ⟨#[]⟩ nilS nilS nilS zeroC) hr6 rfl rfl (by simp [repCells, nilS, zeroC, Value.oneCell'])
   have RS := Aside0.mk hrs
   have HBz := Aside0.mk (HB6.out.trans (hbz.mono (show w.heap.size ≤ b4 by omega)))
   clear hrs hbz hfar
   go_wp2_with (first
    | ((with_reducible refine gate_store (t := 34) (p := 4) (v := .tmp 132) rfl ?_); refine store_event (t := 34) (p := 4) (v := .tmp 132) (w1 := wz) rfl rfl rfl ?hr ?_; (case hr => exact store_runs rfl rfl rfl RS.out); intro w9 hw; subst hw))
   exact bodyPost_ret (ans_results _ b4 (repCells 3 0 ⟨#[]⟩ nilS nilS nilS zeroC).toArray rfl hz _ rfl) rfl ⟨by rw [HE.out], HBz.out⟩
  ·have c1 : decide ((tx.size : Int) < (b : Int)) = false := decide_eq_false (by omega)
   have c2 : decide (tx.size < b) = false := decide_eq_false h1
   by_cases h2 : b < a
   ·have c3 : decide ((b : Int) < (a : Int)) = true := decide_eq_true (by omega)
    have c4 : decide (b < a) = true := decide_eq_true h2
    have HE : Aside0 (partOf l0 id (a : Int) (b : Int) = (⟨#[]⟩, 3)) := ⟨HP.out.trans (if_pos (by omega))⟩
    go_wp2_with fail
    refine start_ (n := 16) (S := fun w' => Below w5.heap.size w5 w') (ds := []) (bs 16 0) (by kernel_rfl) rfl rfl (below_drew1 (Below.refl _ _)) (fun hHeld => ?_)
    refine with_tabW refAns.tab23 refAns.bits23 (fun HT_ HW_ => ?_)
    refine take_ (i := 0) (N := some 116) (v := ?_) (a' := ?_) (bs 16 1) rfl rfl (take_ofW HT_.out HW_.out (by kernel_rfl)) (fun _ _ _ h => h) (Or.inl ⟨by rfl, ?_⟩) hHeld ?_ ?_
    rotate_left
    ·intro w' s
     go_simp
     with_reducible rfl
    rotate_left
    ·simp only [Act.put, List.setIfInBounds_toArray, List.set_cons_zero, List.set_cons_succ, i64_w, i32_w]
     rfl
    refine take_ (i := 1) (N := some 117) (v := ?_) (a' := ?_) (bs 16 3) rfl rfl (take_ofW HT_.out HW_.out (by kernel_rfl)) (fun _ _ _ h => h) (Or.inl ⟨by rfl, ?_⟩) hHeld ?_ ?_
    rotate_left
    ·intro w' s
     have s1 := pw_cell_below s x1
     have s2 := pw_cell_below s k2
     have s3 := pw_cell_below s k3
     go_simp
     with_reducible rfl
    rotate_left
    ·simp only [Act.put, List.setIfInBounds_toArray, List.set_cons_zero, List.set_cons_succ, i64_w, i32_w]
     rfl
    iterate 4
     refine tk_ (N := some _) (v := ?_) (a' := ?_) rfl rfl (take_ofW HT_.out HW_.out (by kernel_rfl)) (fun _ _ _ h => h) (Or.inl ⟨by rfl, ?_⟩) hHeld ?_ ?_
     rotate_left
     ·intro w' s
      go_simp
      with_reducible rfl
     rotate_left
     ·simp only [Act.put, List.setIfInBounds_toArray, List.set_cons_zero, List.set_cons_succ, i64_w, i32_w]
      rfl
    refine take_ (i := 6) (N := some 122) (v := ?_) (a' := ?_) (bs 16 127) rfl rfl (take_ofW HT_.out HW_.out (by kernel_rfl)) (fun _ _ _ h => h) (Or.inl ⟨by rfl, ?_⟩) hHeld ?_ ?_
    rotate_left
    ·intro w' s
     have s1 := pw_cell_below s x1
     have s2 := pw_cell_below s k2
     have s3 := pw_cell_below s k3
     go_simp
     with_reducible rfl
    rotate_left
    ·simp only [Act.put, List.setIfInBounds_toArray, List.set_cons_zero, List.set_cons_succ, i64_w, i32_w]
     rfl
    iterate 4
     refine tk_ (N := some _) (v := ?_) (a' := ?_) rfl rfl (take_ofW HT_.out HW_.out (by kernel_rfl)) (fun _ _ _ h => h) (Or.inl ⟨by rfl, ?_⟩) hHeld ?_ ?_
     rotate_left
     ·intro w' s
      go_simp
      with_reducible rfl
     rotate_left
     ·simp only [Act.put, List.setIfInBounds_toArray, List.set_cons_zero, List.set_cons_succ, i64_w, i32_w]
      rfl
    refine take_ (i := 11) (N := some 127) (v := ?_) (a' := ?_) (bs 16 4095) rfl rfl (take_ofW HT_.out HW_.out (by kernel_rfl)) (fun _ _ _ h => h) (Or.inl ⟨by rfl, ?_⟩) hHeld ?_ ?_
    rotate_left
    ·intro w' s
     have s1 := pw_cell_below s x1
     have s2 := pw_cell_below s k2
     have s3 := pw_cell_below s k3
     go_simp
     with_reducible rfl
    rotate_left
    ·simp only [Act.put, List.setIfInBounds_toArray, List.set_cons_zero, List.set_cons_succ, i64_w, i32_w]
     rfl
    refine take_ (i := 12) (N := some 128) (v := ?_) (a' := ?_) (bs 16 8191) rfl rfl (take_ofW HT_.out HW_.out (by kernel_rfl)) (fun _ _ _ h => h) (Or.inl ⟨by rfl, ?_⟩) hHeld ?_ ?_
    rotate_left
    ·intro w' s
     go_simp
     with_reducible rfl
    rotate_left
    ·simp only [Act.put, List.setIfInBounds_toArray, List.set_cons_zero, List.set_cons_succ, i64_w, i32_w]
     rfl
    refine take_ (i := 13) (N := some 129) (v := ?_) (a' := ?_) (bs 16 16383) rfl rfl (take_ofW HT_.out HW_.out (by kernel_rfl)) (fun _ _ _ h => h) (Or.inl ⟨by rfl, ?_⟩) hHeld ?_ ?_
    rotate_left
    ·intro w' s
     have s1 := pw_cell_below s x1
     have s2 := pw_cell_below s k2
     have s3 := pw_cell_below s k3
     go_simp
     with_reducible rfl
    rotate_left
    ·simp only [Act.put, List.setIfInBounds_toArray, List.set_cons_zero, List.set_cons_succ, i64_w, i32_w]
     rfl
    iterate 2
     refine tk_ (N := some _) (v := ?_) (a' := ?_) rfl rfl (take_ofW HT_.out HW_.out (by kernel_rfl)) (fun _ _ _ h => h) (Or.inl ⟨by rfl, ?_⟩) hHeld ?_ ?_
     rotate_left
     ·intro w' s
      go_simp
      with_reducible rfl
     rotate_left
     ·simp only [Act.put, List.setIfInBounds_toArray, List.set_cons_zero, List.set_cons_succ, i64_w, i32_w]
      rfl
    refine done_ (done_of HT_.out (by kernel_rfl)) ?_
    have hr6 := blk_drew hr5
    have HB6 := Aside0.mk (HB5.out.drew)
    clear hHeld
    obtain ⟨wz, hrs, hz, hbz, hfar⟩ := rep_put_far (repCells 3 0 ⟨#[]⟩ nilS nilS nilS zeroC) hr6 rfl rfl (by simp [repCells, nilS, zeroC, Value.oneCell'])
    have RS := Aside0.mk hrs
    have HBz := Aside0.mk (HB6.out.trans (hbz.mono (show w.heap.size ≤ b4 by omega)))
    clear hrs hbz hfar
    go_wp2_with (first
     | ((with_reducible refine gate_store (t := 34) (p := 4) (v := .tmp 132) rfl ?_); refine store_event (t := 34) (p := 4) (v := .tmp 132) (w1 := wz) rfl rfl rfl ?hr ?_; (case hr => exact store_runs rfl rfl rfl RS.out); intro w9 hw; subst hw))
    exact bodyPost_ret (ans_results _ b4 (repCells 3 0 ⟨#[]⟩ nilS nilS nilS zeroC).toArray rfl hz _ rfl) rfl ⟨by rw [HE.out], HBz.out⟩
   have c3 : decide ((b : Int) < (a : Int)) = false := decide_eq_false (by omega)
   have c4 : decide (b < a) = false := decide_eq_false h2
   have HE : Aside0 (partOf l0 id (a : Int) (b : Int) = (tx.extract a b, 0)) := ⟨HP.out.trans (if_neg (by omega))⟩
   go_wp2_with fail
   refine start_ (n := 16) (S := fun w' => Below w5.heap.size w5 w') (ds := []) (bs 16 0) (by kernel_rfl) rfl rfl (below_drew1 (Below.refl _ _)) (fun hHeld => ?_)
   refine with_tabW refAns.tab23 refAns.bits23 (fun HT_ HW_ => ?_)
   refine take_ (i := 0) (N := some 116) (v := ?_) (a' := ?_) (bs 16 1) rfl rfl (take_ofW HT_.out HW_.out (by kernel_rfl)) (fun _ _ _ h => h) (Or.inl ⟨by rfl, ?_⟩) hHeld ?_ ?_
   rotate_left
   ·intro w' s
    go_simp
    with_reducible rfl
   rotate_left
   ·simp only [Act.put, List.setIfInBounds_toArray, List.set_cons_zero, List.set_cons_succ, i64_w, i32_w]
    rfl
   refine take_ (i := 1) (N := some 117) (v := ?_) (a' := ?_) (bs 16 3) rfl rfl (take_ofW HT_.out HW_.out (by kernel_rfl)) (fun _ _ _ h => h) (Or.inl ⟨by rfl, ?_⟩) hHeld ?_ ?_
   rotate_left
   ·intro w' s
    have s1 := pw_cell_below s x1
    have s2 := pw_cell_below s k2
    have s3 := pw_cell_below s k3
    go_simp
    with_reducible rfl
   rotate_left
   ·simp only [Act.put, List.setIfInBounds_toArray, List.set_cons_zero, List.set_cons_succ, i64_w, i32_w]
    rfl
   iterate 4
    refine tk_ (N := some _) (v := ?_) (a' := ?_) rfl rfl (take_ofW HT_.out HW_.out (by kernel_rfl)) (fun _ _ _ h => h) (Or.inl ⟨by rfl, ?_⟩) hHeld ?_ ?_
    rotate_left
    ·intro w' s
     go_simp
     with_reducible rfl
    rotate_left
    ·simp only [Act.put, List.setIfInBounds_toArray, List.set_cons_zero, List.set_cons_succ, i64_w, i32_w]
     rfl
   refine take_ (i := 6) (N := some 122) (v := ?_) (a' := ?_) (bs 16 127) rfl rfl (take_ofW HT_.out HW_.out (by kernel_rfl)) (fun _ _ _ h => h) (Or.inl ⟨by rfl, ?_⟩) hHeld ?_ ?_
   rotate_left
   ·intro w' s
    have s1 := pw_cell_below s x1
    have s2 := pw_cell_below s k2
    have s3 := pw_cell_below s k3
    go_simp
    with_reducible rfl
   rotate_left
   ·simp only [Act.put, List.setIfInBounds_toArray, List.set_cons_zero, List.set_cons_succ, i64_w, i32_w]
    rfl
   iterate 4
    refine tk_ (N := some _) (v := ?_) (a' := ?_) rfl rfl (take_ofW HT_.out HW_.out (by kernel_rfl)) (fun _ _ _ h => h) (Or.inl ⟨by rfl, ?_⟩) hHeld ?_ ?_
    rotate_left
    ·intro w' s
     go_simp
     with_reducible rfl
    rotate_left
    ·simp only [Act.put, List.setIfInBounds_toArray, List.set_cons_zero, List.set_cons_succ, i64_w, i32_w]
     rfl
   refine take_ (i := 11) (N := some 127) (v := ?_) (a' := ?_) (bs 16 4095) rfl rfl (take_ofW HT_.out HW_.out (by kernel_rfl)) (fun _ _ _ h => h) (Or.inl ⟨by rfl, ?_⟩) hHeld ?_ ?_
   rotate_left
   ·intro w' s
    have s1 := pw_cell_below s x1
    have s2 := pw_cell_below s k2
    have s3 := pw_cell_below s k3
    go_simp
    with_reducible rfl
   rotate_left
   ·simp only [Act.put, List.setIfInBounds_toArray, List.set_cons_zero, List.set_cons_succ, i64_w, i32_w]
    rfl
   refine take_ (i := 12) (N := some 128) (v := ?_) (a' := ?_) (bs 16 8191) rfl rfl (take_ofW HT_.out HW_.out (by kernel_rfl)) (fun _ _ _ h => h) (Or.inl ⟨by rfl, ?_⟩) hHeld ?_ ?_
   rotate_left
   ·intro w' s
    go_simp
    with_reducible rfl
   rotate_left
   ·simp only [Act.put, List.setIfInBounds_toArray, List.set_cons_zero, List.set_cons_succ, i64_w, i32_w]
    rfl
   refine take_ (i := 13) (N := some 129) (v := ?_) (a' := ?_) (bs 16 16383) rfl rfl (take_ofW HT_.out HW_.out (by kernel_rfl)) (fun _ _ _ h => h) (Or.inl ⟨by rfl, ?_⟩) hHeld ?_ ?_
   rotate_left
   ·intro w' s
    have s1 := pw_cell_below s x1
    have s2 := pw_cell_below s k2
    have s3 := pw_cell_below s k3
    go_simp
    with_reducible rfl
   rotate_left
   ·simp only [Act.put, List.setIfInBounds_toArray, List.set_cons_zero, List.set_cons_succ, i64_w, i32_w]
    rfl
   iterate 2
    refine tk_ (N := some _) (v := ?_) (a' := ?_) rfl rfl (take_ofW HT_.out HW_.out (by kernel_rfl)) (fun _ _ _ h => h) (Or.inl ⟨by rfl, ?_⟩) hHeld ?_ ?_
    rotate_left
    ·intro w' s
     go_simp
     with_reducible rfl
    rotate_left
    ·simp only [Act.put, List.setIfInBounds_toArray, List.set_cons_zero, List.set_cons_succ, i64_w, i32_w]
     rfl
   refine done_ (done_of HT_.out (by kernel_rfl)) ?_
   have hr6 := blk_drew hr5
   have HB6 := Aside0.mk (HB5.out.drew)
   have HB16 := Aside0.mk (HB15.out.drew)
   have x1 : w5.drew.cell? _ = _ := x1
   have k0 := pw_cell_below HB16.out g0.out
   have k2 := pw_cell_below HB16.out g2.out
   have k3 := pw_cell_below HB16.out g3.out
   clear hHeld
   obtain ⟨w6, hw6⟩ : ∃ w6, w5.drew = w6 := ⟨_, rfl⟩
   rw [hw6] at hr6 HB6 HB16 x1 k0 k2 k3 ⊢
   have hb4w : b4 < w6.heap.size := blk_lt hr6
   go_wp2_with fail
   have hbk4 : (ad.add (q * 2)).block < b4 := by have := HBK.out; omega
   have hwk4 : w.heap.size < b4 := by omega
   have x1b := hbk4
   have k2b := hwk4
   have k3b := hwk4
   clear hw6 hbk4 hwk4 k0
   have u1 : (a ≤ b) = True := eq_true (by omega)
   have u2 : (b ≤ tx.size) = True := eq_true (by omega)
   have u3 : ((a : Int) ≤ (b : Int)) = True := eq_true (by omega)
   obtain ⟨wz, hrs, hz, hbz, hfar⟩ := rep_put_far (repCells 0 0 (tx.extract a b) nilS nilS nilS zeroC) (W := w6.drew) (blk_drew hr6) rfl rfl (by simp [repCells, nilS, zeroC, Value.oneCell'])
   have RS := Aside0.mk hrs
   have HBz := Aside0.mk (HB6.out.drew.trans (hbz.mono (show w.heap.size ≤ b4 by omega)))
   refine start_ (n := 12) (S := fun w' => Below b4 w6 w') (ds := [11]) (bs 12 0) (by kernel_rfl) rfl rfl (below_drew1 (Below.refl _ _)) (fun hHeld => ?_)
   refine with_tabW refAns.tab26 refAns.bits26 (fun HT_ HW_ => ?_)
   iterate 4
    refine tk_ (N := some _) (v := ?_) (a' := ?_) rfl rfl (take_ofW HT_.out HW_.out (by kernel_rfl)) (fun _ _ _ h => h) (Or.inl ⟨by rfl, ?_⟩) hHeld ?_ ?_
    rotate_left
    ·intro w' s
     go_simp
     with_reducible rfl
    rotate_left
    ·simp only [Act.put, List.setIfInBounds_toArray, List.set_cons_zero, List.set_cons_succ, i64_w, i32_w]
     rfl
   refine take_ (i := 4) (N := some 140) (v := ?_) (a' := ?_) (bs 12 31) rfl rfl (take_ofW HT_.out HW_.out (by kernel_rfl)) (fun _ _ _ h => h) (Or.inl ⟨by rfl, ?_⟩) hHeld ?_ ?_
   rotate_left
   ·intro w' s
    have s1 := cell_under (a := ⟨(ad.add (q * 2)).block, (ad.add (q * 2)).off + 1, none⟩) s x1b x1
    have s2 := cell_under (a := ⟨w.heap.size, 2, none⟩) s k2b k2
    have s3 := cell_under (a := ⟨w.heap.size, 3, none⟩) s k3b k3
    go_simp
    with_reducible rfl
   rotate_left
   ·simp only [Act.put, List.setIfInBounds_toArray, List.set_cons_zero, List.set_cons_succ, i64_w, i32_w]
    rfl
   refine take_ (i := 5) (N := some 141) (v := ?_) (a' := ?_) (bs 12 63) rfl rfl (take_ofW HT_.out HW_.out (by kernel_rfl)) (fun _ _ _ h => h) (Or.inl ⟨by rfl, ?_⟩) hHeld ?_ ?_
   rotate_left
   ·intro w' s
    go_simp
    with_reducible rfl
   rotate_left
   ·simp only [Act.put, List.setIfInBounds_toArray, List.set_cons_zero, List.set_cons_succ, i64_w, i32_w]
    rfl
   refine take_ (i := 6) (N := some 142) (v := ?_) (a' := ?_) (bs 12 127) rfl rfl (take_ofW HT_.out HW_.out (by kernel_rfl)) (fun _ _ _ h => h) (Or.inl ⟨by rfl, ?_⟩) hHeld ?_ ?_
   rotate_left
   ·intro w' s
    have s1 := cell_under (a := ⟨(ad.add (q * 2)).block, (ad.add (q * 2)).off + 1, none⟩) s x1b x1
    have s2 := cell_under (a := ⟨w.heap.size, 2, none⟩) s k2b k2
    have s3 := cell_under (a := ⟨w.heap.size, 3, none⟩) s k3b k3
    go_simp
    with_reducible rfl
   rotate_left
   ·simp only [Act.put, List.setIfInBounds_toArray, List.set_cons_zero, List.set_cons_succ, i64_w, i32_w]
    rfl
   refine take_ (i := 7) (N := some 143) (v := ?_) (a' := ?_) (bs 12 255) rfl rfl (take_ofW HT_.out HW_.out (by kernel_rfl)) (fun _ _ _ h => h) (Or.inl ⟨by rfl, ?_⟩) hHeld ?_ ?_
   rotate_left
   ·intro w' s
    go_simp
    with_reducible rfl
   rotate_left
   ·simp only [Act.put, List.setIfInBounds_toArray, List.set_cons_zero, List.set_cons_succ, i64_w, i32_w]
    rfl
   refine take_ (i := 8) (N := some 144) (v := ?_) (a' := ?_) (bs 12 511) rfl rfl (take_ofW HT_.out HW_.out (by kernel_rfl)) (fun _ _ _ h => h) (Or.inl ⟨by rfl, ?_⟩) hHeld ?_ ?_
   rotate_left
   ·intro w' s
    have s1 := cell_under (a := ⟨(ad.add (q * 2)).block, (ad.add (q * 2)).off + 1, none⟩) s x1b x1
    have s2 := cell_under (a := ⟨w.heap.size, 2, none⟩) s k2b k2
    have s3 := cell_under (a := ⟨w.heap.size, 3, none⟩) s k3b k3
    go_simp
    with_reducible rfl
   rotate_left
   ·simp only [Act.put, List.setIfInBounds_toArray, List.set_cons_zero, List.set_cons_succ, i64_w, i32_w]
    rfl
   iterate 2
    refine tk_ (N := some _) (v := ?_) (a' := ?_) rfl rfl (take_ofW HT_.out HW_.out (by kernel_rfl)) (fun _ _ _ h => h) (Or.inl ⟨by rfl, ?_⟩) hHeld ?_ ?_
    rotate_left
    ·intro w' s
     go_simp
     with_reducible rfl
    rotate_left
    ·simp only [Act.put, List.setIfInBounds_toArray, List.set_cons_zero, List.set_cons_succ, i64_w, i32_w]
     rfl
   refine last_ (i := 11) (N := none) (bs 12 4095) rfl rfl (one_of HT_.out (by kernel_rfl)) (by decide) (fun K hK => ?_)
   refine skip_ (w1 := wz) (by rfl) rfl (store_runs rfl rfl rfl RS.out) (hK.out _ _ ?_)
   clear hK K
   refine done_ (done_of HT_.out (by kernel_rfl)) ?_
   go_wp2_with fail
   exact bodyPost_ret (ans_results _ b4 (repCells 0 0 (tx.extract a b) nilS nilS nilS zeroC).toArray rfl hz _ rfl) rfl ⟨by rw [HE.out], HBz.out⟩
set_option maxRecDepth 100000 in
set_option maxHeartbeats 8000000 in
theorem refAns_plot (A0 : Option Addr) (c0 : Nat) (l0 : List S27) (kind id fr tt snap : Int) (text : ByteArray) (w : World) (hr0 : Kd.C k27 w A0 l0.length l0) (hc0 : l0.length ≤ c0) (hl : l0.length ≤ 1000000) (hmay : mayB l0 kind id fr tt snap text = true) (hk : kind = 7) :
  Calls Tryz.prog 7 #[.slice A0 l0.length c0, .agg #[.int .i64 kind, .int .i64 id, .int .i64 fr, .int .i64 tt, .int .i64 snap, .string text]] w fun e w' =>
   e = .returned (.agg (repCells (partOf l0 id 0 tt).2 0 ⟨#[]⟩ nilS nilS nilS (plotAt (partOf l0 id 0 tt))).toArray) ∧ Below w.heap.size w w' := by
 subst hk
 have hmay2 := hmay
 unfold mayB at hmay2
 rw [Bool.and_eq_true] at hmay2
 have hpos := ask_pos hmay2.2
 obtain ⟨b, rfl⟩ : ∃ b : Nat, tt = (b : Int) := ⟨tt.toNat, by omega⟩
 obtain rfl : fr = 0 := ask_plot_from hmay2.2
 have HM := Aside0.mk hmay2
 have HD := Aside0.mk ((modelB_iff l0).1 hmay2.1)
 have PL := Aside0.mk (fun w' (hr : Kd.C k27 w' A0 l0.length l0) => refPL_calls A0 c0 l0 id w' hr hc0 hl)
 clear hmay hmay2 hpos
 have MR := Aside0.mk (fun w' (hr : Kd.C k27 w' A0 l0.length l0) => refMR_calls A0 c0 l0 w' hr hc0 hl)
 have AR := Aside0.mk (fun w' => refAR_calls 7 id 0 (b : Int) snap text w')
 rw [HM.out.1] at MR
 rw [HM.out.2] at AR
 have HR := Aside0.mk hr0
 have HC := Aside0.mk hc0
 have HL := Aside0.mk hl
 obtain ⟨W1, hW1⟩ : ∃ W1, w.alloc (.cells #[.int .i64 7, .int .i64 id, .int .i64 0, .int .i64 b, .int .i64 snap, .string text] 24) = W1 := ⟨_, rfl⟩
 have HB1 : Aside0 (Below w.heap.size w W1) := ⟨by rw [← hW1]; exact below_alloc (Below.refl _ _) _⟩
 have g0 : Aside0 (W1.cell? ⟨w.heap.size, 0, none⟩ = some (.int .i64 7)) := ⟨by rw [← hW1]; exact cell_newA w _ _ 0 _ rfl⟩
 have g1 : Aside0 (W1.cell? ⟨w.heap.size, 1, none⟩ = some (.int .i64 id)) := ⟨by rw [← hW1]; exact cell_newA w _ _ 1 _ rfl⟩
 have g2 : Aside0 (W1.cell? ⟨w.heap.size, 2, none⟩ = some (.int .i64 0)) := ⟨by rw [← hW1]; exact cell_newA w _ _ 2 _ rfl⟩
 have g3 : Aside0 (W1.cell? ⟨w.heap.size, 3, none⟩ = some (.int .i64 b)) := ⟨by rw [← hW1]; exact cell_newA w _ _ 3 _ rfl⟩
 have g4 : Aside0 (W1.cell? ⟨w.heap.size, 4, none⟩ = some (.int .i64 snap)) := ⟨by rw [← hW1]; exact cell_newA w _ _ 4 _ rfl⟩
 have g5 : Aside0 (W1.cell? ⟨w.heap.size, 5, none⟩ = some (.string text)) := ⟨by rw [← hW1]; exact cell_newA w _ _ 5 _ rfl⟩
 have W1E := Aside0.mk hW1
 clear hr0 hc0 hl
 go_enter Tryz.func7, Tryz.ntmps7
 go_wp2_with fail
 try rw [W1E.out]
 obtain ⟨b4, hb4⟩ : ∃ b4, W1.heap.size = b4 := ⟨_, rfl⟩
 have hb5 : w.heap.size + 1 = b4 := by rw [← hb4, ← W1E.out]; exact (Array.size_push _).symm
 obtain ⟨W2, hW2⟩ : ∃ W2, W1.alloc (.cells (repCells 0 0 ⟨#[]⟩ nilS nilS nilS zeroC).toArray 34) = W2 := ⟨_, rfl⟩
 have hr2 : W2.heap[b4]? = some (.cells (repCells 0 0 ⟨#[]⟩ nilS nilS nilS zeroC).toArray 34 (0, 0)) := by rw [← hW2, ← hb4]; exact heap_alloc_new _ _
 have HB12 : Aside0 (Below W1.heap.size W1 W2) := ⟨by rw [← hW2]; exact below_alloc (Below.refl _ _) _⟩
 change Calls _ _ _ (W1.alloc (.cells (repCells 0 0 ⟨#[]⟩ nilS nilS nilS zeroC).toArray 34)) _
 rw [hW2, hb4]
 refine (MR.out _ (Kd.C_below HR.out (below_step HB1.out HB12.out))).mono ?_
 rintro en w3 ⟨rfl, hb⟩
 have HB13 := Aside0.mk (below_step HB12.out hb)
 have hr3 := blk_below hr2 hb
 have HB3 := Aside0.mk (below_step HB1.out HB13.out)
 clear hW2 hb
 all_goals skip
 have k0 := pw_cell_below HB13.out g0.out
 have k1 := pw_cell_below HB13.out g1.out
 have k2 := pw_cell_below HB13.out g2.out
 have k3 := pw_cell_below HB13.out g3.out
 have k4 := pw_cell_below HB13.out g4.out
 have k5 := pw_cell_below HB13.out g5.out
 go_wp2_with fail
 refine (AR.out _).mono ?_
 rintro en w4 ⟨rfl, hb⟩
 have HB14 := Aside0.mk (below_step HB13.out hb)
 have HB4 := Aside0.mk (below_step HB3.out hb)
 have hr4 := blk_below hr3 hb
 clear hb k0 k1 k2 k3 k4 k5
 have k0 := pw_cell_below HB14.out g0.out
 have k1 := pw_cell_below HB14.out g1.out
 go_wp2_with fail
 refine (PL.out _ (Kd.C_below HR.out HB4.out)).mono ?_
 rintro en w5 ⟨rfl, hb⟩
 have HB15 := Aside0.mk (below_step HB14.out hb)
 have HB5 := Aside0.mk (below_step HB4.out hb)
 have hr5 := blk_below hr4 hb
 clear hb k0 k1
 by_cases hf : findOf l0 id < 0
 ·have t4 : decide (findOf l0 id < 0) = true := decide_eq_true hf
  have HE : Aside0 (partOf l0 id 0 (b : Int) = (⟨#[]⟩, 4)) := ⟨if_pos hf⟩
  obtain ⟨wz, hrs, hz, hbz, hfar⟩ := rep_put_far (repCells 4 0 ⟨#[]⟩ nilS nilS nilS zeroC) hr5 rfl rfl (by simp [repCells, nilS, zeroC, Value.oneCell'])
  have RS := Aside0.mk hrs
  have HBz := Aside0.mk (HB5.out.trans (hbz.mono (show w.heap.size ≤ b4 by omega)))
  clear hrs hbz hfar
  go_wp2_with (first
   | ((with_reducible refine gate_store (t := 34) (p := 4) (v := .tmp 115) rfl ?_); refine store_event (t := 34) (p := 4) (v := .tmp 115) (w1 := wz) rfl rfl rfl ?hr ?_; (case hr => exact store_runs rfl rfl rfl RS.out); intro w9 hw; subst hw))
  exact bodyPost_ret (ans_results _ b4 (repCells 4 0 ⟨#[]⟩ nilS nilS nilS zeroC).toArray rfl hz _ rfl) rfl ⟨by rw [HE.out]; rfl, HBz.out⟩
 ·have t4 : decide (findOf l0 id < 0) = false := decide_eq_false hf
  obtain ⟨q, hq⟩ : ∃ q : Nat, findOf l0 id = (q : Int) := ⟨(findOf l0 id).toNat, by omega⟩
  have hql : (q : Int) < (l0.length : Int) := by have := find_lt l0 id; omega
  obtain ⟨ad, hA, _, x1⟩ := at_T27 (Kd.C_below HR.out HB5.out) (q : Int) (by omega) hql
  obtain ⟨ad2, hA2, _, y1⟩ := at_T27 HR.out (q : Int) (by omega) hql
  obtain rfl : ad = ad2 := by rw [hA] at hA2; injection hA2
  have hbk : (ad.add (q * 2)).block < w.heap.size := by
   have h := World.block_lt_of_cell? w _ y1
   rw [Int.toNat_natCast] at h
   exact h
  have hP : partOf l0 id 0 (b : Int) = if (0 : Int) < 0 ∨ (b : Int) < 0 ∨ ((rd_T27 l0 (q : Int)).f1.size : Int) < (b : Int) then (⟨#[]⟩, 3) else (((rd_T27 l0 (q : Int)).f1).extract 0 b, 0) := by
   unfold partOf
   rw [if_neg hf, hq]
   rfl
  rw [hq]
  rw [hq] at t4
  have hsz : (rd_T27 l0 (q : Int)).f1.size ≤ 40 := by
   rw [rd_doc_get l0 q (by omega)]
   exact HD.out.short _ (List.getElem_mem _)
  obtain ⟨tx, htx⟩ : ∃ tx, (rd_T27 l0 (q : Int)).f1 = tx := ⟨_, rfl⟩
  rw [htx] at x1 hP hsz
  have HP := Aside0.mk hP
  have HSZ := Aside0.mk hsz
  have HBK := Aside0.mk hbk
  subst hA
  clear y1 htx hA2 hP hsz
  rw [Int.toNat_natCast] at x1
  have v4 : (0 ≤ (q : Int)) = True := eq_true (by omega)
  have v5 : ((q : Int) < (l0.length : Int)) = True := eq_true hql
  have k2 := pw_cell_below HB15.out g2.out
  have k3 := pw_cell_below HB15.out g3.out
  by_cases h1 : tx.size < b
  ·have c1 : decide ((tx.size : Int) < (b : Int)) = true := decide_eq_true (by omega)
   have c2 : decide (tx.size < b) = true := decide_eq_true h1
   have HE : Aside0 (partOf l0 id 0 (b : Int) = (⟨#[]⟩, 3)) := ⟨HP.out.trans (if_pos (by omega))⟩
   go_wp2_with fail
   refine start_ (n := 16) (S := fun w' => Below w5.heap.size w5 w') (ds := []) (bs 16 0) (by kernel_rfl) rfl rfl (below_drew1 (Below.refl _ _)) (fun hHeld => ?_)
   refine with_tabW refAns.tab23 refAns.bits23 (fun HT_ HW_ => ?_)
   refine take_ (i := 0) (N := some 116) (v := ?_) (a' := ?_) (bs 16 1) rfl rfl (take_ofW HT_.out HW_.out (by kernel_rfl)) (fun _ _ _ h => h) (Or.inl ⟨by rfl, ?_⟩) hHeld ?_ ?_
   rotate_left
   ·intro w' s
    go_simp
    with_reducible rfl
   rotate_left
   ·simp only [Act.put, List.setIfInBounds_toArray, List.set_cons_zero, List.set_cons_succ, i64_w, i32_w]
    rfl
   refine take_ (i := 1) (N := some 117) (v := ?_) (a' := ?_) (bs 16 3) rfl rfl (take_ofW HT_.out HW_.out (by kernel_rfl)) (fun _ _ _ h => h) (Or.inl ⟨by rfl, ?_⟩) hHeld ?_ ?_
   rotate_left
   ·intro w' s
    have s1 := pw_cell_below s x1
    have s2 := pw_cell_below s k2
    have s3 := pw_cell_below s k3
    go_simp
    with_reducible rfl
   rotate_left
   ·simp only [Act.put, List.setIfInBounds_toArray, List.set_cons_zero, List.set_cons_succ, i64_w, i32_w]
    rfl
   iterate 4
    refine tk_ (N := some _) (v := ?_) (a' := ?_) rfl rfl (take_ofW HT_.out HW_.out (by kernel_rfl)) (fun _ _ _ h => h) (Or.inl ⟨by rfl, ?_⟩) hHeld ?_ ?_
    rotate_left
    ·intro w' s
     go_simp
     with_reducible rfl
    rotate_left
    ·simp only [Act.put, List.setIfInBounds_toArray, List.set_cons_zero, List.set_cons_succ, i64_w, i32_w]
     rfl
   refine take_ (i := 6) (N := some 122) (v := ?_) (a' := ?_) (bs 16 127) rfl rfl (take_ofW HT_.out HW_.out (by kernel_rfl)) (fun _ _ _ h => h) (Or.inl ⟨by rfl, ?_⟩) hHeld ?_ ?_
   rotate_left
   ·intro w' s
    have s1 := pw_cell_below s x1
    have s2 := pw_cell_below s k2
    have s3 := pw_cell_below s k3
    go_simp
    with_reducible rfl
   rotate_left
   ·simp only [Act.put, List.setIfInBounds_toArray, List.set_cons_zero, List.set_cons_succ, i64_w, i32_w]
    rfl
   iterate 3
    refine tk_ (N := some _) (v := ?_) (a' := ?_) rfl rfl (take_ofW HT_.out HW_.out (by kernel_rfl)) (fun _ _ _ h => h) (Or.inl ⟨by rfl, ?_⟩) hHeld ?_ ?_
    rotate_left
    ·intro w' s
     go_simp
     with_reducible rfl
    rotate_left
    ·simp only [Act.put, List.setIfInBounds_toArray, List.set_cons_zero, List.set_cons_succ, i64_w, i32_w]
     rfl
   iterate 5
    refine tk_ (N := some _) (v := undef) (a' := ?_) rfl rfl (take_ofW HT_.out HW_.out (by kernel_rfl)) (fun _ _ _ h => h) (Or.inr ⟨by rfl, rfl⟩) hHeld ?_ ?_
    rotate_left
    ·simp only [Act.put, List.setIfInBounds_toArray, List.set_cons_zero, List.set_cons_succ, i64_w, i32_w]
     rfl
   refine take_ (i := 15) (N := some 131) (v := ?_) (a' := ?_) (bs 16 65535) rfl rfl (take_ofW HT_.out HW_.out (by kernel_rfl)) (fun _ _ _ h => h) (Or.inl ⟨by rfl, ?_⟩) hHeld ?_ ?_
   rotate_left
   ·intro w' s
    go_simp
    with_reducible rfl
   rotate_left
   ·simp only [Act.put, List.setIfInBounds_toArray, List.set_cons_zero, List.set_cons_succ, i64_w, i32_w]
    rfl
   refine done_ (done_of HT_.out (by kernel_rfl)) ?_
   have hr6 := blk_drew hr5
   have HB6 := Aside0.mk (HB5.out.drew)
   clear hHeld
   obtain ⟨wz, hrs, hz, hbz, hfar⟩ := rep_put_far (repCells 3 0 ⟨#[]⟩ nilS nilS nilS zeroC) hr6 rfl rfl (by simp [repCells, nilS, zeroC, Value.oneCell'])
   have RS := Aside0.mk hrs
   have HBz := Aside0.mk (HB6.out.trans (hbz.mono (show w.heap.size ≤ b4 by omega)))
   clear hrs hbz hfar
   go_wp2_with (first
    | ((with_reducible refine gate_store (t := 34) (p := 4) (v := .tmp 132) rfl ?_); refine store_event (t := 34) (p := 4) (v := .tmp 132) (w1 := wz) rfl rfl rfl ?hr ?_; (case hr => exact store_runs rfl rfl rfl RS.out); intro w9 hw; subst hw))
   exact bodyPost_ret (ans_results _ b4 (repCells 3 0 ⟨#[]⟩ nilS nilS nilS zeroC).toArray rfl hz _ rfl) rfl ⟨by rw [HE.out]; rfl, HBz.out⟩
  ·have c1 : decide ((tx.size : Int) < (b : Int)) = false := decide_eq_false (by omega)
   have c2 : decide (tx.size < b) = false := decide_eq_false h1
   have c3 : decide ((b : Int) < (0 : Int)) = false := decide_eq_false (by omega)
   have c4 : decide (b < 0) = false := decide_eq_false (by omega)
   have HE : Aside0 (partOf l0 id 0 (b : Int) = (tx.extract 0 b, 0)) := ⟨HP.out.trans (if_neg (by omega))⟩
   go_wp2_with fail
   refine start_ (n := 16) (S := fun w' => Below w5.heap.size w5 w') (ds := []) (bs 16 0) (by kernel_rfl) rfl rfl (below_drew1 (Below.refl _ _)) (fun hHeld => ?_)
   refine with_tabW refAns.tab23 refAns.bits23 (fun HT_ HW_ => ?_)
   refine take_ (i := 0) (N := some 116) (v := ?_) (a' := ?_) (bs 16 1) rfl rfl (take_ofW HT_.out HW_.out (by kernel_rfl)) (fun _ _ _ h => h) (Or.inl ⟨by rfl, ?_⟩) hHeld ?_ ?_
   rotate_left
   ·intro w' s
    go_simp
    with_reducible rfl
   rotate_left
   ·simp only [Act.put, List.setIfInBounds_toArray, List.set_cons_zero, List.set_cons_succ, i64_w, i32_w]
    rfl
   refine take_ (i := 1) (N := some 117) (v := ?_) (a' := ?_) (bs 16 3) rfl rfl (take_ofW HT_.out HW_.out (by kernel_rfl)) (fun _ _ _ h => h) (Or.inl ⟨by rfl, ?_⟩) hHeld ?_ ?_
   rotate_left
   ·intro w' s
    have s1 := pw_cell_below s x1
    have s2 := pw_cell_below s k2
    have s3 := pw_cell_below s k3
    go_simp
    with_reducible rfl
   rotate_left
   ·simp only [Act.put, List.setIfInBounds_toArray, List.set_cons_zero, List.set_cons_succ, i64_w, i32_w]
    rfl
   iterate 4
    refine tk_ (N := some _) (v := ?_) (a' := ?_) rfl rfl (take_ofW HT_.out HW_.out (by kernel_rfl)) (fun _ _ _ h => h) (Or.inl ⟨by rfl, ?_⟩) hHeld ?_ ?_
    rotate_left
    ·intro w' s
     go_simp
     with_reducible rfl
    rotate_left
    ·simp only [Act.put, List.setIfInBounds_toArray, List.set_cons_zero, List.set_cons_succ, i64_w, i32_w]
     rfl
   refine take_ (i := 6) (N := some 122) (v := ?_) (a' := ?_) (bs 16 127) rfl rfl (take_ofW HT_.out HW_.out (by kernel_rfl)) (fun _ _ _ h => h) (Or.inl ⟨by rfl, ?_⟩) hHeld ?_ ?_
   rotate_left
   ·intro w' s
    have s1 := pw_cell_below s x1
    have s2 := pw_cell_below s k2
    have s3 := pw_cell_below s k3
    go_simp
    with_reducible rfl
   rotate_left
   ·simp only [Act.put, List.setIfInBounds_toArray, List.set_cons_zero, List.set_cons_succ, i64_w, i32_w]
    rfl
   iterate 4
    refine tk_ (N := some _) (v := ?_) (a' := ?_) rfl rfl (take_ofW HT_.out HW_.out (by kernel_rfl)) (fun _ _ _ h => h) (Or.inl ⟨by rfl, ?_⟩) hHeld ?_ ?_
    rotate_left
    ·intro w' s
     go_simp
     with_reducible rfl
    rotate_left
    ·simp only [Act.put, List.setIfInBounds_toArray, List.set_cons_zero, List.set_cons_succ, i64_w, i32_w]
     rfl
   refine take_ (i := 11) (N := some 127) (v := ?_) (a' := ?_) (bs 16 4095) rfl rfl (take_ofW HT_.out HW_.out (by kernel_rfl)) (fun _ _ _ h => h) (Or.inl ⟨by rfl, ?_⟩) hHeld ?_ ?_
   rotate_left
   ·intro w' s
    have s1 := pw_cell_below s x1
    have s2 := pw_cell_below s k2
    have s3 := pw_cell_below s k3
    go_simp
    with_reducible rfl
   rotate_left
   ·simp only [Act.put, List.setIfInBounds_toArray, List.set_cons_zero, List.set_cons_succ, i64_w, i32_w]
    rfl
   refine take_ (i := 12) (N := some 128) (v := ?_) (a' := ?_) (bs 16 8191) rfl rfl (take_ofW HT_.out HW_.out (by kernel_rfl)) (fun _ _ _ h => h) (Or.inl ⟨by rfl, ?_⟩) hHeld ?_ ?_
   rotate_left
   ·intro w' s
    go_simp
    with_reducible rfl
   rotate_left
   ·simp only [Act.put, List.setIfInBounds_toArray, List.set_cons_zero, List.set_cons_succ, i64_w, i32_w]
    rfl
   refine take_ (i := 13) (N := some 129) (v := ?_) (a' := ?_) (bs 16 16383) rfl rfl (take_ofW HT_.out HW_.out (by kernel_rfl)) (fun _ _ _ h => h) (Or.inl ⟨by rfl, ?_⟩) hHeld ?_ ?_
   rotate_left
   ·intro w' s
    have s1 := pw_cell_below s x1
    have s2 := pw_cell_below s k2
    have s3 := pw_cell_below s k3
    go_simp
    with_reducible rfl
   rotate_left
   ·simp only [Act.put, List.setIfInBounds_toArray, List.set_cons_zero, List.set_cons_succ, i64_w, i32_w]
    rfl
   iterate 2
    refine tk_ (N := some _) (v := ?_) (a' := ?_) rfl rfl (take_ofW HT_.out HW_.out (by kernel_rfl)) (fun _ _ _ h => h) (Or.inl ⟨by rfl, ?_⟩) hHeld ?_ ?_
    rotate_left
    ·intro w' s
     go_simp
     with_reducible rfl
    rotate_left
    ·simp only [Act.put, List.setIfInBounds_toArray, List.set_cons_zero, List.set_cons_succ, i64_w, i32_w]
     rfl
   refine done_ (done_of HT_.out (by kernel_rfl)) ?_
   have hr6 := blk_drew hr5
   have HB6 := Aside0.mk (HB5.out.drew)
   have HB16 := Aside0.mk (HB15.out.drew)
   have x1 : w5.drew.cell? _ = _ := x1
   have k0 := pw_cell_below HB16.out g0.out
   have k2 := pw_cell_below HB16.out g2.out
   have k3 := pw_cell_below HB16.out g3.out
   clear hHeld
   obtain ⟨w6, hw6⟩ : ∃ w6, w5.drew = w6 := ⟨_, rfl⟩
   rw [hw6] at hr6 HB6 HB16 x1 k0 k2 k3 ⊢
   have hb4w : b4 < w6.heap.size := blk_lt hr6
   go_wp2_with fail
   have hbk4 : (ad.add (q * 2)).block < b4 := by have := HBK.out; omega
   have hwk4 : w.heap.size < b4 := by omega
   have x1b := hbk4
   have k2b := hwk4
   have k3b := hwk4
   clear hw6 hbk4 hwk4 k0
   have u1 : (b ≤ tx.size) = True := eq_true (by omega)
   obtain ⟨ea, eb, hE, _, _⟩ := end_cx (tx.extract 0 b) (by rw [ByteArray.size_extract]; have := HSZ.out; omega)
   have RE := Aside0.mk (fun w' => by
    have h := Wk.refEnd_calls (tx.extract 0 b) (by rw [ByteArray.size_extract]; have := HSZ.out; omega) w'
    rw [show Wk.encP (Wk.pos (bytesOf (tx.extract 0 b))) = .complex .f64 ea eb from hE] at h
    exact h)
   have HEE := Aside0.mk hE
   clear hE
   refine start_ (n := 11) (S := fun w' => Below b4 w6 w') (ds := [10]) (bs 11 0) (by kernel_rfl) rfl rfl (below_drew1 (Below.refl _ _)) (fun hHeld => ?_)
   refine with_tabW refAns.tab27 refAns.bits27 (fun HT_ HW_ => ?_)
   iterate 4
    refine tk_ (N := some _) (v := ?_) (a' := ?_) rfl rfl (take_ofW HT_.out HW_.out (by kernel_rfl)) (fun _ _ _ h => h) (Or.inl ⟨by rfl, ?_⟩) hHeld ?_ ?_
    rotate_left
    ·intro w' s
     go_simp
     with_reducible rfl
    rotate_left
    ·simp only [Act.put, List.setIfInBounds_toArray, List.set_cons_zero, List.set_cons_succ, i64_w, i32_w]
     rfl
   refine take_ (i := 4) (N := some 151) (v := ?_) (a' := ?_) (bs 11 31) rfl rfl (take_ofW HT_.out HW_.out (by kernel_rfl)) (fun _ _ _ h => h) (Or.inl ⟨by rfl, ?_⟩) hHeld ?_ ?_
   rotate_left
   ·intro w' s
    have s1 := cell_under (a := ⟨(ad.add (q * 2)).block, (ad.add (q * 2)).off + 1, none⟩) s x1b x1
    have s2 := cell_under (a := ⟨w.heap.size, 2, none⟩) s k2b k2
    have s3 := cell_under (a := ⟨w.heap.size, 3, none⟩) s k3b k3
    go_simp
    with_reducible rfl
   rotate_left
   ·simp only [Act.put, List.setIfInBounds_toArray, List.set_cons_zero, List.set_cons_succ, i64_w, i32_w]
    rfl
   refine take_ (i := 5) (N := some 152) (v := ?_) (a' := ?_) (bs 11 63) rfl rfl (take_ofW HT_.out HW_.out (by kernel_rfl)) (fun _ _ _ h => h) (Or.inl ⟨by rfl, ?_⟩) hHeld ?_ ?_
   rotate_left
   ·intro w' s
    go_simp
    with_reducible rfl
   rotate_left
   ·simp only [Act.put, List.setIfInBounds_toArray, List.set_cons_zero, List.set_cons_succ, i64_w, i32_w]
    rfl
   refine take_ (i := 6) (N := some 153) (v := ?_) (a' := ?_) (bs 11 127) rfl rfl (take_ofW HT_.out HW_.out (by kernel_rfl)) (fun _ _ _ h => h) (Or.inl ⟨by rfl, ?_⟩) hHeld ?_ ?_
   rotate_left
   ·intro w' s
    have s1 := cell_under (a := ⟨(ad.add (q * 2)).block, (ad.add (q * 2)).off + 1, none⟩) s x1b x1
    have s2 := cell_under (a := ⟨w.heap.size, 2, none⟩) s k2b k2
    have s3 := cell_under (a := ⟨w.heap.size, 3, none⟩) s k3b k3
    go_simp
    with_reducible rfl
   rotate_left
   ·simp only [Act.put, List.setIfInBounds_toArray, List.set_cons_zero, List.set_cons_succ, i64_w, i32_w]
    rfl
   refine take_ (i := 7) (N := some 154) (v := ?_) (a' := ?_) (bs 11 255) rfl rfl (take_ofW HT_.out HW_.out (by kernel_rfl)) (fun _ _ _ h => h) (Or.inl ⟨by rfl, ?_⟩) hHeld ?_ ?_
   rotate_left
   ·intro w' s
    go_simp
    with_reducible rfl
   rotate_left
   ·simp only [Act.put, List.setIfInBounds_toArray, List.set_cons_zero, List.set_cons_succ, i64_w, i32_w]
    rfl
   refine one_ (i := 8) (N := some 155) (bs 11 511) rfl rfl (one_of HT_.out (by kernel_rfl)) (by decide) (fun K hK => ?_)
   refine goes_ Tryz.func30 (by kernel_rfl) rfl #[.string (tx.extract 0 b)] (by rfl) rfl rfl (by (try simp only [List.map_toArray, List.map_cons, List.map_nil]); first | done | rfl | (simp only [List.length_drop, List.length_take]; rfl)) ?_
   refine (RE.out _).mono ?_
   rintro en w7 ⟨rfl, hb⟩
   refine ⟨_, rfl, ?_⟩
   have hS7 := hHeld.trans (hb.mono (Nat.le_of_lt (Nat.lt_of_lt_of_le hb4w (show w6.heap.size ≤ _ from hHeld.size))))
   have hr7 := blk_below (blk_drew hr6) hb
   have HB7 := Aside0.mk (below_step HB6.out.drew hb)
   refine hK.out _ _ hS7 (fun hHeld => ?_)
   clear hK K
   refine norm_ (a' := ?_) ?_ ?_
   rotate_left
   ·show Act.put _ (some 155) _ = _
    simp only [Act.put, List.setIfInBounds_toArray, List.set_cons_zero, List.set_cons_succ, i64_w, i32_w]
    rfl
   refine take_ (i := 9) (N := some 156) (v := ?_) (a' := ?_) (bs 11 1023) rfl rfl (take_ofW HT_.out HW_.out (by kernel_rfl)) (fun _ _ _ h => h) (Or.inl ⟨by rfl, ?_⟩) hHeld ?_ ?_
   rotate_left
   ·intro w' s
    go_simp
    with_reducible rfl
   rotate_left
   ·simp only [Act.put, List.setIfInBounds_toArray, List.set_cons_zero, List.set_cons_succ, i64_w, i32_w]
    rfl
   refine last_ (i := 10) (N := none) (bs 11 2047) rfl rfl (one_of HT_.out (by kernel_rfl)) (by decide) (fun K hK => ?_)
   obtain ⟨wz, hrs, hz, hbz, hfar⟩ := rep_put_far (repCells 0 0 ⟨#[]⟩ nilS nilS nilS (.complex .f64 ea eb)) hr7 rfl rfl (by simp [repCells, nilS, zeroC, Value.oneCell'])
   have RS := Aside0.mk hrs
   have HBz := Aside0.mk (HB7.out.trans (hbz.mono (show w.heap.size ≤ b4 by omega)))
   refine skip_ (w1 := wz) (by rfl) rfl (store_runs rfl rfl rfl RS.out) (hK.out _ _ ?_)
   clear hK K
   refine done_ (done_of HT_.out (by kernel_rfl)) ?_
   go_wp2_with fail
   exact bodyPost_ret (ans_results _ b4 (repCells 0 0 ⟨#[]⟩ nilS nilS nilS (.complex .f64 ea eb)).toArray rfl hz _ rfl) rfl ⟨by rw [HE.out, show plotAt (tx.extract 0 b, 0) = endOf (tx.extract 0 b) from rfl, HEE.out], HBz.out⟩
end Go.Proofs.YtibhenengpdahaaGreat.P
