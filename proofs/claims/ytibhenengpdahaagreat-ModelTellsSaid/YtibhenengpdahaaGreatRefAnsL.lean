/- The document's Answer, of Count and of Locate. Conditions: how the list lies in memory, and its length. (Printed by genref.py.) -/
import Derived.Test.YtibhenengpdahaaGreatJK
set_option linter.unusedVariables false
set_option linter.unusedSimpArgs false
namespace Go.Proofs.YtibhenengpdahaaGreat.P
open Go.RowKit Go.Proofs.YtibhenengpdahaaGreatW.PrintWords Go.Proofs.YtibhenengpdahaaGreatW.PrintLast Go.Proofs.YtibhenengpdahaaGreatW.PrintMore

def refSp.T6 : Bool × List (List Nat × List Nat) := (true, [([], []), ([0], [0]), ([], []), ([2], [2]), ([1, 3, 3], [1, 3]), ([4, 4, 0, 1, 2, 3, 4], [4])])
def refSp.B6 : List Nat := [0, 1, 0, 4, 15, 31]
theorem refSp.tab6 : rtab .any (opsOf Tryz.f7 6) = refSp.T6 := by kernel_rfl
theorem refSp.bits6 : waitsOk refSp.T6.2 refSp.B6 = true := by kernel_rfl
def refSp.T11 : Bool × List (List Nat × List Nat) := (true, [([], []), ([0], [0]), ([], []), ([], []), ([], []), ([3, 4], [3, 4]), ([5], [5]), ([6], [6]), ([2, 7], [2, 7]), ([8], [8]), ([9], [9]), ([], []), ([], []), ([11, 12], [11, 12]), ([13], [13]), ([14], [14]), ([10, 15], [10, 15]), ([16], [16]), ([1, 17], [1, 17]), ([0, 1, 2, 3, 4, 5, 6, 7, 8, 9, 10, 11, 12, 13, 14, 15, 16, 17, 18], []), ([19, 18, 18, 0, 1, 2, 3, 4, 5, 6, 7, 8, 9, 10, 11, 12, 13, 14, 15, 16, 17, 18], [18, 19])])
def refSp.B11 : List Nat := [0, 1, 0, 0, 0, 24, 56, 120, 252, 508, 1020, 0, 0, 6144, 14336, 30720, 65532, 131068, 262143, 524287, 1048575]
theorem refSp.tab11 : rtab .any (opsOf Tryz.f7 11) = refSp.T11 := by kernel_rfl
theorem refSp.bits11 : waitsOk refSp.T11.2 refSp.B11 = true := by kernel_rfl
set_option maxRecDepth 100000 in
set_option maxHeartbeats 8000000 in
theorem refAns_count (A0 : Option Addr) (c0 : Nat) (l0 : List S27) (kind id fr tt snap : Int) (text : ByteArray) (w : World) (hr0 : Kd.C k27 w A0 l0.length l0) (hc0 : l0.length ≤ c0) (hl : l0.length ≤ 1000000) (hmay : mayB l0 kind id fr tt snap text = true) (hk : kind = 3) (R : List S68) (kn : Nat) (hkn : scriniumref1_Naive.f kn text (textsOf l0) = some R) (hval : ∀ x ∈ R, 0 ≤ x.f0 ∧ x.f0 < (l0.length : Int)) (hRl : R.length ≤ 1000000) :
  Calls Tryz.prog 7 #[.slice A0 l0.length c0, .agg #[.int .i64 kind, .int .i64 id, .int .i64 fr, .int .i64 tt, .int .i64 snap, .string text]] w fun e w' =>
   e = .returned (.agg (repCells 0 R.length ⟨#[]⟩ nilS nilS nilS zeroC).toArray) ∧ Below w.heap.size w w' := by
 subst hk
 have hmay2 := hmay
 unfold mayB at hmay2
 rw [Bool.and_eq_true] at hmay2
 have HM := Aside0.mk hmay2
 have HV := Aside0.mk hval
 have HRL := Aside0.mk hRl
 have TX := Aside0.mk (fun w' (hr : Kd.C k27 w' A0 l0.length l0) => scriniumref1_Texts.calls (l0.length + 1) A0 c0 l0 (textsOf l0) w' hr hc0 (refTexts_ok l0 hl))
 have NV := Aside0.mk (fun A c w' (hr : Kd.C Kd.string w' A (textsOf l0).length (textsOf l0)) hc => scriniumref1_Naive.calls kn text A c (textsOf l0) R w' hr hc hkn)
 clear hmay hmay2 hkn hval hRl
 have MR := Aside0.mk (fun w' (hr : Kd.C k27 w' A0 l0.length l0) => refMR_calls A0 c0 l0 w' hr hc0 hl)
 have AR := Aside0.mk (fun w' => refAR_calls 3 id fr tt snap text w')
 rw [HM.out.1] at MR
 rw [HM.out.2] at AR
 have HR := Aside0.mk hr0
 have HC := Aside0.mk hc0
 have HL := Aside0.mk hl
 obtain ⟨W1, hW1⟩ : ∃ W1, w.alloc (.cells #[.int .i64 3, .int .i64 id, .int .i64 fr, .int .i64 tt, .int .i64 snap, .string text] 24) = W1 := ⟨_, rfl⟩
 have HB1 : Aside0 (Below w.heap.size w W1) := ⟨by rw [← hW1]; exact below_alloc (Below.refl _ _) _⟩
 have g0 : Aside0 (W1.cell? ⟨w.heap.size, 0, none⟩ = some (.int .i64 3)) := ⟨by rw [← hW1]; exact cell_newA w _ _ 0 _ rfl⟩
 have g1 : Aside0 (W1.cell? ⟨w.heap.size, 1, none⟩ = some (.int .i64 id)) := ⟨by rw [← hW1]; exact cell_newA w _ _ 1 _ rfl⟩
 have g2 : Aside0 (W1.cell? ⟨w.heap.size, 2, none⟩ = some (.int .i64 fr)) := ⟨by rw [← hW1]; exact cell_newA w _ _ 2 _ rfl⟩
 have g3 : Aside0 (W1.cell? ⟨w.heap.size, 3, none⟩ = some (.int .i64 tt)) := ⟨by rw [← hW1]; exact cell_newA w _ _ 3 _ rfl⟩
 have g4 : Aside0 (W1.cell? ⟨w.heap.size, 4, none⟩ = some (.int .i64 snap)) := ⟨by rw [← hW1]; exact cell_newA w _ _ 4 _ rfl⟩
 have g5 : Aside0 (W1.cell? ⟨w.heap.size, 5, none⟩ = some (.string text)) := ⟨by rw [← hW1]; exact cell_newA w _ _ 5 _ rfl⟩
 have W1E := Aside0.mk hW1
 clear hr0 hc0 hl
 go_enter Tryz.func7, Tryz.ntmps7
 go_wp2_with fail
 try rw [W1E.out]
 obtain ⟨b4, hb4⟩ : ∃ b4, W1.heap.size = b4 := ⟨_, rfl⟩
 have hb5 : w.heap.size + 1 = b4 := by rw [← hb4, ← W1E.out]; exact (Array.size_push _).symm
 obtain ⟨W2, hW2⟩ : ∃ W2, W1.alloc (.cells (repCells 0 0 ⟨#[]⟩ nilS nilS nilS zeroC).toArray 34) = W2 := ⟨_, rfl⟩
 have hr2 : W2.heap[b4]? = some (.cells (repCells 0 0 ⟨#[]⟩ nilS nilS nilS zeroC).toArray 34 (0, 0)) := by rw [← hW2, ← hb4]; exact heap_alloc_new _ _
 have HB12 : Aside0 (Below W1.heap.size W1 W2) := ⟨by rw [← hW2]; exact below_alloc (Below.refl _ _) _⟩
 change Calls _ _ _ (W1.alloc (.cells (repCells 0 0 ⟨#[]⟩ nilS nilS nilS zeroC).toArray 34)) _
 rw [hW2, hb4]
 refine (MR.out _ (Kd.C_below HR.out (below_step HB1.out HB12.out))).mono ?_
 rintro en w3 ⟨rfl, hb⟩
 have HB13 := Aside0.mk (below_step HB12.out hb)
 have hr3 := blk_below hr2 hb
 have HB3 := Aside0.mk (below_step HB1.out HB13.out)
 clear hW2 hb
 all_goals skip
 have k0 := pw_cell_below HB13.out g0.out
 have k1 := pw_cell_below HB13.out g1.out
 have k2 := pw_cell_below HB13.out g2.out
 have k3 := pw_cell_below HB13.out g3.out
 have k4 := pw_cell_below HB13.out g4.out
 have k5 := pw_cell_below HB13.out g5.out
 go_wp2_with fail
 refine (AR.out _).mono ?_
 rintro en w4 ⟨rfl, hb⟩
 have HB14 := Aside0.mk (below_step HB13.out hb)
 have HB4 := Aside0.mk (below_step HB3.out hb)
 have hr4 := blk_below hr3 hb
 clear hb k0 k1 k2 k3 k4 k5
 have k0 := pw_cell_below HB14.out g0.out
 have k5 := pw_cell_below HB14.out g5.out
 go_wp2_with fail
 refine start_ (n := 6) (S := fun w' => Below w4.heap.size w4 w') (ds := []) (bs 6 0) (by kernel_rfl) rfl rfl (below_drew1 (Below.refl _ _)) (fun hHeld => ?_)
 refine with_tabW refSp.tab6 refSp.bits6 (fun HT_ HW_ => ?_)
 refine take_ (i := 0) (N := some 35) (v := ?_) (a' := ?_) (bs 6 1) rfl rfl (take_ofW HT_.out HW_.out (by kernel_rfl)) (fun _ _ _ h => h) (Or.inl ⟨by rfl, ?_⟩) hHeld ?_ ?_
 rotate_left
 ·intro w' s
  go_simp
  with_reducible rfl
 rotate_left
 ·simp only [Act.put, List.setIfInBounds_toArray, List.set_cons_zero, List.set_cons_succ, i64_w, i32_w]
  rfl
 refine take_ (i := 1) (N := some 36) (v := ?_) (a' := ?_) (bs 6 3) rfl rfl (take_ofW HT_.out HW_.out (by kernel_rfl)) (fun _ _ _ h => h) (Or.inl ⟨by rfl, ?_⟩) hHeld ?_ ?_
 rotate_left
 ·intro w' s
  have s0 := pw_cell_below s k5
  go_simp
  with_reducible rfl
 rotate_left
 ·simp only [Act.put, List.setIfInBounds_toArray, List.set_cons_zero, List.set_cons_succ, i64_w, i32_w]
  rfl
 refine take_ (i := 2) (N := some 37) (v := ?_) (a' := ?_) (bs 6 7) rfl rfl (take_ofW HT_.out HW_.out (by kernel_rfl)) (fun _ _ _ h => h) (Or.inl ⟨by rfl, ?_⟩) hHeld ?_ ?_
 rotate_left
 ·intro w' s
  go_simp
  with_reducible rfl
 rotate_left
 ·simp only [Act.put, List.setIfInBounds_toArray, List.set_cons_zero, List.set_cons_succ, i64_w, i32_w]
  rfl
 refine one_ (i := 3) (N := some 38) (bs 6 15) rfl rfl (one_of HT_.out (by kernel_rfl)) (by decide) (fun K hK => ?_)
 refine goes_ Tryz.func28 (by kernel_rfl) rfl #[.slice A0 l0.length c0] (by rfl) rfl rfl (by (try simp only [List.map_toArray, List.map_cons, List.map_nil]); first | done | rfl | (simp only [List.length_drop, List.length_take]; rfl)) ?_
 refine (TX.out _ (Kd.C_below HR.out (below_step HB4.out hHeld))).mono ?_
 rintro en w6 ⟨v6, rfl, ho, hb⟩
 refine ⟨_, rfl, ?_⟩
 have hS6 := below_step hHeld hb
 obtain ⟨A6, c6, rfl⟩ := Kd.R_slice ho
 have HC6 := Aside0.mk (Kd.R_reads' ho)
 clear ho hb
 refine hK.out _ _ hS6 (fun hHeld => ?_)
 clear hK K
 refine norm_ (a' := ?_) ?_ ?_
 rotate_left
 ·show Act.put _ (some 38) _ = _
  simp only [Act.put, List.setIfInBounds_toArray, List.set_cons_zero, List.set_cons_succ, i64_w, i32_w]
  rfl
 refine one_ (i := 4) (N := some 39) (bs 6 31) rfl rfl (one_of HT_.out (by kernel_rfl)) (by decide) (fun K hK => ?_)
 refine goes_ Tryz.func27 (by kernel_rfl) rfl #[.string text, .slice A6 (textsOf l0).length c6] (by rfl) rfl rfl (by (try simp only [List.map_toArray, List.map_cons, List.map_nil]); first | done | rfl | (simp only [List.length_drop, List.length_take]; rfl)) ?_
 refine (NV.out _ _ _ HC6.out.2.2 HC6.out.2.1).mono ?_
 rintro en w7 ⟨v7, rfl, ho, hb⟩
 refine ⟨_, rfl, ?_⟩
 have hS7 := below_step hS6 hb
 obtain ⟨A7, c7, rfl⟩ := Kd.R_slice ho
 have HO7 := Aside0.mk (Kd.R_mono (Kd.R_bound ho) (ok' := fun k => k ≠ w7.heap.size) (fun k hk => by have := hk.2.2; omega))
 clear ho hb
 refine hK.out _ _ hS7 (fun hHeld => ?_)
 clear hK K
 refine norm_ (a' := ?_) ?_ ?_
 rotate_left
 ·show Act.put _ (some 39) _ = _
  simp only [Act.put, List.setIfInBounds_toArray, List.set_cons_zero, List.set_cons_succ, i64_w, i32_w]
  rfl
 refine take_ (i := 5) (N := some 5) (v := ?_) (a' := ?_) (bs 6 63) rfl rfl (take_ofW HT_.out HW_.out (by kernel_rfl)) (fun _ _ _ h => h) (Or.inl ⟨by rfl, ?_⟩) hHeld ?_ ?_
 rotate_left
 ·intro w' s
  go_simp
  with_reducible rfl
 rotate_left
 ·simp only [Act.put, List.setIfInBounds_toArray, List.set_cons_zero, List.set_cons_succ, i64_w, i32_w]
  rfl
 refine done_ (done_of HT_.out (by kernel_rfl)) ?_
 have HB7 := Aside0.mk (below_step HB4.out hS7)
 have HB17 := Aside0.mk (below_step HB14.out hS7)
 have hr7 := blk_below hr4 hS7
 obtain ⟨wp, hrs, hrp, hbp, hfp⟩ := rep_put_far (repCells 0 R.length ⟨#[]⟩ nilS nilS nilS zeroC) (W := w7.alloc (.cells #[.int .i64 0, .int .i64 0, .int .i64 0, .string ⟨#[]⟩, .slice none 0 0, .slice none 0 0, .slice none 0 0, .complex .f64 0 0] 34)) (b := w7.heap.size) (heap_alloc_new _ _) rfl rfl (by simp [repCells, nilS, zeroC, Value.oneCell'])
 have RS := Aside0.mk hrs
 have HB7p := Aside0.mk ((below_alloc (Below.refl w7.heap.size w7) (.cells #[.int .i64 0, .int .i64 0, .int .i64 0, .string ⟨#[]⟩, .slice none 0 0, .slice none 0 0, .slice none 0 0, .complex .f64 0 0] 34)).trans hbp)
 have K0 := Aside0.mk (pw_cell_below HB7p.out (pw_cell_below HB17.out g0.out))
 have H4A := Aside0.mk (blk_below hr7 HB7p.out)
 have HRp := Aside0.mk hrp
 have HBp := Aside0.mk (below_step HB7.out HB7p.out)
 have HO8 := Aside0.mk (Kd.R_below HO7.out HB7p.out)
 have H45 : Aside0 (b4 < w7.heap.size) := ⟨blk_lt hr7⟩
 have HWB : Aside0 (w.heap.size < b4) := ⟨by omega⟩
 have H5N : Aside0 (w7.heap.size < wp.heap.size) := ⟨blk_lt hrp⟩
 clear hrs hrp hbp hfp hr7 hr4 hHeld hS7 hS6 k0 k5
 go_wp2_with (first
  | ((with_reducible refine gate_store (t := 34) (p := 6) (v := .tmp 42) rfl ?_); refine store_event (t := 34) (p := 6) (v := .tmp 42) (w1 := wp) rfl rfl rfl ?hr ?_; (case hr => exact store_runs rfl rfl rfl RS.out); intro w9 hw; subst hw))
 obtain ⟨wp, hwp⟩ : ∃ wp, wp = w9 := ⟨_, rfl⟩
 subst hwp
 obtain ⟨b5, hb5e⟩ : ∃ b5, w7.heap.size = b5 := ⟨_, rfl⟩
 rw [hb5e] at HRp H45 H5N HO8 ⊢
 go_loopw [7] (fun i wr => i = .int .i64 0 ∧ wr = wp) (fun _ _ => 0)
 case atStart => exact ⟨rfl, rfl⟩
 case round =>
  obtain ⟨rfl, rfl⟩ := hrel
  have k0 := K0.out
  have d0 : wr.cell? ⟨b5, 0, none⟩ = some (.int .i64 0) := (blk_cell HRp.out 0).trans rfl
  have d1 : wr.cell? ⟨b5, 1, none⟩ = some (.int .i64 0) := (blk_cell HRp.out 1).trans rfl
  have d2 : wr.cell? ⟨b5, 2, none⟩ = some (.int .i64 R.length) := (blk_cell HRp.out 2).trans rfl
  have d3 : wr.cell? ⟨b5, 3, none⟩ = some (.string ⟨#[]⟩) := (blk_cell HRp.out 3).trans rfl
  have d4 : wr.cell? ⟨b5, 4, none⟩ = some (.slice none 0 0) := (blk_cell HRp.out 4).trans rfl
  have d5 : wr.cell? ⟨b5, 5, none⟩ = some (.slice none 0 0) := (blk_cell HRp.out 5).trans rfl
  have d6 : wr.cell? ⟨b5, 6, none⟩ = some (.slice none 0 0) := (blk_cell HRp.out 6).trans rfl
  have d7 : wr.cell? ⟨b5, 7, none⟩ = some (.complex .f64 0 0) := (blk_cell HRp.out 7).trans rfl
  obtain ⟨wz, hrs, hz, hbz, hfar⟩ := rep_put_far (repCells 0 R.length ⟨#[]⟩ nilS nilS nilS zeroC) H4A.out rfl rfl (by simp [repCells, nilS, zeroC, Value.oneCell'])
  have RS := Aside0.mk hrs
  have HBz := Aside0.mk (HBp.out.trans (hbz.mono (show w.heap.size ≤ b4 by have := HWB.out; omega)))
  clear hrs hbz hfar
  by_cases hlt : 0 < R.length
  ·have c1 : decide ((0 : Int) < (R.length : Int)) = true := decide_eq_true (by omega)
   have c2 : decide (0 < R.length) = true := decide_eq_true hlt
   go_wp2_with (first
    | ((with_reducible refine gate_store (t := 34) (p := 4) (v := .tmp 74) rfl ?_); refine store_event (t := 34) (p := 4) (v := .tmp 74) (w1 := wz) rfl rfl rfl ?hr ?_; (case hr => exact store_runs rfl rfl rfl RS.out); intro w9 hw; subst hw))
   exact bodyPost_ret (ans_results _ b4 (repCells 0 R.length ⟨#[]⟩ nilS nilS nilS zeroC).toArray rfl hz _ rfl) rfl ⟨rfl, HBz.out⟩
  ·have c1 : decide ((0 : Int) < (R.length : Int)) = false := decide_eq_false (by omega)
   have c2 : decide (0 < R.length) = false := decide_eq_false hlt
   go_wp2_with (first
    | ((with_reducible refine gate_store (t := 34) (p := 4) (v := .tmp 74) rfl ?_); refine store_event (t := 34) (p := 4) (v := .tmp 74) (w1 := wz) rfl rfl rfl ?hr ?_; (case hr => exact store_runs rfl rfl rfl RS.out); intro w9 hw; subst hw))
   exact bodyPost_ret (ans_results _ b4 (repCells 0 R.length ⟨#[]⟩ nilS nilS nilS zeroC).toArray rfl hz _ rfl) rfl ⟨rfl, HBz.out⟩
set_option maxRecDepth 100000 in
set_option maxHeartbeats 8000000 in
theorem refAns_locate (A0 : Option Addr) (c0 : Nat) (l0 : List S27) (kind id fr tt snap : Int) (text : ByteArray) (w : World) (hr0 : Kd.C k27 w A0 l0.length l0) (hc0 : l0.length ≤ c0) (hl : l0.length ≤ 1000000) (hmay : mayB l0 kind id fr tt snap text = true) (hk : kind = 4) (R : List S68) (kn : Nat) (hkn : scriniumref1_Naive.f kn text (textsOf l0) = some R) (hval : ∀ x ∈ R, 0 ≤ x.f0 ∧ x.f0 < (l0.length : Int)) (hRl : R.length ≤ 1000000) :
  Calls Tryz.prog 7 #[.slice A0 l0.length c0, .agg #[.int .i64 kind, .int .i64 id, .int .i64 fr, .int .i64 tt, .int .i64 snap, .string text]] w fun e w' =>
   ∃ (Av : Option Addr) (cv : Nat), e = .returned (.agg (repCells 0 R.length ⟨#[]⟩ (.slice Av R.length cv) nilS nilS zeroC).toArray) ∧ Kd.R k61 61 w' w.heap.size (fun _ => True) (.slice Av R.length cv) (R.map (spotOf l0)) ∧ Below w.heap.size w w' := by
 subst hk
 have hmay2 := hmay
 unfold mayB at hmay2
 rw [Bool.and_eq_true] at hmay2
 have HM := Aside0.mk hmay2
 have HV := Aside0.mk hval
 have HRL := Aside0.mk hRl
 have TX := Aside0.mk (fun w' (hr : Kd.C k27 w' A0 l0.length l0) => scriniumref1_Texts.calls (l0.length + 1) A0 c0 l0 (textsOf l0) w' hr hc0 (refTexts_ok l0 hl))
 have NV := Aside0.mk (fun A c w' (hr : Kd.C Kd.string w' A (textsOf l0).length (textsOf l0)) hc => scriniumref1_Naive.calls kn text A c (textsOf l0) R w' hr hc hkn)
 clear hmay hmay2 hkn hval hRl
 have MR := Aside0.mk (fun w' (hr : Kd.C k27 w' A0 l0.length l0) => refMR_calls A0 c0 l0 w' hr hc0 hl)
 have AR := Aside0.mk (fun w' => refAR_calls 4 id fr tt snap text w')
 rw [HM.out.1] at MR
 rw [HM.out.2] at AR
 have HR := Aside0.mk hr0
 have HC := Aside0.mk hc0
 have HL := Aside0.mk hl
 obtain ⟨W1, hW1⟩ : ∃ W1, w.alloc (.cells #[.int .i64 4, .int .i64 id, .int .i64 fr, .int .i64 tt, .int .i64 snap, .string text] 24) = W1 := ⟨_, rfl⟩
 have HB1 : Aside0 (Below w.heap.size w W1) := ⟨by rw [← hW1]; exact below_alloc (Below.refl _ _) _⟩
 have g0 : Aside0 (W1.cell? ⟨w.heap.size, 0, none⟩ = some (.int .i64 4)) := ⟨by rw [← hW1]; exact cell_newA w _ _ 0 _ rfl⟩
 have g1 : Aside0 (W1.cell? ⟨w.heap.size, 1, none⟩ = some (.int .i64 id)) := ⟨by rw [← hW1]; exact cell_newA w _ _ 1 _ rfl⟩
 have g2 : Aside0 (W1.cell? ⟨w.heap.size, 2, none⟩ = some (.int .i64 fr)) := ⟨by rw [← hW1]; exact cell_newA w _ _ 2 _ rfl⟩
 have g3 : Aside0 (W1.cell? ⟨w.heap.size, 3, none⟩ = some (.int .i64 tt)) := ⟨by rw [← hW1]; exact cell_newA w _ _ 3 _ rfl⟩
 have g4 : Aside0 (W1.cell? ⟨w.heap.size, 4, none⟩ = some (.int .i64 snap)) := ⟨by rw [← hW1]; exact cell_newA w _ _ 4 _ rfl⟩
 have g5 : Aside0 (W1.cell? ⟨w.heap.size, 5, none⟩ = some (.string text)) := ⟨by rw [← hW1]; exact cell_newA w _ _ 5 _ rfl⟩
 have W1E := Aside0.mk hW1
 clear hr0 hc0 hl
 go_enter Tryz.func7, Tryz.ntmps7
 go_wp2_with fail
 try rw [W1E.out]
 obtain ⟨b4, hb4⟩ : ∃ b4, W1.heap.size = b4 := ⟨_, rfl⟩
 have hb5 : w.heap.size + 1 = b4 := by rw [← hb4, ← W1E.out]; exact (Array.size_push _).symm
 obtain ⟨W2, hW2⟩ : ∃ W2, W1.alloc (.cells (repCells 0 0 ⟨#[]⟩ nilS nilS nilS zeroC).toArray 34) = W2 := ⟨_, rfl⟩
 have hr2 : W2.heap[b4]? = some (.cells (repCells 0 0 ⟨#[]⟩ nilS nilS nilS zeroC).toArray 34 (0, 0)) := by rw [← hW2, ← hb4]; exact heap_alloc_new _ _
 have HB12 : Aside0 (Below W1.heap.size W1 W2) := ⟨by rw [← hW2]; exact below_alloc (Below.refl _ _) _⟩
 change Calls _ _ _ (W1.alloc (.cells (repCells 0 0 ⟨#[]⟩ nilS nilS nilS zeroC).toArray 34)) _
 rw [hW2, hb4]
 refine (MR.out _ (Kd.C_below HR.out (below_step HB1.out HB12.out))).mono ?_
 rintro en w3 ⟨rfl, hb⟩
 have HB13 := Aside0.mk (below_step HB12.out hb)
 have hr3 := blk_below hr2 hb
 have HB3 := Aside0.mk (below_step HB1.out HB13.out)
 clear hW2 hb
 all_goals skip
 have k0 := pw_cell_below HB13.out g0.out
 have k1 := pw_cell_below HB13.out g1.out
 have k2 := pw_cell_below HB13.out g2.out
 have k3 := pw_cell_below HB13.out g3.out
 have k4 := pw_cell_below HB13.out g4.out
 have k5 := pw_cell_below HB13.out g5.out
 go_wp2_with fail
 refine (AR.out _).mono ?_
 rintro en w4 ⟨rfl, hb⟩
 have HB14 := Aside0.mk (below_step HB13.out hb)
 have HB4 := Aside0.mk (below_step HB3.out hb)
 have hr4 := blk_below hr3 hb
 clear hb k0 k1 k2 k3 k4 k5
 have k0 := pw_cell_below HB14.out g0.out
 have k5 := pw_cell_below HB14.out g5.out
 go_wp2_with fail
 refine start_ (n := 6) (S := fun w' => Below w4.heap.size w4 w') (ds := []) (bs 6 0) (by kernel_rfl) rfl rfl (below_drew1 (Below.refl _ _)) (fun hHeld => ?_)
 refine with_tabW refSp.tab6 refSp.bits6 (fun HT_ HW_ => ?_)
 refine take_ (i := 0) (N := some 35) (v := ?_) (a' := ?_) (bs 6 1) rfl rfl (take_ofW HT_.out HW_.out (by kernel_rfl)) (fun _ _ _ h => h) (Or.inl ⟨by rfl, ?_⟩) hHeld ?_ ?_
 rotate_left
 ·intro w' s
  go_simp
  with_reducible rfl
 rotate_left
 ·simp only [Act.put, List.setIfInBounds_toArray, List.set_cons_zero, List.set_cons_succ, i64_w, i32_w]
  rfl
 refine take_ (i := 1) (N := some 36) (v := ?_) (a' := ?_) (bs 6 3) rfl rfl (take_ofW HT_.out HW_.out (by kernel_rfl)) (fun _ _ _ h => h) (Or.inl ⟨by rfl, ?_⟩) hHeld ?_ ?_
 rotate_left
 ·intro w' s
  have s0 := pw_cell_below s k5
  go_simp
  with_reducible rfl
 rotate_left
 ·simp only [Act.put, List.setIfInBounds_toArray, List.set_cons_zero, List.set_cons_succ, i64_w, i32_w]
  rfl
 refine take_ (i := 2) (N := some 37) (v := ?_) (a' := ?_) (bs 6 7) rfl rfl (take_ofW HT_.out HW_.out (by kernel_rfl)) (fun _ _ _ h => h) (Or.inl ⟨by rfl, ?_⟩) hHeld ?_ ?_
 rotate_left
 ·intro w' s
  go_simp
  with_reducible rfl
 rotate_left
 ·simp only [Act.put, List.setIfInBounds_toArray, List.set_cons_zero, List.set_cons_succ, i64_w, i32_w]
  rfl
 refine one_ (i := 3) (N := some 38) (bs 6 15) rfl rfl (one_of HT_.out (by kernel_rfl)) (by decide) (fun K hK => ?_)
 refine goes_ Tryz.func28 (by kernel_rfl) rfl #[.slice A0 l0.length c0] (by rfl) rfl rfl (by (try simp only [List.map_toArray, List.map_cons, List.map_nil]); first | done | rfl | (simp only [List.length_drop, List.length_take]; rfl)) ?_
 refine (TX.out _ (Kd.C_below HR.out (below_step HB4.out hHeld))).mono ?_
 rintro en w6 ⟨v6, rfl, ho, hb⟩
 refine ⟨_, rfl, ?_⟩
 have hS6 := below_step hHeld hb
 obtain ⟨A6, c6, rfl⟩ := Kd.R_slice ho
 have HC6 := Aside0.mk (Kd.R_reads' ho)
 clear ho hb
 refine hK.out _ _ hS6 (fun hHeld => ?_)
 clear hK K
 refine norm_ (a' := ?_) ?_ ?_
 rotate_left
 ·show Act.put _ (some 38) _ = _
  simp only [Act.put, List.setIfInBounds_toArray, List.set_cons_zero, List.set_cons_succ, i64_w, i32_w]
  rfl
 refine one_ (i := 4) (N := some 39) (bs 6 31) rfl rfl (one_of HT_.out (by kernel_rfl)) (by decide) (fun K hK => ?_)
 refine goes_ Tryz.func27 (by kernel_rfl) rfl #[.string text, .slice A6 (textsOf l0).length c6] (by rfl) rfl rfl (by (try simp only [List.map_toArray, List.map_cons, List.map_nil]); first | done | rfl | (simp only [List.length_drop, List.length_take]; rfl)) ?_
 refine (NV.out _ _ _ HC6.out.2.2 HC6.out.2.1).mono ?_
 rintro en w7 ⟨v7, rfl, ho, hb⟩
 refine ⟨_, rfl, ?_⟩
 have hS7 := below_step hS6 hb
 obtain ⟨A7, c7, rfl⟩ := Kd.R_slice ho
 have HO7 := Aside0.mk (Kd.R_mono (Kd.R_bound ho) (ok' := fun k => k ≠ w7.heap.size) (fun k hk => by have := hk.2.2; omega))
 clear ho hb
 refine hK.out _ _ hS7 (fun hHeld => ?_)
 clear hK K
 refine norm_ (a' := ?_) ?_ ?_
 rotate_left
 ·show Act.put _ (some 39) _ = _
  simp only [Act.put, List.setIfInBounds_toArray, List.set_cons_zero, List.set_cons_succ, i64_w, i32_w]
  rfl
 refine take_ (i := 5) (N := some 5) (v := ?_) (a' := ?_) (bs 6 63) rfl rfl (take_ofW HT_.out HW_.out (by kernel_rfl)) (fun _ _ _ h => h) (Or.inl ⟨by rfl, ?_⟩) hHeld ?_ ?_
 rotate_left
 ·intro w' s
  go_simp
  with_reducible rfl
 rotate_left
 ·simp only [Act.put, List.setIfInBounds_toArray, List.set_cons_zero, List.set_cons_succ, i64_w, i32_w]
  rfl
 refine done_ (done_of HT_.out (by kernel_rfl)) ?_
 have HB7 := Aside0.mk (below_step HB4.out hS7)
 have HB17 := Aside0.mk (below_step HB14.out hS7)
 have hr7 := blk_below hr4 hS7
 obtain ⟨wp, hrs, hrp, hbp, hfp⟩ := rep_put_far (repCells 0 R.length ⟨#[]⟩ nilS nilS nilS zeroC) (W := w7.alloc (.cells #[.int .i64 0, .int .i64 0, .int .i64 0, .string ⟨#[]⟩, .slice none 0 0, .slice none 0 0, .slice none 0 0, .complex .f64 0 0] 34)) (b := w7.heap.size) (heap_alloc_new _ _) rfl rfl (by simp [repCells, nilS, zeroC, Value.oneCell'])
 have RS := Aside0.mk hrs
 have HB7p := Aside0.mk ((below_alloc (Below.refl w7.heap.size w7) (.cells #[.int .i64 0, .int .i64 0, .int .i64 0, .string ⟨#[]⟩, .slice none 0 0, .slice none 0 0, .slice none 0 0, .complex .f64 0 0] 34)).trans hbp)
 have K0 := Aside0.mk (pw_cell_below HB7p.out (pw_cell_below HB17.out g0.out))
 have H4A := Aside0.mk (blk_below hr7 HB7p.out)
 have HRp := Aside0.mk hrp
 have HBp := Aside0.mk (below_step HB7.out HB7p.out)
 have HO8 := Aside0.mk (Kd.R_below HO7.out HB7p.out)
 have H45 : Aside0 (b4 < w7.heap.size) := ⟨blk_lt hr7⟩
 have HWB : Aside0 (w.heap.size < b4) := ⟨by omega⟩
 have H5N : Aside0 (w7.heap.size < wp.heap.size) := ⟨blk_lt hrp⟩
 clear hrs hrp hbp hfp hr7 hr4 hHeld hS7 hS6 k0 k5
 go_wp2_with (first
  | ((with_reducible refine gate_store (t := 34) (p := 6) (v := .tmp 42) rfl ?_); refine store_event (t := 34) (p := 6) (v := .tmp 42) (w1 := wp) rfl rfl rfl ?hr ?_; (case hr => exact store_runs rfl rfl rfl RS.out); intro w9 hw; subst hw))
 obtain ⟨wp, hwp⟩ : ∃ wp, wp = w9 := ⟨_, rfl⟩
 subst hwp
 obtain ⟨b5, hb5e⟩ : ∃ b5, w7.heap.size = b5 := ⟨_, rfl⟩
 rw [hb5e] at HRp H45 H5N HO8 ⊢
 obtain ⟨n7, hn7⟩ : ∃ n7, wp.heap.size = n7 := ⟨_, rfl⟩
 have HN7 := Aside0.mk hn7
 rw [hn7] at H5N
 have HO0 : Aside0 (Kd.R k61 61 wp n7 (fun _ => True) nilS ((R.take 0).map (spotOf l0))) := ⟨Kd.R_nil _ _ _ _ _⟩
 have HU0 : Aside0 (ButAt n7 b5 wp wp) := ⟨⟨rfl, rfl, rfl, Nat.le_refl _, fun _ _ _ => rfl⟩⟩
 clear hn7
 go_loopw [7] (fun i wr => ∃ (k : Nat) (vs : Value), k ≤ R.length ∧ i = .int .i64 k ∧ Aside0 (wr.heap[b5]? = some (.cells (repCells 0 R.length ⟨#[]⟩ vs nilS nilS zeroC).toArray 34 (0, 0))) ∧ Aside0 (Kd.R k61 61 wr n7 (fun _ => True) vs ((R.take k).map (spotOf l0))) ∧ Aside0 (ButAt n7 b5 wp wr)) (fun i _ => R.length - (intOf i).toNat)
 case atStart => exact ⟨0, nilS, Nat.zero_le _, rfl, HRp, HO0, HU0⟩
 case round =>
  obtain ⟨k, vs, hk, rfl, HRr, HOs, HU⟩ := hrel
  have HRO := Aside0.mk (Kd.R_step HO8.out (fun k hk1 hk2 => HU.out.other k (by have := HN7.out; omega) hk1))
  have HBw := Aside0.mk (show Below w.heap.size w wr from HBp.out.trans ⟨HU.out.os, HU.out.tape, HU.out.output, HU.out.size, fun q hq => HU.out.other q (by have := H45.out; have := H5N.out; have := HWB.out; omega) (by have := H45.out; have := HWB.out; omega)⟩)
  have k0 : wr.cell? ⟨w.heap.size, 0, none⟩ = some (.int .i64 4) := cell_same (HU.out.other w.heap.size (by have := H45.out; have := H5N.out; have := HWB.out; omega) (by have := H45.out; have := HWB.out; omega)) K0.out
  by_cases hlt : k < R.length
  ·obtain ⟨ar, hA, hx0, hx1⟩ := at_T68 (Kd.R_reads' HRO.out).2.2 (k : Int) (by omega) (by omega)
   obtain ⟨ar2, hAb, hz0, _⟩ := at_T68 (Kd.R_reads' HO8.out).2.2 (k : Int) (by omega) (by omega)
   obtain rfl : ar = ar2 := by rw [hA] at hAb; injection hAb
   have har : (ar.add (k * 2)).block < n7 := by
    have h := cell_lt hz0
    rw [Int.toNat_natCast] at h
    have := HN7.out
    omega
   subst hA
   clear hz0 hAb
   have hv := HV.out R[k] (List.getElem_mem hlt)
   have hsp : (R.take (k + 1)).map (spotOf l0) = (R.take k).map (spotOf l0) ++ [spotOf l0 R[k]] := by
    rw [List.take_succ_eq_append_getElem hlt, List.map_append]
    rfl
   unfold spotOf at hsp
   rw [rd_spot_get R k hlt, Int.toNat_natCast] at hx0 hx1
   obtain ⟨x, hx⟩ : ∃ x, R[k] = x := ⟨_, rfl⟩
   rw [hx] at hx0 hx1 hv hsp
   clear hx
   obtain ⟨d, at_⟩ := x
   dsimp only at hx0 hx1 hv hsp
   obtain ⟨adl, hA2, hy0, hy1⟩ := at_T27 (Kd.C_below HR.out HBw.out) d hv.1 hv.2
   obtain ⟨adl2, hA3, hw0, _⟩ := at_T27 HR.out d hv.1 hv.2
   obtain rfl : adl = adl2 := by rw [hA2] at hA3; injection hA3
   have hadl : (adl.add (d.toNat * 2)).block < n7 := by have := cell_lt hw0; have := H45.out; have := H5N.out; have := HWB.out; omega
   subst hA2
   obtain ⟨id0, hid⟩ : ∃ id0, (rd_T27 l0 d).f0 = id0 := ⟨_, rfl⟩
   rw [hid] at hy0 hsp
   clear hid hw0 hA3 hy1
   have c1 : decide ((k : Int) < (R.length : Int)) = true := decide_eq_true (by omega)
   have c2 : decide (k < R.length) = true := decide_eq_true hlt
   have v1 : ((k : Int) < (R.length : Int)) = True := eq_true (by omega)
   have v2 : (0 ≤ (k : Int)) = True := eq_true (by omega)
   have v3 : IntKind.i64.wrap ((k : Int) + 1) = (k : Int) + 1 := IntWalk.i64_in _ (by have := HRL.out; omega)
   have v4 : (0 ≤ d) = True := eq_true hv.1
   have v5 : (d < (l0.length : Int)) = True := eq_true hv.2
   have s0d : wr.cell? ⟨b5, 4, none⟩ = some vs := (blk_cell HRr.out 4).trans rfl
   have HOd := Aside0.mk (Kd.R_drew HOs.out)
   have hn7w : n7 ≤ wr.heap.size := by rw [← HN7.out]; exact HU.out.size
   have hn7d : n7 ≤ wr.drew.heap.size := hn7w
   have hlen : (((R.take k).map (spotOf l0)).length + 1) * 16 ≤ 140737488355328 := by rw [List.length_map, List.length_take]; have := HRL.out; omega
   have HAR := Aside0.mk har
   have HADL := Aside0.mk hadl
   have HSP := Aside0.mk hsp
   clear har hadl hsp
   go_wp2_with fail
   clear k0
   refine start_ (n := 21) (S := fun w' => w'.cell? ⟨b5, 4, none⟩ = some vs ∧ w'.cell? (ar.add (k * 2)) = some (.int .i64 d) ∧ w'.cell? ⟨(ar.add (k * 2)).block, (ar.add (k * 2)).off + 1, none⟩ = some (.int .i64 at_) ∧ w'.cell? (adl.add (d.toNat * 2)) = some (.int .i64 id0)) (ds := [20]) (bs 21 0) (by kernel_rfl) rfl rfl ⟨s0d, hx0, hx1, hy0⟩ (fun hHeld => ?_)
   refine with_tabW refSp.tab11 refSp.bits11 (fun HT_ HW_ => ?_)
   refine take_ (i := 0) (N := some 54) (v := ?_) (a' := ?_) (bs 21 1) rfl rfl (take_ofW HT_.out HW_.out (by kernel_rfl)) (fun _ _ _ h => h) (Or.inl ⟨by rfl, ?_⟩) hHeld ?_ ?_
   rotate_left
   ·intro w' s
    go_simp
    with_reducible rfl
   rotate_left
   ·simp only [Act.put, List.setIfInBounds_toArray, List.set_cons_zero, List.set_cons_succ, i64_w, i32_w]
    rfl
   refine take_ (i := 1) (N := some 55) (v := ?_) (a' := ?_) (bs 21 3) rfl rfl (take_ofW HT_.out HW_.out (by kernel_rfl)) (fun _ _ _ h => h) (Or.inl ⟨by rfl, ?_⟩) hHeld ?_ ?_
   rotate_left
   ·intro w' s
    obtain ⟨s0, s1, s2, s3⟩ := s
    go_simp
    with_reducible rfl
   rotate_left
   ·simp only [Act.put, List.setIfInBounds_toArray, List.set_cons_zero, List.set_cons_succ, i64_w, i32_w]
    rfl
   iterate 5
    refine tk_ (N := some _) (v := ?_) (a' := ?_) rfl rfl (take_ofW HT_.out HW_.out (by kernel_rfl)) (fun _ _ _ h => h) (Or.inl ⟨by rfl, ?_⟩) hHeld ?_ ?_
    rotate_left
    ·intro w' s
     go_simp
     with_reducible rfl
    rotate_left
    ·simp only [Act.put, List.setIfInBounds_toArray, List.set_cons_zero, List.set_cons_succ, i64_w, i32_w]
     rfl
   refine take_ (i := 7) (N := some 61) (v := ?_) (a' := ?_) (bs 21 255) rfl rfl (take_ofW HT_.out HW_.out (by kernel_rfl)) (fun _ _ _ h => h) (Or.inl ⟨by rfl, ?_⟩) hHeld ?_ ?_
   rotate_left
   ·intro w' s
    obtain ⟨s0, s1, s2, s3⟩ := s
    go_simp
    with_reducible rfl
   rotate_left
   ·simp only [Act.put, List.setIfInBounds_toArray, List.set_cons_zero, List.set_cons_succ, i64_w, i32_w]
    rfl
   iterate 2
    refine tk_ (N := some _) (v := ?_) (a' := ?_) rfl rfl (take_ofW HT_.out HW_.out (by kernel_rfl)) (fun _ _ _ h => h) (Or.inl ⟨by rfl, ?_⟩) hHeld ?_ ?_
    rotate_left
    ·intro w' s
     go_simp
     with_reducible rfl
    rotate_left
    ·simp only [Act.put, List.setIfInBounds_toArray, List.set_cons_zero, List.set_cons_succ, i64_w, i32_w]
     rfl
   refine take_ (i := 10) (N := some 64) (v := ?_) (a' := ?_) (bs 21 2047) rfl rfl (take_ofW HT_.out HW_.out (by kernel_rfl)) (fun _ _ _ h => h) (Or.inl ⟨by rfl, ?_⟩) hHeld ?_ ?_
   rotate_left
   ·intro w' s
    obtain ⟨s0, s1, s2, s3⟩ := s
    go_simp
    with_reducible rfl
   rotate_left
   ·simp only [Act.put, List.setIfInBounds_toArray, List.set_cons_zero, List.set_cons_succ, i64_w, i32_w]
    rfl
   iterate 4
    refine tk_ (N := some _) (v := ?_) (a' := ?_) rfl rfl (take_ofW HT_.out HW_.out (by kernel_rfl)) (fun _ _ _ h => h) (Or.inl ⟨by rfl, ?_⟩) hHeld ?_ ?_
    rotate_left
    ·intro w' s
     go_simp
     with_reducible rfl
    rotate_left
    ·simp only [Act.put, List.setIfInBounds_toArray, List.set_cons_zero, List.set_cons_succ, i64_w, i32_w]
     rfl
   refine take_ (i := 15) (N := some 69) (v := ?_) (a' := ?_) (bs 21 65535) rfl rfl (take_ofW HT_.out HW_.out (by kernel_rfl)) (fun _ _ _ h => h) (Or.inl ⟨by rfl, ?_⟩) hHeld ?_ ?_
   rotate_left
   ·intro w' s
    obtain ⟨s0, s1, s2, s3⟩ := s
    go_simp
    with_reducible rfl
   rotate_left
   ·simp only [Act.put, List.setIfInBounds_toArray, List.set_cons_zero, List.set_cons_succ, i64_w, i32_w]
    rfl
   refine take_ (i := 16) (N := some 70) (v := ?_) (a' := ?_) (bs 21 131071) rfl rfl (take_ofW HT_.out HW_.out (by kernel_rfl)) (fun _ _ _ h => h) (Or.inl ⟨by rfl, ?_⟩) hHeld ?_ ?_
   rotate_left
   ·intro w' s
    go_simp
    with_reducible rfl
   rotate_left
   ·simp only [Act.put, List.setIfInBounds_toArray, List.set_cons_zero, List.set_cons_succ, i64_w, i32_w]
    rfl
   refine one_ (i := 17) (N := some 71) (bs 21 262143) rfl rfl (one_of HT_.out (by kernel_rfl)) (by decide) (fun K hK => ?_)
   refine value_ (v := .slice (some ⟨wr.drew.heap.size, 0, none⟩) 1 1) (w1 := wr.drew.alloc (.cells #[.int .i64 id0, .int .i64 at_] 61)) (by rfl) rfl (by first | (go_simp; done) | (go_simp; rfl)) (hK.out _ _ ⟨pw_cell_below (below_alloc (Below.refl _ _) _) hHeld.1, pw_cell_below (below_alloc (Below.refl _ _) _) hHeld.2.1, pw_cell_below (below_alloc (Below.refl _ _) _) hHeld.2.2.1, pw_cell_below (below_alloc (Below.refl _ _) _) hHeld.2.2.2⟩ (fun _ => ?_))
   clear hK K
   refine norm_ (a' := ?_) ?_ ?_
   rotate_left
   ·show Act.put _ (some 71) _ = _
    simp only [Act.put, List.setIfInBounds_toArray, List.set_cons_zero, List.set_cons_succ, i64_w, i32_w]
    rfl
   refine one_ (i := 18) (N := some 72) (bs 21 524287) rfl rfl (one_of HT_.out (by kernel_rfl)) (by decide) (fun K hK => ?_)
   refine Kd.R_append_step k61 (w0 := wr.drew) n7 (by rfl) (.tmp 55) (.tmp 71) 30 61 (.agg #[.int .i64 0, .int .i64 0]) 16 rfl Tryz.underlying30 infoSpot rfl (by decide) (by omega) vs ((R.take k).map (spotOf l0)) ⟨id0, at_⟩ [.int .i64 id0, .int .i64 at_] (fun _ => True) (fun _ => False) rfl rfl (k61_mkM _ _ _ _) (fun _ h => h.elim) (fun _ _ => trivial) HOd.out (Below.refl _ _) hn7d hlen ?_
   intro v1 w1 ho1 hb1 hg1 hat1
   obtain ⟨Av, cv, hv1⟩ := Kd.R_slice ho1
   obtain ⟨ln, hln⟩ : ∃ ln, ((R.take k).map (spotOf l0) ++ [(⟨id0, at_⟩ : S61)]).length = ln := ⟨_, rfl⟩
   rw [hln] at hv1
   subst hv1
   have hS1 := And.intro (cell_under (a := ⟨b5, 4, none⟩) hb1 (show b5 < n7 from H5N.out) hHeld.1) (And.intro (cell_under hb1 HAR.out hHeld.2.1) (And.intro (cell_under (a := ⟨(ar.add (k * 2)).block, (ar.add (k * 2)).off + 1, none⟩) hb1 HAR.out hHeld.2.2.1) (cell_under hb1 HADL.out hHeld.2.2.2)))
   have z0 := hS1.1
   have z1 := blk_frozen (hb1.block b5 H5N.out |>.trans HRr.out) 4
   refine hK.out _ _ hS1 (fun hHeld => ?_)
   clear hK K
   refine norm_ (a' := ?_) ?_ ?_
   rotate_left
   ·show Act.put _ (some 72) _ = _
    simp only [Act.put, List.setIfInBounds_toArray, List.set_cons_zero, List.set_cons_succ, i64_w, i32_w]
    rfl
   refine take_ (i := 19) (N := some 73) (v := ?_) (a' := ?_) (bs 21 1048575) rfl rfl (take_ofW HT_.out HW_.out (by kernel_rfl)) (fun _ _ _ h => h) (Or.inl ⟨by rfl, ?_⟩) hHeld ?_ ?_
   rotate_left
   ·intro w' s
    go_simp
    with_reducible rfl
   rotate_left
   ·simp only [Act.put, List.setIfInBounds_toArray, List.set_cons_zero, List.set_cons_succ, i64_w, i32_w]
    rfl
   refine last_ (i := 20) (N := none) (bs 21 2097151) rfl rfl (one_of HT_.out (by kernel_rfl)) (by decide) (fun K hK => ?_)
   refine skip_ (w1 := w1.setCell ⟨b5, 4, none⟩ (.slice Av ln cv)) (by rfl) rfl (by first | (go_simp; done) | (go_simp; rfl)) (hK.out _ _ ?_)
   clear hK K
   refine done_ (done_of HT_.out (by kernel_rfl)) ?_
   have hrn : (w1.setCell ⟨b5, 4, none⟩ (.slice Av ln cv)).heap[b5]? = some (.cells (repCells 0 R.length ⟨#[]⟩ (.slice Av ln cv) nilS nilS zeroC).toArray 34 (0, 0)) := blk_set ((hb1.block b5 H5N.out).trans HRr.out) 4 (.slice Av ln cv)
   have hon : Kd.R k61 61 (w1.setCell ⟨b5, 4, none⟩ (.slice Av ln cv)) n7 (fun _ => True) (.slice Av ln cv) ((R.take (k + 1)).map (spotOf l0)) := by
    unfold spotOf
    rw [HSP.out]
    exact Kd.R_mono (Kd.R_step (Kd.R_bound ho1) (fun q hq _ => Below.heap_setCell w1 ⟨b5, 4, none⟩ _ q (show q ≠ b5 by have := hq.2.1; have := H5N.out; omega))) (fun _ _ => trivial)
   have hun : ButAt n7 b5 wp (w1.setCell ⟨b5, 4, none⟩ (.slice Av ln cv)) := by
    refine ⟨hb1.os.trans HU.out.os, hb1.tape.trans HU.out.tape, hb1.output.trans HU.out.output, ?_, fun q hq hqn => ?_⟩
    ·have h1 := HU.out.size
     have h3 : wr.heap.size ≤ w1.heap.size := hb1.size
     have h4 : (w1.setCell ⟨b5, 4, none⟩ (.slice Av ln cv)).heap.size = w1.heap.size := by simp [World.setCell]
     omega
    ·rw [Below.heap_setCell w1 ⟨b5, 4, none⟩ _ q hqn]
     exact (hb1.block q hq).trans (HU.out.other q hq hqn)
   obtain ⟨wn, hwn⟩ : ∃ wn, w1.setCell ⟨b5, 4, none⟩ (.slice Av ln cv) = wn := ⟨_, rfl⟩
   rw [hwn] at hrn hon hun ⊢
   have HRN := Aside0.mk hrn
   have HON := Aside0.mk hon
   have HUN := Aside0.mk hun
   clear hrn hon hun hwn hHeld hS1 z0 z1 ho1 hb1 hg1 hat1 s0d hx0 hx1 hy0
   go_wp2_with fail
   go_roundw
   case rel => exact ⟨k + 1, .slice Av ln cv, by omega, by go_num, HRN, HON, HUN⟩
   case measure => simp [intOf]; omega
  ·obtain rfl : k = R.length := by omega
   rw [List.take_length] at HOs
   obtain ⟨Av, cv, hvs⟩ := Kd.R_slice HOs.out
   rw [List.length_map] at hvs
   subst hvs
   have c1 : decide ((R.length : Int) < (R.length : Int)) = false := decide_eq_false (by omega)
   have c2 : decide (R.length < R.length) = false := decide_eq_false (by omega)
   have h4r : wr.heap[b4]? = some (.cells (repCells 0 0 ⟨#[]⟩ nilS nilS nilS zeroC).toArray 34 (0, 0)) := (HU.out.other b4 (by have := H5N.out; have := H45.out; omega) (by have := H45.out; omega)).trans H4A.out
   obtain ⟨wz, hrs, hz, hbz, hfar⟩ := rep_put_far (repCells 0 R.length ⟨#[]⟩ (.slice Av R.length cv) nilS nilS zeroC) h4r rfl rfl (by simp [repCells, nilS, zeroC, Value.oneCell'])
   have HBz := Aside0.mk (HBw.out.trans (hbz.mono (show w.heap.size ≤ b4 by have := HWB.out; omega)))
   have hcz : Kd.R k61 61 wz n7 (fun _ => True) (.slice Av R.length cv) (R.map (spotOf l0)) :=
    Kd.R_mono (Kd.R_step (Kd.R_bound HOs.out) (fun q hq _ => hfar q (by have := hq.2.1; have := H5N.out; have := H45.out; omega))) (fun _ _ => trivial)
   have HCz := Aside0.mk (Kd.R_lower hcz (show w.heap.size ≤ n7 by have := H5N.out; have := H45.out; have := HWB.out; omega))
   have RS := Aside0.mk hrs
   have d0 : wr.cell? ⟨b5, 0, none⟩ = some (.int .i64 0) := (blk_cell HRr.out 0).trans rfl
   have d1 : wr.cell? ⟨b5, 1, none⟩ = some (.int .i64 0) := (blk_cell HRr.out 1).trans rfl
   have d2 : wr.cell? ⟨b5, 2, none⟩ = some (.int .i64 R.length) := (blk_cell HRr.out 2).trans rfl
   have d3 : wr.cell? ⟨b5, 3, none⟩ = some (.string ⟨#[]⟩) := (blk_cell HRr.out 3).trans rfl
   have d4 : wr.cell? ⟨b5, 4, none⟩ = some (.slice Av R.length cv) := (blk_cell HRr.out 4).trans rfl
   have d5 : wr.cell? ⟨b5, 5, none⟩ = some (.slice none 0 0) := (blk_cell HRr.out 5).trans rfl
   have d6 : wr.cell? ⟨b5, 6, none⟩ = some (.slice none 0 0) := (blk_cell HRr.out 6).trans rfl
   have d7 : wr.cell? ⟨b5, 7, none⟩ = some (.complex .f64 0 0) := (blk_cell HRr.out 7).trans rfl
   clear hlt hk hrs hbz hfar hcz h4r
   go_wp2_with (first
    | ((with_reducible refine gate_store (t := 34) (p := 4) (v := .tmp 74) rfl ?_); refine store_event (t := 34) (p := 4) (v := .tmp 74) (w1 := wz) rfl rfl rfl ?hr ?_; (case hr => exact store_runs rfl rfl rfl RS.out); intro w9 hw; subst hw))
   exact bodyPost_ret (ans_results _ b4 (repCells 0 R.length ⟨#[]⟩ (.slice Av R.length cv) nilS nilS zeroC).toArray rfl hz _ rfl) rfl ⟨Av, cv, rfl, HCz.out, HBz.out⟩
end Go.Proofs.YtibhenengpdahaaGreat.P
