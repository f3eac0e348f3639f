/- The document's Answer, of List. Conditions: how the list lies in memory, and its length. (Printed by genref.py, reflist.part.) -/
import Derived.Test.YtibhenengpdahaaGreatJK
set_option linter.unusedVariables false
set_option linter.unusedSimpArgs false
namespace Go.Proofs.YtibhenengpdahaaGreat.P
open Go.RowKit Go.Proofs.YtibhenengpdahaaGreatW.PrintWords Go.Proofs.YtibhenengpdahaaGreatW.PrintLast Go.Proofs.YtibhenengpdahaaGreatW.PrintMore

/-- What a round of the list keeps in sight: two cells of the reply, and the document. -/
structure Sight2 (w : World) (b5 : Nat) (a0 : Addr) (v1 v2 : Value) (id : Int) (tx : ByteArray) : Prop where
 mk :: (c5 : w.cell? ⟨b5, 5, none⟩ = some v1) (c6 : w.cell? ⟨b5, 6, none⟩ = some v2) (x0 : w.cell? a0 = some (.int .i64 id)) (x1 : w.cell? ⟨a0.block, a0.off + 1, none⟩ = some (.string tx))
theorem Sight2.below {w w1 : World} {b5 : Nat} {a0 : Addr} {v1 v2 : Value} {id : Int} {tx : ByteArray} (h : Sight2 w b5 a0 v1 v2 id tx) (hb : Below w.heap.size w w1) : Sight2 w1 b5 a0 v1 v2 id tx :=
 ⟨pw_cell_below hb h.c5, pw_cell_below hb h.c6, pw_cell_below hb h.x0, pw_cell_below hb h.x1⟩
theorem Sight2.grown {w w1 : World} {b5 : Nat} {a0 : Addr} {v v1 v2 : Value} {id : Int} {tx : ByteArray} (h : Sight2 w b5 a0 v1 v2 id tx) (hg : w.grownBy w1 v.ownBlock) (h5 : v.ownBlock ≠ some b5) (hx : v.ownBlock ≠ some a0.block) : Sight2 w1 b5 a0 v1 v2 id tx :=
 ⟨cell_same (hg.block b5 (cell_lt h.c5) h5.symm) h.c5, cell_same (hg.block b5 (cell_lt h.c5) h5.symm) h.c6, cell_same (hg.block a0.block (cell_lt h.x0) hx.symm) h.x0, cell_same (hg.block a0.block (cell_lt h.x0) hx.symm) h.x1⟩
def refList.T18 : Bool × List (List Nat × List Nat) := (true, [([], []), ([0], [0]), ([], []), ([], []), ([2, 3], [2, 3]), ([4], [4]), ([5], [5]), ([6], [6]), ([7], [7]), ([1, 8], [1, 8]), ([], []), ([10], [10]), ([], []), ([], []), ([12, 13], [12, 13]), ([14], [14]), ([15], [15]), ([16], [16]), ([17], [17]), ([11, 18, 9], [11, 18]), ([0, 1, 2, 3, 4, 5, 6, 7, 8, 9, 10, 11], []), ([20, 9, 19, 0, 1, 2, 3, 4, 5, 6, 7, 8, 9, 10, 11], [9, 20]), ([0, 1, 2, 3, 4, 5, 6, 7, 8, 9, 10, 11, 12, 13, 14, 15, 16, 17, 18, 19, 20, 21], []), ([22, 19, 21, 0, 1, 2, 3, 4, 5, 6, 7, 8, 9, 10, 11, 12, 13, 14, 15, 16, 17, 18, 19, 20, 21], [19, 22])])
def refList.B18 : List Nat := [0, 1, 0, 0, 12, 28, 60, 124, 252, 511, 0, 1024, 0, 0, 12288, 28672, 61440, 126976, 258048, 524287, 4095, 2097151, 4194303, 8388607]
theorem refList.tab18 : rtab .any (opsOf Tryz.f7 18) = refList.T18 := by kernel_rfl
theorem refList.bits18 : waitsOk refList.T18.2 refList.B18 = true := by kernel_rfl
set_option maxRecDepth 100000 in
set_option maxHeartbeats 8000000 in
theorem refAns_list (A0 : Option Addr) (c0 : Nat) (l0 : List S27) (kind id fr tt snap : Int) (text : ByteArray) (w : World) (hr0 : Kd.C k27 w A0 l0.length l0) (hc0 : l0.length ≤ c0) (hl : l0.length ≤ 1000000) (hmay : mayB l0 kind id fr tt snap text = true) (hk : kind = 6) :
  Calls Tryz.prog 7 #[.slice A0 l0.length c0, .agg #[.int .i64 kind, .int .i64 id, .int .i64 fr, .int .i64 tt, .int .i64 snap, .string text]] w fun e w' =>
   ∃ (A1 : Option Addr) (c1 : Nat) (A2 : Option Addr) (c2 : Nat), e = .returned (.agg (repCells 0 l0.length ⟨#[]⟩ nilS (.slice A1 l0.length c1) (.slice A2 l0.length c2) zeroC).toArray) ∧
    Kd.R k27 27 w' w.heap.size (fun _ => True) (.slice A1 l0.length c1) (l0.map bareDoc) ∧ Kd.R (Kd.int .i64) 3 w' w.heap.size (fun _ => True) (.slice A2 l0.length c2) (l0.map lenOf) ∧ Below w.heap.size w w' := by
 subst hk
 have hmay2 := hmay
 unfold mayB at hmay2
 rw [Bool.and_eq_true] at hmay2
 have HM := Aside0.mk hmay2
 clear hmay hmay2
 have MR := Aside0.mk (fun w' (hr : Kd.C k27 w' A0 l0.length l0) => refMR_calls A0 c0 l0 w' hr hc0 hl)
 have AR := Aside0.mk (fun w' => refAR_calls 6 id fr tt snap text w')
 rw [HM.out.1] at MR
 rw [HM.out.2] at AR
 have HR := Aside0.mk hr0
 have HC := Aside0.mk hc0
 have HL := Aside0.mk hl
 obtain ⟨W1, hW1⟩ : ∃ W1, w.alloc (.cells #[.int .i64 6, .int .i64 id, .int .i64 fr, .int .i64 tt, .int .i64 snap, .string text] 24) = W1 := ⟨_, rfl⟩
 have HB1 : Aside0 (Below w.heap.size w W1) := ⟨by rw [← hW1]; exact below_alloc (Below.refl _ _) _⟩
 have g0 : Aside0 (W1.cell? ⟨w.heap.size, 0, none⟩ = some (.int .i64 6)) := ⟨by rw [← hW1]; exact cell_newA w _ _ 0 _ rfl⟩
 have g1 : Aside0 (W1.cell? ⟨w.heap.size, 1, none⟩ = some (.int .i64 id)) := ⟨by rw [← hW1]; exact cell_newA w _ _ 1 _ rfl⟩
 have g2 : Aside0 (W1.cell? ⟨w.heap.size, 2, none⟩ = some (.int .i64 fr)) := ⟨by rw [← hW1]; exact cell_newA w _ _ 2 _ rfl⟩
 have g3 : Aside0 (W1.cell? ⟨w.heap.size, 3, none⟩ = some (.int .i64 tt)) := ⟨by rw [← hW1]; exact cell_newA w _ _ 3 _ rfl⟩
 have g4 : Aside0 (W1.cell? ⟨w.heap.size, 4, none⟩ = some (.int .i64 snap)) := ⟨by rw [← hW1]; exact cell_newA w _ _ 4 _ rfl⟩
 have g5 : Aside0 (W1.cell? ⟨w.heap.size, 5, none⟩ = some (.string text)) := ⟨by rw [← hW1]; exact cell_newA w _ _ 5 _ rfl⟩
 have W1E := Aside0.mk hW1
 clear hr0 hc0 hl
 go_enter Tryz.func7, Tryz.ntmps7
 go_wp2_with fail
 try rw [W1E.out]
 obtain ⟨b4, hb4⟩ : ∃ b4, W1.heap.size = b4 := ⟨_, rfl⟩
 have hb5 : w.heap.size + 1 = b4 := by rw [← hb4, ← W1E.out]; exact (Array.size_push _).symm
 obtain ⟨W2, hW2⟩ : ∃ W2, W1.alloc (.cells (repCells 0 0 ⟨#[]⟩ nilS nilS nilS zeroC).toArray 34) = W2 := ⟨_, rfl⟩
 have hr2 : W2.heap[b4]? = some (.cells (repCells 0 0 ⟨#[]⟩ nilS nilS nilS zeroC).toArray 34 (0, 0)) := by rw [← hW2, ← hb4]; exact heap_alloc_new _ _
 have HB12 : Aside0 (Below W1.heap.size W1 W2) := ⟨by rw [← hW2]; exact below_alloc (Below.refl _ _) _⟩
 change Calls _ _ _ (W1.alloc (.cells (repCells 0 0 ⟨#[]⟩ nilS nilS nilS zeroC).toArray 34)) _
 rw [hW2, hb4]
 refine (MR.out _ (Kd.C_below HR.out (below_step HB1.out HB12.out))).mono ?_
 rintro en w3 ⟨rfl, hb⟩
 have HB13 := Aside0.mk (below_step HB12.out hb)
 have hr3 := blk_below hr2 hb
 have HB3 := Aside0.mk (below_step HB1.out HB13.out)
 clear hW2 hb
 all_goals skip
 have k0 := pw_cell_below HB13.out g0.out
 have k1 := pw_cell_below HB13.out g1.out
 have k2 := pw_cell_below HB13.out g2.out
 have k3 := pw_cell_below HB13.out g3.out
 have k4 := pw_cell_below HB13.out g4.out
 have k5 := pw_cell_below HB13.out g5.out
 go_wp2_with fail
 refine (AR.out _).mono ?_
 rintro en w4 ⟨rfl, hb⟩
 have HB14 := Aside0.mk (below_step HB13.out hb)
 have HB4 := Aside0.mk (below_step HB3.out hb)
 have hr4 := blk_below hr3 hb
 clear hb k0 k1 k2 k3 k4 k5
 have k0 := pw_cell_below HB14.out g0.out
 obtain ⟨wp, hrs, hrp, hbp, hfp⟩ := rep_put_far (repCells 0 l0.length ⟨#[]⟩ nilS nilS nilS zeroC) (W := w4.alloc (.cells #[.int .i64 0, .int .i64 0, .int .i64 0, .string ⟨#[]⟩, .slice none 0 0, .slice none 0 0, .slice none 0 0, .complex .f64 0 0] 34)) (b := w4.heap.size) (heap_alloc_new _ _) rfl rfl (by simp [repCells, nilS, zeroC, Value.oneCell'])
 have RS := Aside0.mk hrs
 have HB7p := Aside0.mk ((below_alloc (Below.refl w4.heap.size w4) (.cells #[.int .i64 0, .int .i64 0, .int .i64 0, .string ⟨#[]⟩, .slice none 0 0, .slice none 0 0, .slice none 0 0, .complex .f64 0 0] 34)).trans hbp)
 have H4A := Aside0.mk (blk_below hr4 HB7p.out)
 have HRp := Aside0.mk hrp
 have HBp := Aside0.mk (below_step HB4.out HB7p.out)
 have H45 : Aside0 (b4 < w4.heap.size) := ⟨blk_lt hr4⟩
 have HWB : Aside0 (w.heap.size < b4) := ⟨by omega⟩
 have H5N : Aside0 (w4.heap.size < wp.heap.size) := ⟨blk_lt hrp⟩
 clear hrs hrp hbp hfp hr4
 go_wp2_with (first
  | ((with_reducible refine gate_store (t := 34) (p := 8) (v := .tmp 79) rfl ?_); refine store_event (t := 34) (p := 8) (v := .tmp 79) (w1 := wp) rfl rfl rfl ?hr ?_; (case hr => exact store_runs rfl rfl rfl RS.out); intro w9 hw; subst hw))
 obtain ⟨wp, hwp⟩ : ∃ wp, wp = w9 := ⟨_, rfl⟩
 subst hwp
 obtain ⟨b5, hb5e⟩ : ∃ b5, w4.heap.size = b5 := ⟨_, rfl⟩
 rw [hb5e] at HRp H45 H5N ⊢
 obtain ⟨n7, hn7⟩ : ∃ n7, wp.heap.size = n7 := ⟨_, rfl⟩
 have HN7 := Aside0.mk hn7
 rw [hn7] at H5N
 have HB5N := H5N
 have HD0 : Aside0 (Kd.R k27 27 wp n7 (fun _ => True) nilS ((l0.take 0).map bareDoc)) := ⟨Kd.R_nil _ _ _ _ _⟩
 have HI0 : Aside0 (Kd.R (Kd.int .i64) 3 wp n7 (fun _ => True) nilS ((l0.take 0).map lenOf)) := ⟨Kd.R_nil _ _ _ _ _⟩
 have HU0 : Aside0 (ButAt n7 b5 wp wp) := ⟨⟨rfl, rfl, rfl, Nat.le_refl _, fun _ _ _ => rfl⟩⟩
 clear hn7 k0
 go_loopw [9] (fun i wr => ∃ (k : Nat) (v1 v2 : Value), k ≤ l0.length ∧ i = .int .i64 k ∧ Aside0 (wr.heap[b5]? = some (.cells (repCells 0 l0.length ⟨#[]⟩ nilS v1 v2 zeroC).toArray 34 (0, 0))) ∧ Aside0 (Kd.R k27 27 wr n7 (fun _ => True) v1 ((l0.take k).map bareDoc)) ∧ Aside0 (Kd.R (Kd.int .i64) 3 wr n7 (fun _ => True) v2 ((l0.take k).map lenOf)) ∧ Aside0 (ButAt n7 b5 wp wr)) (fun i _ => l0.length - (intOf i).toNat)
 case atStart => exact ⟨0, nilS, nilS, Nat.zero_le _, rfl, HRp, HD0, HI0, HU0⟩
 case round =>
  obtain ⟨k, v1, v2, hk, rfl, HRr, HDs, HIs, HU⟩ := hrel
  have HBw := Aside0.mk (show Below w.heap.size w wr from HBp.out.trans ⟨HU.out.os, HU.out.tape, HU.out.output, HU.out.size, fun q hq => HU.out.other q (by have := H45.out; have := H5N.out; have := HWB.out; omega) (by have := H45.out; have := HWB.out; omega)⟩)
  by_cases hlt : k < l0.length
  ·obtain ⟨ad, hA, x0, x1⟩ := at_T27 (Kd.C_below HR.out HBw.out) (k : Int) (by omega) (by omega)
   obtain ⟨ad2, hA2, y0, _⟩ := at_T27 HR.out (k : Int) (by omega) (by omega)
   obtain rfl : ad = ad2 := by rw [hA] at hA2; injection hA2
   have hablk : (ad.add (k * 2)).block < w.heap.size := by
    have h := cell_lt y0
    rw [Int.toNat_natCast] at h
    exact h
   clear y0 hA2
   rw [rd_doc_get l0 k hlt, Int.toNat_natCast] at x0 x1
   have hsD : (l0.take (k + 1)).map bareDoc = (l0.take k).map bareDoc ++ [⟨l0[k].f0, ⟨#[]⟩⟩] := by
    rw [List.take_succ_eq_append_getElem hlt, List.map_append]
    rfl
   have hsI : (l0.take (k + 1)).map lenOf = (l0.take k).map lenOf ++ [(l0[k].f1.size : Int)] := by
    rw [List.take_succ_eq_append_getElem hlt, List.map_append]
    rfl
   obtain ⟨did, hid⟩ : ∃ x, l0[k].f0 = x := ⟨_, rfl⟩
   obtain ⟨tx, htx⟩ : ∃ x, l0[k].f1 = x := ⟨_, rfl⟩
   rw [hid] at x0 hsD
   rw [htx] at x1 hsI
   have HSD := Aside0.mk hsD
   have HSI := Aside0.mk hsI
   obtain ⟨D0, hD0⟩ : ∃ q, (l0.take k).map bareDoc = q := ⟨_, rfl⟩
   obtain ⟨L0, hL0⟩ : ∃ q, (l0.take k).map lenOf = q := ⟨_, rfl⟩
   have hDl : D0.length ≤ 1000000 := by rw [← hD0, List.length_map, List.length_take]; have := HL.out; omega
   have hLl : L0.length ≤ 1000000 := by rw [← hL0, List.length_map, List.length_take]; have := HL.out; omega
   rw [hD0] at HDs HSD
   rw [hL0] at HIs HSI
   subst hA
   clear hid htx hsD hsI hD0 hL0
   have c1 : decide ((k : Int) < (l0.length : Int)) = true := decide_eq_true (by omega)
   have c2 : decide (k < l0.length) = true := decide_eq_true hlt
   have q1 : (0 ≤ (k : Int)) = True := eq_true (by omega)
   have q2 : ((k : Int) < (l0.length : Int)) = True := eq_true (by omega)
   have q3 : IntKind.i64.wrap ((k : Int) + 1) = (k : Int) + 1 := IntWalk.i64_in _ (by have := HL.out; omega)
   obtain ⟨bx, hbxe⟩ : ∃ bx, wr.heap.size = bx := ⟨_, rfl⟩
   obtain ⟨a0, ha0⟩ : ∃ a0, ad.add (k * 2) = a0 := ⟨_, rfl⟩
   rw [ha0] at x0 x1 hablk
   have hn7w : n7 ≤ wr.heap.size := by rw [← HN7.out]; exact HU.out.size
   have hbxW : bx ≤ wr.heap.size := by omega
   have s0 : Sight2 wr b5 a0 v1 v2 did tx := ⟨(blk_cell HRr.out 5).trans rfl, (blk_cell HRr.out 6).trans rfl, x0, x1⟩
   have e1x : ∀ q, v1.ownBlock = some q → q < bx := fun q e => by rw [← hbxe]; exact Kd.R_lt HDs.out q e
   have e2x : ∀ q, v2.ownBlock = some q → q < bx := fun q e => by rw [← hbxe]; exact Kd.R_lt HIs.out q e
   have e1n : ∀ q, v1.ownBlock = some q → n7 ≤ q := fun q e => Kd.R_base HDs.out q e
   have e2n : ∀ q, v2.ownBlock = some q → n7 ≤ q := fun q e => Kd.R_base HIs.out q e
   have hba : a0.block < n7 := by have := H45.out; have := H5N.out; have := HWB.out; omega
   have e15 : v1.ownBlock ≠ some b5 := fun e => by have := e1n b5 e; have := HB5N.out; omega
   have e25 : v2.ownBlock ≠ some b5 := fun e => by have := e2n b5 e; have := HB5N.out; omega
   have e1b : v1.ownBlock ≠ some a0.block := fun e => by have := e1n _ e; omega
   have e2b : v2.ownBlock ≠ some a0.block := fun e => by have := e2n _ e; omega
   have HDw := HDs
   have HIw := HIs
   have hn72 : n7 ≤ wr.heap.size := hn7w
   have SG := Aside0.mk s0
   have HA0 := Aside0.mk ha0
   clear s0 x0 x1 ha0
   go_wp2_with fail
   try rw [HA0.out]
   refine start_ (n := 24) (S := fun w' => Sight2 w' b5 a0 v1 v2 did tx) (ds := [21, 22, 23]) (bs 24 0) (by kernel_rfl) rfl rfl (SG.out.below (below_drew1 (Below.refl _ _))) (fun hHeld => ?_)
   refine with_tabW refList.tab18 refList.bits18 (fun HT_ HW_ => ?_)
   refine take_ (i := 0) (N := some 86) (v := ?_) (a' := ?_) (bs 24 1) rfl rfl (take_ofW HT_.out HW_.out (by kernel_rfl)) (fun _ _ _ h => h) (Or.inl ⟨by rfl, ?_⟩) hHeld ?_ ?_
   rotate_left
   ·intro w' s
    have ha0 := HA0.out
    go_simp
    try simp only [ha0]
    with_reducible rfl
   rotate_left
   ·simp only [putAll, Act.put, List.setIfInBounds_toArray, List.set_cons_zero, List.set_cons_succ, i64_w, i32_w]
    rfl
   refine take_ (i := 1) (N := some 87) (v := ?_) (a' := ?_) (bs 24 3) rfl rfl (take_ofW HT_.out HW_.out (by kernel_rfl)) (fun _ _ _ h => h) (Or.inl ⟨by rfl, ?_⟩) hHeld ?_ ?_
   rotate_left
   ·intro w' s
    have t0 := s.c5
    have t1 := s.c6
    have t2 := s.x0
    have t3 := s.x1
    have ha0 := HA0.out
    go_simp
    try simp only [ha0]
    with_reducible rfl
   rotate_left
   ·simp only [putAll, Act.put, List.setIfInBounds_toArray, List.set_cons_zero, List.set_cons_succ, i64_w, i32_w]
    rfl
   iterate 4
    refine tk_ (N := some _) (v := ?_) (a' := ?_) rfl rfl (take_ofW HT_.out HW_.out (by kernel_rfl)) (fun _ _ _ h => h) (Or.inl ⟨by rfl, ?_⟩) hHeld ?_ ?_
    rotate_left
    ·intro w' s
     have ha0 := HA0.out
     go_simp
     try simp only [ha0]
     with_reducible rfl
    rotate_left
    ·simp only [putAll, Act.put, List.setIfInBounds_toArray, List.set_cons_zero, List.set_cons_succ, i64_w, i32_w]
     rfl
   refine take_ (i := 6) (N := some 92) (v := ?_) (a' := ?_) (bs 24 127) rfl rfl (take_ofW HT_.out HW_.out (by kernel_rfl)) (fun _ _ _ h => h) (Or.inl ⟨by rfl, ?_⟩) hHeld ?_ ?_
   rotate_left
   ·intro w' s
    have t0 := s.c5
    have t1 := s.c6
    have t2 := s.x0
    have t3 := s.x1
    have ha0 := HA0.out
    go_simp
    try simp only [ha0]
    with_reducible rfl
   rotate_left
   ·simp only [putAll, Act.put, List.setIfInBounds_toArray, List.set_cons_zero, List.set_cons_succ, i64_w, i32_w]
    rfl
   refine take_ (i := 7) (N := some 93) (v := ?_) (a' := ?_) (bs 24 255) rfl rfl (take_ofW HT_.out HW_.out (by kernel_rfl)) (fun _ _ _ h => h) (Or.inl ⟨by rfl, ?_⟩) hHeld ?_ ?_
   rotate_left
   ·intro w' s
    have ha0 := HA0.out
    go_simp
    try simp only [ha0]
    with_reducible rfl
   rotate_left
   ·simp only [putAll, Act.put, List.setIfInBounds_toArray, List.set_cons_zero, List.set_cons_succ, i64_w, i32_w]
    rfl
   refine take_ (i := 10) (N := some 96) (v := ?_) (a' := ?_) (bs 24 1279) rfl rfl (take_ofW HT_.out HW_.out (by kernel_rfl)) (fun _ _ _ h => h) (Or.inl ⟨by rfl, ?_⟩) hHeld ?_ ?_
   rotate_left
   ·intro w' s
    have ha0 := HA0.out
    go_simp
    try simp only [ha0]
    with_reducible rfl
   rotate_left
   ·simp only [putAll, Act.put, List.setIfInBounds_toArray, List.set_cons_zero, List.set_cons_succ, i64_w, i32_w]
    rfl
   refine take_ (i := 11) (N := some 97) (v := ?_) (a' := ?_) (bs 24 3327) rfl rfl (take_ofW HT_.out HW_.out (by kernel_rfl)) (fun _ _ _ h => h) (Or.inl ⟨by rfl, ?_⟩) hHeld ?_ ?_
   rotate_left
   ·intro w' s
    have t0 := s.c5
    have t1 := s.c6
    have t2 := s.x0
    have t3 := s.x1
    have ha0 := HA0.out
    go_simp
    try simp only [ha0]
    with_reducible rfl
   rotate_left
   ·simp only [putAll, Act.put, List.setIfInBounds_toArray, List.set_cons_zero, List.set_cons_succ, i64_w, i32_w]
    rfl
   refine take_ (i := 12) (N := some 98) (v := ?_) (a' := ?_) (bs 24 7423) rfl rfl (take_ofW HT_.out HW_.out (by kernel_rfl)) (fun _ _ _ h => h) (Or.inl ⟨by rfl, ?_⟩) hHeld ?_ ?_
   rotate_left
   ·intro w' s
    have ha0 := HA0.out
    go_simp
    try simp only [ha0]
    with_reducible rfl
   rotate_left
   ·simp only [putAll, Act.put, List.setIfInBounds_toArray, List.set_cons_zero, List.set_cons_succ, i64_w, i32_w]
    rfl
   refine take_ (i := 13) (N := some 99) (v := ?_) (a' := ?_) (bs 24 15615) rfl rfl (take_ofW HT_.out HW_.out (by kernel_rfl)) (fun _ _ _ h => h) (Or.inl ⟨by rfl, ?_⟩) hHeld ?_ ?_
   rotate_left
   ·intro w' s
    have ha0 := HA0.out
    go_simp
    try simp only [ha0]
    with_reducible rfl
   rotate_left
   ·simp only [putAll, Act.put, List.setIfInBounds_toArray, List.set_cons_zero, List.set_cons_succ, i64_w, i32_w]
    rfl
   refine take_ (i := 14) (N := some 100) (v := ?_) (a' := ?_) (bs 24 31999) rfl rfl (take_ofW HT_.out HW_.out (by kernel_rfl)) (fun _ _ _ h => h) (Or.inl ⟨by rfl, ?_⟩) hHeld ?_ ?_
   rotate_left
   ·intro w' s
    have ha0 := HA0.out
    go_simp
    try simp only [ha0]
    with_reducible rfl
   rotate_left
   ·simp only [putAll, Act.put, List.setIfInBounds_toArray, List.set_cons_zero, List.set_cons_succ, i64_w, i32_w]
    rfl
   refine take_ (i := 15) (N := some 101) (v := ?_) (a' := ?_) (bs 24 64767) rfl rfl (take_ofW HT_.out HW_.out (by kernel_rfl)) (fun _ _ _ h => h) (Or.inl ⟨by rfl, ?_⟩) hHeld ?_ ?_
   rotate_left
   ·intro w' s
    have ha0 := HA0.out
    go_simp
    try simp only [ha0]
    with_reducible rfl
   rotate_left
   ·simp only [putAll, Act.put, List.setIfInBounds_toArray, List.set_cons_zero, List.set_cons_succ, i64_w, i32_w]
    rfl
   refine take_ (i := 16) (N := some 102) (v := ?_) (a' := ?_) (bs 24 130303) rfl rfl (take_ofW HT_.out HW_.out (by kernel_rfl)) (fun _ _ _ h => h) (Or.inl ⟨by rfl, ?_⟩) hHeld ?_ ?_
   rotate_left
   ·intro w' s
    have t0 := s.c5
    have t1 := s.c6
    have t2 := s.x0
    have t3 := s.x1
    have ha0 := HA0.out
    go_simp
    try simp only [ha0]
    with_reducible rfl
   rotate_left
   ·simp only [putAll, Act.put, List.setIfInBounds_toArray, List.set_cons_zero, List.set_cons_succ, i64_w, i32_w]
    rfl
   refine take_ (i := 17) (N := some 103) (v := ?_) (a' := ?_) (bs 24 261375) rfl rfl (take_ofW HT_.out HW_.out (by kernel_rfl)) (fun _ _ _ h => h) (Or.inl ⟨by rfl, ?_⟩) hHeld ?_ ?_
   rotate_left
   ·intro w' s
    have ha0 := HA0.out
    go_simp
    try simp only [ha0]
    with_reducible rfl
   rotate_left
   ·simp only [putAll, Act.put, List.setIfInBounds_toArray, List.set_cons_zero, List.set_cons_succ, i64_w, i32_w]
    rfl
   refine join_ (σ := Value × Nat × Nat) 4 (bs 24 1572863) (fun s => [(94, .slice (some ⟨s.2.1, 0, none⟩) 1 1), (95, s.1), (104, .slice (some ⟨s.2.2, 0, none⟩) 1 1), (106, .pointer (some ⟨b5, 5, none⟩))]) (fun s w' => Kd.R k27 27 w' n7 (fun _ => True) s.1 (D0 ++ [⟨did, ⟨#[]⟩⟩]) ∧ Kd.R (Kd.int .i64) 3 w' n7 (fun _ => True) v2 L0 ∧ w'.heap[s.2.2]? = some (.cells #[.int .i64 tx.size] 3 (0, 0)) ∧ Sight2 w' b5 a0 v1 v2 did tx ∧ Below n7 wr w') ?_ ?_
   rotate_left
   ·intro hjoin
    have HDd := Aside0.mk (Kd.R_drew HDw.out)
    have HId := Aside0.mk (Kd.R_drew HIw.out)
    have HBd := Aside0.mk (below_drew (Below.refl n7 wr))
    have hsd : bx ≤ wr.drew.heap.size := hbxW
    have hnd : n7 ≤ wr.drew.heap.size := hn72
    generalize wr.drew = wd at hHeld HDd HId HBd hsd hnd ⊢
    have hS := hHeld
    have hD := HDd.out
    have hI := HId.out
    have hB := HBd.out
    refine two_ (i := 8) (j := 18) (bs 24 261631) (bs 24 523519) rfl rfl rfl rfl (two_of HT_.out (by kernel_rfl)) (by decide) (by decide) (fun K hK => ?_) (fun K hK => ?_)
    ·refine value_ (v := .slice (some ⟨wd.heap.size, 0, none⟩) 1 1) (w1 := wd.alloc (.cells #[.int .i64 did, .string ⟨#[]⟩] 27)) (by rfl) rfl (by first | (go_simp; done) | (go_simp; rfl)) (hK.out _ _ (hS.below (below_alloc (Below.refl _ _) _)) (fun _ => ?_))
     clear hK K
     have hA := heap_alloc_new wd (.cells #[.int .i64 did, .string ⟨#[]⟩] 27)
     have SA := hS.below (below_alloc (Below.refl wd.heap.size wd) (.cells #[.int .i64 did, .string ⟨#[]⟩] 27))
     have DA := Kd.R_alloc hD (.cells #[.int .i64 did, .string ⟨#[]⟩] 27)
     have IA := Kd.R_alloc hI (.cells #[.int .i64 did, .string ⟨#[]⟩] 27)
     have BA := hB.alloc (Nat.le_trans hn72 hB.size) (.cells #[.int .i64 did, .string ⟨#[]⟩] 27)
     obtain ⟨wA, hwA⟩ : ∃ x, wd.alloc (.cells #[.int .i64 did, .string ⟨#[]⟩] 27) = x := ⟨_, rfl⟩
     obtain ⟨gA, hgA⟩ : ∃ x, wd.heap.size = x := ⟨_, rfl⟩
     rw [hwA] at hA SA DA IA BA ⊢
     rw [hgA] at hA ⊢
     refine norm_ (a' := ?_) ?_ ?_
     rotate_left
     ·show Act.put _ (some 94) _ = _
      simp only [putAll, Act.put, List.setIfInBounds_toArray, List.set_cons_zero, List.set_cons_succ, i64_w, i32_w]
      rfl
     refine two_ (i := 9) (j := 18) (bs 24 262143) (bs 24 523775) rfl rfl rfl rfl (two_of HT_.out (by kernel_rfl)) (by decide) (by decide) (fun K hK => ?_) (fun K hK => ?_)
     ·skip
      refine Kd.R_append_rows_step k27 (Rr := k27.K wA) (w0 := wr) n7 (by rfl) (.tmp 87) (.tmp 94) 22 27 (.agg #[.int .i64 0, .string ⟨#[]⟩]) 24 rfl Tryz.underlying22 infoDocL rfl (by decide) (by omega) v1 D0 [⟨did, ⟨#[]⟩⟩] (some ⟨gA, 0, none⟩) 1 1 (fun _ => True) (fun _ => False) rfl rfl DA (lit_doc hA) (fun _ _ h => docML h) (fun _ h => h.elim) (fun _ _ => trivial) BA (Nat.le_trans hn72 BA.size) (by omega) ?_
      intro va w1 ho1 hb1 hg1 hat1
      have hI1 := nums_kept DA IA hg1
      have hS1 := SA.grown hg1 e15 e1b
      refine hK.out _ _ hS1 (fun _ => ?_)
      clear hK K
      refine norm_ (a' := ?_) ?_ ?_
      rotate_left
      ·show Act.put _ (some 95) _ = _
       simp only [putAll, Act.put, List.setIfInBounds_toArray, List.set_cons_zero, List.set_cons_succ, i64_w, i32_w]
       rfl
      refine take_ (i := 20) (N := some 106) (v := ?_) (a' := ?_) (bs 24 1310719) rfl rfl (take_ofW HT_.out HW_.out (by kernel_rfl)) (fun _ _ _ h => h) (Or.inl ⟨by rfl, ?_⟩) hS1 ?_ ?_
      rotate_left
      ·intro w' s
       go_simp
       with_reducible rfl
      rotate_left
      ·simp only [putAll, Act.put, List.setIfInBounds_toArray, List.set_cons_zero, List.set_cons_succ, i64_w, i32_w]
       rfl
      refine one_ (i := 18) (N := some 104) (bs 24 1572863) rfl rfl (one_of HT_.out (by kernel_rfl)) (by decide) (fun K hK => ?_)
      refine value_ (v := .slice (some ⟨w1.heap.size, 0, none⟩) 1 1) (w1 := w1.alloc (.cells #[.int .i64 tx.size] 3)) (by rfl) rfl (by first | (go_simp; done) | (go_simp; rfl)) (hK.out _ _ (hS1.below (below_alloc (Below.refl _ _) _)) (fun _ => ?_))
      exact hjoin (va, gA, w1.heap.size) _ ⟨Kd.R_alloc ho1 _, Kd.R_alloc hI1 _, heap_alloc_new w1 _, hS1.below (below_alloc (Below.refl _ _) _), hb1.alloc (Nat.le_trans hn72 hb1.size) _⟩
     ·skip
      refine value_ (v := .slice (some ⟨wA.heap.size, 0, none⟩) 1 1) (w1 := wA.alloc (.cells #[.int .i64 tx.size] 3)) (by rfl) rfl (by first | (go_simp; done) | (go_simp; rfl)) (hK.out _ _ (SA.below (below_alloc (Below.refl _ _) _)) (fun _ => ?_))
      clear hK K
      have hN := heap_alloc_new wA (.cells #[.int .i64 tx.size] 3)
      have hA' := blk_below hA (below_alloc (Below.refl wA.heap.size wA) (.cells #[.int .i64 tx.size] 3))
      have SN := SA.below (below_alloc (Below.refl wA.heap.size wA) (.cells #[.int .i64 tx.size] 3))
      have DN := Kd.R_alloc DA (.cells #[.int .i64 tx.size] 3)
      have IN := Kd.R_alloc IA (.cells #[.int .i64 tx.size] 3)
      have BN := BA.alloc (Nat.le_trans hn72 BA.size) (.cells #[.int .i64 tx.size] 3)
      have hgN : bx ≤ wA.heap.size := by have := blk_lt hA; rw [← hgA] at this; omega
      obtain ⟨wN, hwN⟩ : ∃ x, wA.alloc (.cells #[.int .i64 tx.size] 3) = x := ⟨_, rfl⟩
      obtain ⟨gN, hgN'⟩ : ∃ x, wA.heap.size = x := ⟨_, rfl⟩
      rw [hwN] at hN hA' SN DN IN BN ⊢
      rw [hgN'] at hN hgN ⊢
      refine norm_ (a' := ?_) ?_ ?_
      rotate_left
      ·show Act.put _ (some 104) _ = _
       simp only [putAll, Act.put, List.setIfInBounds_toArray, List.set_cons_zero, List.set_cons_succ, i64_w, i32_w]
       rfl
      refine one_ (i := 9) (N := some 95) (bs 24 524287) rfl rfl (one_of HT_.out (by kernel_rfl)) (by decide) (fun K hK => ?_)
      refine Kd.R_append_rows_step k27 (Rr := k27.K wN) (w0 := wr) n7 (by rfl) (.tmp 87) (.tmp 94) 22 27 (.agg #[.int .i64 0, .string ⟨#[]⟩]) 24 rfl Tryz.underlying22 infoDocL rfl (by decide) (by omega) v1 D0 [⟨did, ⟨#[]⟩⟩] (some ⟨gA, 0, none⟩) 1 1 (fun _ => True) (fun _ => False) rfl rfl DN (lit_doc hA') (fun _ _ h => docML h) (fun _ h => h.elim) (fun _ _ => trivial) BN (Nat.le_trans hn72 BN.size) (by omega) ?_
      intro va w1 ho1 hb1 hg1 hat1
      have hI1 := nums_kept DN IN hg1
      have hS1 := SN.grown hg1 e15 e1b
      refine hK.out _ _ hS1 (fun _ => ?_)
      clear hK K
      refine norm_ (a' := ?_) ?_ ?_
      rotate_left
      ·show Act.put _ (some 95) _ = _
       simp only [putAll, Act.put, List.setIfInBounds_toArray, List.set_cons_zero, List.set_cons_succ, i64_w, i32_w]
       rfl
      refine take_ (i := 20) (N := some 106) (v := ?_) (a' := ?_) (bs 24 1572863) rfl rfl (take_ofW HT_.out HW_.out (by kernel_rfl)) (fun _ _ _ h => h) (Or.inl ⟨by rfl, ?_⟩) hS1 ?_ ?_
      rotate_left
      ·intro w' s
       go_simp
       with_reducible rfl
      rotate_left
      ·simp only [putAll, Act.put, List.setIfInBounds_toArray, List.set_cons_zero, List.set_cons_succ, i64_w, i32_w]
       rfl
      exact hjoin (va, gA, gN) _ ⟨ho1, hI1, blk_grown hN hg1 (fun e => by have := e1x gN e.symm; omega), hS1, hb1⟩
    ·refine value_ (v := .slice (some ⟨wd.heap.size, 0, none⟩) 1 1) (w1 := wd.alloc (.cells #[.int .i64 tx.size] 3)) (by rfl) rfl (by first | (go_simp; done) | (go_simp; rfl)) (hK.out _ _ (hS.below (below_alloc (Below.refl _ _) _)) (fun _ => ?_))
     clear hK K
     have hN := heap_alloc_new wd (.cells #[.int .i64 tx.size] 3)
     have SN := hS.below (below_alloc (Below.refl wd.heap.size wd) (.cells #[.int .i64 tx.size] 3))
     have DN := Kd.R_alloc hD (.cells #[.int .i64 tx.size] 3)
     have IN := Kd.R_alloc hI (.cells #[.int .i64 tx.size] 3)
     have BN := hB.alloc (Nat.le_trans hn72 hB.size) (.cells #[.int .i64 tx.size] 3)
     obtain ⟨wN, hwN⟩ : ∃ x, wd.alloc (.cells #[.int .i64 tx.size] 3) = x := ⟨_, rfl⟩
     obtain ⟨gN, hgN'⟩ : ∃ x, wd.heap.size = x := ⟨_, rfl⟩
     rw [hwN] at hN SN DN IN BN ⊢
     rw [hgN'] at hN hsd ⊢
     refine norm_ (a' := ?_) ?_ ?_
     rotate_left
     ·show Act.put _ (some 104) _ = _
      simp only [putAll, Act.put, List.setIfInBounds_toArray, List.set_cons_zero, List.set_cons_succ, i64_w, i32_w]
      rfl
     refine one_ (i := 8) (N := some 94) (bs 24 523775) rfl rfl (one_of HT_.out (by kernel_rfl)) (by decide) (fun K hK => ?_)
     refine value_ (v := .slice (some ⟨wN.heap.size, 0, none⟩) 1 1) (w1 := wN.alloc (.cells #[.int .i64 did, .string ⟨#[]⟩] 27)) (by rfl) rfl (by first | (go_simp; done) | (go_simp; rfl)) (hK.out _ _ (SN.below (below_alloc (Below.refl _ _) _)) (fun _ => ?_))
     clear hK K
     have hA := heap_alloc_new wN (.cells #[.int .i64 did, .string ⟨#[]⟩] 27)
     have hN' := blk_below hN (below_alloc (Below.refl wN.heap.size wN) (.cells #[.int .i64 did, .string ⟨#[]⟩] 27))
     have SA := SN.below (below_alloc (Below.refl wN.heap.size wN) (.cells #[.int .i64 did, .string ⟨#[]⟩] 27))
     have DA := Kd.R_alloc DN (.cells #[.int .i64 did, .string ⟨#[]⟩] 27)
     have IA := Kd.R_alloc IN (.cells #[.int .i64 did, .string ⟨#[]⟩] 27)
     have BA := BN.alloc (Nat.le_trans hn72 BN.size) (.cells #[.int .i64 did, .string ⟨#[]⟩] 27)
     obtain ⟨wA, hwA⟩ : ∃ x, wN.alloc (.cells #[.int .i64 did, .string ⟨#[]⟩] 27) = x := ⟨_, rfl⟩
     obtain ⟨gA, hgA⟩ : ∃ x, wN.heap.size = x := ⟨_, rfl⟩
     rw [hwA] at hA hN' SA DA IA BA ⊢
     rw [hgA] at hA ⊢
     refine norm_ (a' := ?_) ?_ ?_
     rotate_left
     ·show Act.put _ (some 94) _ = _
      simp only [putAll, Act.put, List.setIfInBounds_toArray, List.set_cons_zero, List.set_cons_succ, i64_w, i32_w]
      rfl
     refine one_ (i := 9) (N := some 95) (bs 24 524287) rfl rfl (one_of HT_.out (by kernel_rfl)) (by decide) (fun K hK => ?_)
     refine Kd.R_append_rows_step k27 (Rr := k27.K wA) (w0 := wr) n7 (by rfl) (.tmp 87) (.tmp 94) 22 27 (.agg #[.int .i64 0, .string ⟨#[]⟩]) 24 rfl Tryz.underlying22 infoDocL rfl (by decide) (by omega) v1 D0 [⟨did, ⟨#[]⟩⟩] (some ⟨gA, 0, none⟩) 1 1 (fun _ => True) (fun _ => False) rfl rfl DA (lit_doc hA) (fun _ _ h => docML h) (fun _ h => h.elim) (fun _ _ => trivial) BA (Nat.le_trans hn72 BA.size) (by omega) ?_
     intro va w1 ho1 hb1 hg1 hat1
     have hI1 := nums_kept DA IA hg1
     have hS1 := SA.grown hg1 e15 e1b
     refine hK.out _ _ hS1 (fun _ => ?_)
     clear hK K
     refine norm_ (a' := ?_) ?_ ?_
     rotate_left
     ·show Act.put _ (some 95) _ = _
      simp only [putAll, Act.put, List.setIfInBounds_toArray, List.set_cons_zero, List.set_cons_succ, i64_w, i32_w]
      rfl
     refine take_ (i := 20) (N := some 106) (v := ?_) (a' := ?_) (bs 24 1572863) rfl rfl (take_ofW HT_.out HW_.out (by kernel_rfl)) (fun _ _ _ h => h) (Or.inl ⟨by rfl, ?_⟩) hS1 ?_ ?_
     rotate_left
     ·intro w' s
      go_simp
      with_reducible rfl
     rotate_left
     ·simp only [putAll, Act.put, List.setIfInBounds_toArray, List.set_cons_zero, List.set_cons_succ, i64_w, i32_w]
      rfl
     exact hjoin (va, gA, gN) _ ⟨ho1, hI1, blk_grown hN' hg1 (fun e => by have := e1x gN e.symm; omega), hS1, hb1⟩
   rintro ⟨va, gA, gN⟩ w1 ⟨hD1, hI1, hN1, hS1, hB1⟩
   dsimp only at hD1 hN1
   obtain ⟨Aa, ca, hva⟩ := Kd.R_slice hD1
   obtain ⟨na, hna⟩ : ∃ na, (D0 ++ [(⟨did, ⟨#[]⟩⟩ : S27)]).length = na := ⟨_, rfl⟩
   rw [hna] at hva
   subst hva
   clear hna
   refine norm_ (a' := ?_) ?_ ?_
   rotate_left
   ·simp only [putAll, Act.put, List.setIfInBounds_toArray, List.set_cons_zero, List.set_cons_succ, i64_w, i32_w]
    rfl
   refine one_ (i := 19) (N := some 105) (bs 24 2097151) rfl rfl (one_of HT_.out (by kernel_rfl)) (by decide) (fun K hK => ?_)
   refine Kd.R_append_rows_step (Kd.int .i64) (Rr := (Kd.int .i64).K w1) (w0 := wr) n7 (by rfl) (.tmp 97) (.tmp 104) 31 3 (.int .i64 0) 8 rfl Tryz.underlying31 infoNum rfl (by decide) (by omega) v2 L0 [(tx.size : Int)] (some ⟨gN, 0, none⟩) 1 1 (fun _ => True) (fun _ => False) rfl rfl hI1 (lit_num hN1) (fun _ _ h => numML h) (fun _ h => h.elim) (fun _ _ => trivial) hB1 (Nat.le_trans hn72 hB1.size) (by omega) ?_
   intro vb w2 ho2 hb2 hg2 hat2
   obtain ⟨Ab, cb, hvb⟩ := Kd.R_slice ho2
   obtain ⟨nb, hnb⟩ : ∃ nb, (L0 ++ [(tx.size : Int)]).length = nb := ⟨_, rfl⟩
   rw [hnb] at hvb
   subst hvb
   clear hnb
   have HDa := Aside0.mk (docs_kept hD1 hI1 hg2)
   have HIb := Aside0.mk ho2
   have hS2 := hS1.grown hg2 e25 e2b
   have HB2n := Aside0.mk hb2
   refine hK.out _ _ hS2 (fun hHeld => ?_)
   clear hK K hD1 hI1 hN1 hS1 hB1 ho2 hb2 hg2 hat2
   refine norm_ (a' := ?_) ?_ ?_
   rotate_left
   ·show Act.put _ (some 105) _ = _
    simp only [putAll, Act.put, List.setIfInBounds_toArray, List.set_cons_zero, List.set_cons_succ, i64_w, i32_w]
    rfl
   obtain ⟨w3, hw3⟩ : ∃ x, w2.setCell ⟨b5, 5, none⟩ (.slice Aa na ca) = x := ⟨_, rfl⟩
   obtain ⟨w4', hw4⟩ : ∃ x, w3.setCell ⟨b5, 6, none⟩ (.slice Ab nb cb) = x := ⟨_, rfl⟩
   have W3E := Aside0.mk hw3
   have W4E := Aside0.mk hw4
   have hcb := (HB2n.out.block b5 HB5N.out).trans HRr.out
   have z0 := hS2.c5
   have z1 := blk_frozen hcb 5
   have hcb3 := blk_set hcb 5 (.slice Aa na ca)
   rw [hw3] at hcb3
   have z2 : w3.cell? ⟨b5, 6, none⟩ = some v2 := (blk_cell hcb3 6).trans rfl
   have z3 := blk_frozen hcb3 6
   clear hcb hcb3 hw3 hw4 hS2
   refine last_ (i := 21) (N := none) (bs 24 4194303) rfl rfl (one_of HT_.out (by kernel_rfl)) (by decide) (fun K hK => ?_)
   refine skip_ (w1 := w2.setCell ⟨b5, 5, none⟩ (.slice Aa na ca)) (by rfl) rfl (by first | (go_simp; done) | (go_simp; rfl)) (hK.out _ _ ?_)
   clear hK K
   rw [W3E.out]
   refine last_ (i := 22) (N := some 107) (bs 24 8388607) rfl rfl (one_of HT_.out (by kernel_rfl)) (by decide) (fun K hK => ?_)
   refine value_ (v := .pointer (some ⟨b5, 6, none⟩)) (w1 := w3) (by rfl) rfl (by first | (go_simp; done) | (go_simp; rfl)) (hK.out _ _ ?_)
   clear hK K
   refine norm_ (a' := ?_) ?_ ?_
   rotate_left
   ·show Act.put _ (some 107) _ = _
    simp only [putAll, Act.put, List.setIfInBounds_toArray, List.set_cons_zero, List.set_cons_succ, i64_w, i32_w]
    rfl
   refine last_ (i := 23) (N := none) (bs 24 16777215) rfl rfl (one_of HT_.out (by kernel_rfl)) (by decide) (fun K hK => ?_)
   refine skip_ (w1 := w3.setCell ⟨b5, 6, none⟩ (.slice Ab nb cb)) (by rfl) rfl (by first | (go_simp; done) | (go_simp; rfl)) (hK.out _ _ ?_)
   clear hK K
   rw [W4E.out]
   refine done_ (done_of HT_.out (by kernel_rfl)) ?_
   clear hHeld z0 z1 z2 z3
   have hcB : Aside0 (w2.heap[b5]? = some (.cells (repCells 0 l0.length ⟨#[]⟩ nilS v1 v2 zeroC).toArray 34 (0, 0))) := ⟨(HB2n.out.block b5 HB5N.out).trans HRr.out⟩
   have hr3 : w3.heap[b5]? = some (.cells (repCells 0 l0.length ⟨#[]⟩ nilS (.slice Aa na ca) v2 zeroC).toArray 34 (0, 0)) := by rw [← W3E.out]; exact blk_set hcB.out 5 (.slice Aa na ca)
   have hr4 : w4'.heap[b5]? = some (.cells (repCells 0 l0.length ⟨#[]⟩ nilS (.slice Aa na ca) (.slice Ab nb cb) zeroC).toArray 34 (0, 0)) := by rw [← W4E.out]; exact blk_set hr3 6 (.slice Ab nb cb)
   have hfar : ∀ q, q ≠ b5 → w4'.heap[q]? = w2.heap[q]? := fun q hq => by rw [← W4E.out, ← W3E.out]; exact (Below.heap_setCell _ ⟨b5, 6, none⟩ _ q hq).trans (Below.heap_setCell _ ⟨b5, 5, none⟩ _ q hq)
   have hD4 : Kd.R k27 27 w4' n7 (fun _ => True) (.slice Aa na ca) ((l0.take (k + 1)).map bareDoc) := by
    rw [HSD.out]
    exact Kd.R_mono (Kd.R_step (Kd.R_bound HDa.out) (fun q hq _ => hfar q (by have := hq.2.1; have := HB5N.out; omega))) (fun _ _ => trivial)
   have hI4 : Kd.R (Kd.int .i64) 3 w4' n7 (fun _ => True) (.slice Ab nb cb) ((l0.take (k + 1)).map lenOf) := by
    rw [HSI.out]
    exact Kd.R_mono (Kd.R_step (Kd.R_bound HIb.out) (fun q hq _ => hfar q (by have := hq.2.1; have := HB5N.out; omega))) (fun _ _ => trivial)
   have hU4 : ButAt n7 b5 wp w4' := by
    have hs4 : w4'.heap.size = w2.heap.size := by rw [← W4E.out, ← W3E.out]; simp [World.setCell]
    refine ⟨?_, ?_, ?_, ?_, fun q hq hqn => ?_⟩
    ·rw [← W4E.out, ← W3E.out]; exact HB2n.out.os.trans HU.out.os
    ·rw [← W4E.out, ← W3E.out]; exact HB2n.out.tape.trans HU.out.tape
    ·rw [← W4E.out, ← W3E.out]; exact HB2n.out.output.trans HU.out.output
    ·rw [hs4]; exact Nat.le_trans HU.out.size HB2n.out.size
    ·rw [hfar q hqn, HB2n.out.block q hq]
     exact HU.out.other q hq hqn
   have HRN := Aside0.mk hr4
   have HDN := Aside0.mk hD4
   have HIN := Aside0.mk hI4
   have HUN := Aside0.mk hU4
   clear hr3 hr4 hfar hD4 hI4 hU4 hcB
   go_wp2_with fail
   go_roundw
   case rel => exact ⟨k + 1, (.slice Aa na ca), (.slice Ab nb cb), by omega, by go_num, HRN, HDN, HIN, HUN⟩
   case measure => simp [intOf]; omega
  ·obtain rfl : k = l0.length := by omega
   rw [List.take_length] at HDs HIs
   obtain ⟨A1, c1', hv1⟩ := Kd.R_slice HDs.out
   obtain ⟨A2, c2', hv2⟩ := Kd.R_slice HIs.out
   rw [List.length_map] at hv1 hv2
   subst hv1 hv2
   have c1 : decide ((l0.length : Int) < (l0.length : Int)) = false := decide_eq_false (by omega)
   have c2 : decide (l0.length < l0.length) = false := decide_eq_false (by omega)
   have h4r : wr.heap[b4]? = some (.cells (repCells 0 0 ⟨#[]⟩ nilS nilS nilS zeroC).toArray 34 (0, 0)) := (HU.out.other b4 (by have := HB5N.out; have := H45.out; omega) (by have := H45.out; omega)).trans H4A.out
   obtain ⟨wz, hrs, hz, hbz, hfar⟩ := rep_put_far (repCells 0 l0.length ⟨#[]⟩ nilS (.slice A1 l0.length c1') (.slice A2 l0.length c2') zeroC) h4r rfl rfl (by simp [repCells, nilS, zeroC, Value.oneCell'])
   have HBz := Aside0.mk (HBw.out.trans (hbz.mono (show w.heap.size ≤ b4 by have := HWB.out; omega)))
   have hDz : Kd.R k27 27 wz n7 (fun _ => True) (.slice A1 l0.length c1') (l0.map bareDoc) :=
    Kd.R_mono (Kd.R_step (Kd.R_bound HDs.out) (fun q hq _ => hfar q (by have := hq.2.1; have := HB5N.out; have := H45.out; omega))) (fun _ _ => trivial)
   have hIz : Kd.R (Kd.int .i64) 3 wz n7 (fun _ => True) (.slice A2 l0.length c2') (l0.map lenOf) :=
    Kd.R_mono (Kd.R_step (Kd.R_bound HIs.out) (fun q hq _ => hfar q (by have := hq.2.1; have := HB5N.out; have := H45.out; omega))) (fun _ _ => trivial)
   have hlow : w.heap.size ≤ n7 := by have := HWB.out; have := HB5N.out; have := H45.out; omega
   have HDz := Aside0.mk (Kd.R_lower hDz hlow)
   have HIz := Aside0.mk (Kd.R_lower hIz hlow)
   have RS := Aside0.mk hrs
   have d0 : wr.cell? ⟨b5, 0, none⟩ = some (.int .i64 0) := (blk_cell HRr.out 0).trans rfl
   have d1 : wr.cell? ⟨b5, 1, none⟩ = some (.int .i64 0) := (blk_cell HRr.out 1).trans rfl
   have d2 : wr.cell? ⟨b5, 2, none⟩ = some (.int .i64 l0.length) := (blk_cell HRr.out 2).trans rfl
   have d3 : wr.cell? ⟨b5, 3, none⟩ = some (.string ⟨#[]⟩) := (blk_cell HRr.out 3).trans rfl
   have d4 : wr.cell? ⟨b5, 4, none⟩ = some (.slice none 0 0) := (blk_cell HRr.out 4).trans rfl
   have d5 : wr.cell? ⟨b5, 5, none⟩ = some (.slice A1 l0.length c1') := (blk_cell HRr.out 5).trans rfl
   have d6 : wr.cell? ⟨b5, 6, none⟩ = some (.slice A2 l0.length c2') := (blk_cell HRr.out 6).trans rfl
   have d7 : wr.cell? ⟨b5, 7, none⟩ = some (.complex .f64 0 0) := (blk_cell HRr.out 7).trans rfl
   clear hlt hk hrs hbz hfar hDz hIz h4r hlow
   go_wp2_with (first
    | ((with_reducible refine gate_store (t := 34) (p := 4) (v := .tmp 108) rfl ?_); refine store_event (t := 34) (p := 4) (v := .tmp 108) (w1 := wz) rfl rfl rfl ?hr ?_; (case hr => exact store_runs rfl rfl rfl RS.out); intro w9 hw; subst hw))
   exact bodyPost_ret (ans_results _ b4 (repCells 0 l0.length ⟨#[]⟩ nilS (.slice A1 l0.length c1') (.slice A2 l0.length c2') zeroC).toArray rfl hz _ rfl) rfl ⟨A1, c1', A2, c2', rfl, HDz.out, HIz.out, HBz.out⟩
end Go.Proofs.YtibhenengpdahaaGreat.P
