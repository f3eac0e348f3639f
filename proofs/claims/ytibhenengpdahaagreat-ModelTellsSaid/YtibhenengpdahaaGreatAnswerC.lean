/- The function Answer of package model: how often a text is there. Conditions: how the list lies in memory, and its length. (Printed by genanswer.py.) -/
import Derived.Test.YtibhenengpdahaaGreatJF
import Derived.Test.YtibhenengpdahaaGreatP4
set_option linter.unusedVariables false
set_option linter.unusedSimpArgs false
namespace Go.Proofs.YtibhenengpdahaaGreat.P
open Go.RowKit Go.Proofs.YtibhenengpdahaaGreatW.PrintWords Go.Proofs.YtibhenengpdahaaGreatW.PrintLast Go.Proofs.YtibhenengpdahaaGreatW.PrintMore

theorem cell_under {B : Nat} {w w' : World} {a : Addr} {v : Value} (hb : Below B w w') (hlt : a.block < B) (h : w.cell? a = some v) : w'.cell? a = some v := by
 rw [← h]
 unfold World.cell?
 rw [hb.block a.block hlt]
theorem set_under {B : Nat} {w W : World} (h : Below B w W) (p : Addr) (v : Value) (hp : B ≤ p.block) : Below B w (W.setCell p v) :=
 ⟨h.os, h.tape, h.output, by simpa [World.setCell] using h.size, fun k hk => (Below.heap_setCell W p v k (by omega)).trans (h.block k hk)⟩
def ansCount.T6 : Bool × List (List Nat × List Nat) := (true, [([], []), ([0], [0]), ([], []), ([2], [2]), ([1, 3, 3], [1, 3]), ([4], [4]), ([0, 1, 2, 3, 4, 5], []), ([6, 5, 4, 0, 1, 2, 3, 4, 5], [5, 6])])
def ansCount.B6 : List Nat := [0, 1, 0, 4, 15, 31, 63, 127]
theorem ansCount.tab6 : rtab .any (opsOf Tryz.f6 6) = ansCount.T6 := by kernel_rfl
theorem ansCount.bits6 : waitsOk ansCount.T6.2 ansCount.B6 = true := by kernel_rfl
set_option maxRecDepth 100000 in
set_option maxHeartbeats 4000000 in
theorem answer_count (A0 : Option Addr) (c0 : Nat) (l0 : List S27) (kind id fr tt snap : Int) (text : ByteArray) (w : World) (hr0 : Kd.C k27 w A0 l0.length l0) (hc0 : l0.length ≤ c0) (hl : l0.length ≤ 1000000) (hmay : mayB l0 kind id fr tt snap text = true) (hk : kind = 3) (R : List S68) (kn : Nat) (hkn : back_Naive.f kn text (textsOf l0) = some R) :
  Calls Tryz.prog 6 #[.slice A0 l0.length c0, .agg #[.int .i64 kind, .int .i64 id, .int .i64 fr, .int .i64 tt, .int .i64 snap, .string text]] w fun e w' =>
   e = .returned (.agg (repCells 0 R.length ⟨#[]⟩ nilS nilS nilS zeroC).toArray) ∧ Below w.heap.size w w' := by
 subst hk
 have MR := Aside0.mk (fun w' (hr : Kd.C k27 w' A0 l0.length l0) => model_Right.calls (2 * l0.length + 2) A0 c0 l0 (modelB l0) w' hr hc0 (modelRight_ok l0 hl _ (Nat.le_refl _)))
 have AR := Aside0.mk (ask_Right.told 3 id fr tt snap text)
 have HR := Aside0.mk hr0
 have TX := Aside0.mk (fun w' (hr : Kd.C k27 w' A0 l0.length l0) => model_texts.calls (l0.length + 1) A0 c0 l0 (textsOf l0) w' hr hc0 (texts_ok l0 hl _ (Nat.le_refl _)))
 have NV := Aside0.mk (fun A c w' (hr : Kd.C Kd.string w' A (textsOf l0).length (textsOf l0)) hc => back_Naive.calls kn text A c (textsOf l0) R w' hr hc hkn)
 have hmay2 := hmay
 unfold mayB at hmay2
 rw [Bool.and_eq_true] at hmay2
 rw [hmay2.1] at MR
 rw [hmay2.2] at AR
 obtain ⟨W1, hW1⟩ : ∃ W1, w.alloc (.cells #[.int .i64 3, .int .i64 id, .int .i64 fr, .int .i64 tt, .int .i64 snap, .string text] 24) = W1 := ⟨_, rfl⟩
 have HB1 : Aside0 (Below w.heap.size w W1) := ⟨by rw [← hW1]; exact below_alloc (Below.refl _ _) _⟩
 have g0 : Aside0 (W1.cell? ⟨w.heap.size, 0, none⟩ = some (.int .i64 3)) := ⟨by rw [← hW1]; exact cell_newA w _ _ 0 _ rfl⟩
 have g1 : Aside0 (W1.cell? ⟨w.heap.size, 1, none⟩ = some (.int .i64 id)) := ⟨by rw [← hW1]; exact cell_newA w _ _ 1 _ rfl⟩
 have g2 : Aside0 (W1.cell? ⟨w.heap.size, 2, none⟩ = some (.int .i64 fr)) := ⟨by rw [← hW1]; exact cell_newA w _ _ 2 _ rfl⟩
 have g3 : Aside0 (W1.cell? ⟨w.heap.size, 3, none⟩ = some (.int .i64 tt)) := ⟨by rw [← hW1]; exact cell_newA w _ _ 3 _ rfl⟩
 have g4 : Aside0 (W1.cell? ⟨w.heap.size, 4, none⟩ = some (.int .i64 snap)) := ⟨by rw [← hW1]; exact cell_newA w _ _ 4 _ rfl⟩
 have g5 : Aside0 (W1.cell? ⟨w.heap.size, 5, none⟩ = some (.string text)) := ⟨by rw [← hW1]; exact cell_newA w _ _ 5 _ rfl⟩
 have W1E := Aside0.mk hW1
 clear hr0 hc0 hl hmay hkn hmay2
 go_enter Tryz.func6, Tryz.ntmps6
 go_wp2_with fail
 try rw [W1E.out]
 obtain ⟨b4, hb4⟩ : ∃ b4, W1.heap.size = b4 := ⟨_, rfl⟩
 have hb5 : w.heap.size + 1 = b4 := by rw [← hb4, ← W1E.out]; exact (Array.size_push _).symm
 obtain ⟨W2, hW2⟩ : ∃ W2, W1.alloc (.cells (repCells 0 0 ⟨#[]⟩ nilS nilS nilS zeroC).toArray 34) = W2 := ⟨_, rfl⟩
 have hr2 : W2.heap[b4]? = some (.cells (repCells 0 0 ⟨#[]⟩ nilS nilS nilS zeroC).toArray 34 (0, 0)) := by rw [← hW2, ← hb4]; exact heap_alloc_new _ _
 have HB12 : Aside0 (Below W1.heap.size W1 W2) := ⟨by rw [← hW2]; exact below_alloc (Below.refl _ _) _⟩
 change Calls _ _ _ (W1.alloc (.cells (repCells 0 0 ⟨#[]⟩ nilS nilS nilS zeroC).toArray 34)) _
 rw [hW2, hb4]
 refine (MR.out _ (Kd.C_below HR.out (below_step HB1.out HB12.out))).mono ?_
 rintro en w3 ⟨rfl, hb⟩
 have HB13 := Aside0.mk (below_step HB12.out hb)
 have hr3 := blk_below hr2 hb
 have HB3 := Aside0.mk (below_step HB1.out HB13.out)
 clear hW2 hb
 all_goals skip
 have k0 := pw_cell_below HB13.out g0.out
 have k1 := pw_cell_below HB13.out g1.out
 have k2 := pw_cell_below HB13.out g2.out
 have k3 := pw_cell_below HB13.out g3.out
 have k4 := pw_cell_below HB13.out g4.out
 have k5 := pw_cell_below HB13.out g5.out
 go_wp2_with fail
 refine (AR.out _).mono ?_
 rintro en w4 ⟨rfl, hb⟩
 have HB14 := Aside0.mk (below_step HB13.out hb)
 have HB4 := Aside0.mk (below_step HB3.out hb)
 have hr4 := blk_below hr3 hb
 clear hb k0 k1 k2 k3 k4 k5
 have k0 := pw_cell_below HB14.out g0.out
 have k0b : (w4.alloc (.cells #[.int .i64 0, .int .i64 0, .int .i64 0, .string ⟨#[]⟩, .slice none 0 0, .slice none 0 0, .slice none 0 0, .complex .f64 0 0] 34)).cell? ⟨w.heap.size, 0, none⟩ = some (.int .i64 3) := pw_cell_below (below_alloc (Below.refl _ _) _) k0
 go_wp2_with fail
 clear k0 k0b
 obtain ⟨b5, hb5⟩ : ∃ b5, w4.heap.size = b5 := ⟨_, rfl⟩
 obtain ⟨w5, hw5⟩ : ∃ w5, w4.alloc (.cells #[.int .i64 0, .int .i64 0, .int .i64 0, .string ⟨#[]⟩, .slice none 0 0, .slice none 0 0, .slice none 0 0, .complex .f64 0 0] 34) = w5 := ⟨_, rfl⟩
 have hrep : w5.heap[b5]? = some (.cells #[.int .i64 0, .int .i64 0, .int .i64 0, .string ⟨#[]⟩, .slice none 0 0, .slice none 0 0, .slice none 0 0, .complex .f64 0 0] 34 (0, 0)) := by rw [← hw5, ← hb5]; exact heap_alloc_new _ _
 have hB45 : Below w4.heap.size w4 w5 := by rw [← hw5]; exact below_alloc (Below.refl _ _) _
 have HB5 := Aside0.mk (below_step HB4.out hB45)
 have hr5 := blk_below hr4 hB45
 have k5 := pw_cell_below (below_step HB14.out hB45) g5.out
 have hwb : w.heap.size ≤ b5 := by rw [← hb5]; exact HB4.out.size
 have hwb1 : (⟨w.heap.size, 5, none⟩ : Addr).block < b5 := by
  have h1 : w.heap.size + 1 ≤ w4.heap.size := by
   have h2 := blk_lt hr4
   omega
  show w.heap.size < b5
  omega
 have hb45 : b4 < b5 := by rw [← hb5]; exact blk_lt hr4
 have hb5l : b5 ≤ w5.heap.size := by have := blk_lt hrep; omega
 rw [hb5, hw5]
 clear hw5 hb5 hB45 hr4
 try go_wp2
 refine start_ (n := 8) (S := fun w' => Below b5 w5 w') (ds := []) (bs 8 0) (by kernel_rfl) rfl rfl (below_drew1 (Below.refl _ _)) (fun hHeld => ?_)
 refine with_tabW ansCount.tab6 ansCount.bits6 (fun HT_ HW_ => ?_)
 refine take_ (i := 0) (N := some 34) (v := ?_) (a' := ?_) (bs 8 1) rfl rfl (take_ofW HT_.out HW_.out (by kernel_rfl)) (fun _ _ _ h => h) (Or.inl ⟨by rfl, ?_⟩) hHeld ?_ ?_
 rotate_left
 ·intro w' s
  go_simp
  with_reducible rfl
 rotate_left
 ·simp only [Act.put, List.setIfInBounds_toArray, List.set_cons_zero, List.set_cons_succ, i64_w, i32_w]
  rfl
 refine take_ (i := 1) (N := some 35) (v := ?_) (a' := ?_) (bs 8 3) rfl rfl (take_ofW HT_.out HW_.out (by kernel_rfl)) (fun _ _ _ h => h) (Or.inl ⟨by rfl, ?_⟩) hHeld ?_ ?_
 rotate_left
 ·intro w' s
  have s0 := cell_under s hwb1 k5
  go_simp
  with_reducible rfl
 rotate_left
 ·simp only [Act.put, List.setIfInBounds_toArray, List.set_cons_zero, List.set_cons_succ, i64_w, i32_w]
  rfl
 refine take_ (i := 2) (N := some 36) (v := ?_) (a' := ?_) (bs 8 7) rfl rfl (take_ofW HT_.out HW_.out (by kernel_rfl)) (fun _ _ _ h => h) (Or.inl ⟨by rfl, ?_⟩) hHeld ?_ ?_
 rotate_left
 ·intro w' s
  go_simp
  with_reducible rfl
 rotate_left
 ·simp only [Act.put, List.setIfInBounds_toArray, List.set_cons_zero, List.set_cons_succ, i64_w, i32_w]
  rfl
 refine one_ (i := 3) (N := some 37) (bs 8 15) rfl rfl (one_of HT_.out (by kernel_rfl)) (by decide) (fun K hK => ?_)
 refine goes_ Tryz.func23 (by kernel_rfl) rfl #[.slice A0 l0.length c0] (by rfl) rfl rfl (by (try simp only [List.map_toArray, List.map_cons, List.map_nil]); first | done | rfl | (simp only [List.length_drop, List.length_take]; rfl)) ?_
 refine (TX.out _ (Kd.C_below HR.out (HB5.out.trans (hHeld.mono hwb)))).mono ?_
 rintro en w6 ⟨v6, rfl, ho, hb⟩
 refine ⟨_, rfl, ?_⟩
 have hS6 := hHeld.trans (hb.mono (Nat.le_trans hb5l hHeld.size))
 have hr6 := blk_below (blk_drew hrep) hb
 have hb6 := Aside0.mk hb
 obtain ⟨A6, c6, rfl⟩ := Kd.R_slice ho
 have HC6 := Aside0.mk (Kd.R_reads' ho)
 clear ho hb
 refine hK.out _ _ hS6 (fun hHeld => ?_)
 clear hK K
 refine norm_ (a' := ?_) ?_ ?_
 rotate_left
 ·show Act.put _ (some 37) _ = _
  simp only [Act.put, List.setIfInBounds_toArray, List.set_cons_zero, List.set_cons_succ, i64_w, i32_w]
  rfl
 refine one_ (i := 4) (N := some 38) (bs 8 31) rfl rfl (one_of HT_.out (by kernel_rfl)) (by decide) (fun K hK => ?_)
 refine goes_ Tryz.func22 (by kernel_rfl) rfl #[.string text, .slice A6 (textsOf l0).length c6] (by rfl) rfl rfl (by (try simp only [List.map_toArray, List.map_cons, List.map_nil]); first | done | rfl | (simp only [List.length_drop, List.length_take]; rfl)) ?_
 refine (NV.out _ _ _ HC6.out.2.2 HC6.out.2.1).mono ?_
 rintro en w7 ⟨v7, rfl, ho, hb⟩
 refine ⟨_, rfl, ?_⟩
 have hS7 := hS6.trans (hb.mono (Nat.le_trans hb5l hS6.size))
 have hr7 := blk_below hr6 hb
 have hb7 := Aside0.mk hb
 obtain ⟨A7, c7, rfl⟩ := Kd.R_slice ho
 have z0 := blk_cell hr7 2
 have z1 := blk_frozen hr7 2
 clear ho hb
 refine hK.out _ _ hS7 (fun hHeld => ?_)
 clear hK K
 refine norm_ (a' := ?_) ?_ ?_
 rotate_left
 ·show Act.put _ (some 38) _ = _
  simp only [Act.put, List.setIfInBounds_toArray, List.set_cons_zero, List.set_cons_succ, i64_w, i32_w]
  rfl
 iterate 2
  refine tk_ (N := some _) (v := ?_) (a' := ?_) rfl rfl (take_ofW HT_.out HW_.out (by kernel_rfl)) (fun _ _ _ h => h) (Or.inl ⟨by rfl, ?_⟩) hHeld ?_ ?_
  rotate_left
  ·intro w' s
   go_simp
   with_reducible rfl
  rotate_left
  ·simp only [Act.put, List.setIfInBounds_toArray, List.set_cons_zero, List.set_cons_succ, i64_w, i32_w]
   rfl
 refine one_ (i := 7) (N := none) (bs 8 255) rfl rfl (one_of HT_.out (by kernel_rfl)) (by decide) (fun K hK => ?_)
 refine skip_ (w1 := w7.setCell ⟨b5, 2, none⟩ (.int .i64 R.length)) (by rfl) rfl (by first | (go_simp; done) | (go_simp; rfl)) (hK.out _ _ (set_under hS7 ⟨b5, 2, none⟩ _ (Nat.le_refl b5)) (fun hHeld => ?_))
 clear hK K
 refine done_ (done_of HT_.out (by kernel_rfl)) ?_
 have h4a := blk_below (blk_below (blk_drew hr5) hb6.out) hb7.out
 have h4b : (w7.setCell ⟨b5, 2, none⟩ (.int .i64 R.length)).heap[b4]? = some (.cells (repCells 0 0 ⟨#[]⟩ nilS nilS nilS zeroC).toArray 34 (0, 0)) := blk_far h4a (show b4 ≠ b5 by omega) _
 have h5b : (w7.setCell ⟨b5, 2, none⟩ (.int .i64 R.length)).heap[b5]? = some (.cells (repCells 0 R.length ⟨#[]⟩ nilS nilS nilS zeroC).toArray 34 (0, 0)) := blk_set hr7 2 (.int .i64 R.length)
 have hb8 := set_under hS7 ⟨b5, 2, none⟩ (.int .i64 R.length) (Nat.le_refl b5)
 obtain ⟨w8, hw8⟩ : ∃ w8, w7.setCell ⟨b5, 2, none⟩ (.int .i64 R.length) = w8 := ⟨_, rfl⟩
 rw [hw8] at h4b h5b hb8 ⊢
 obtain ⟨wz, hrs, hz, hbz⟩ := rep_put (repCells 0 R.length ⟨#[]⟩ nilS nilS nilS zeroC) h4b rfl rfl (by simp [repCells, nilS, zeroC, Value.oneCell']) w.heap.size (by omega)
 have RS := Aside0.mk hrs
 have d0 : w8.cell? ⟨b5, 0, none⟩ = some (.int .i64 0) := (blk_cell h5b 0).trans rfl
 have d1 : w8.cell? ⟨b5, 1, none⟩ = some (.int .i64 0) := (blk_cell h5b 1).trans rfl
 have d2 : w8.cell? ⟨b5, 2, none⟩ = some (.int .i64 R.length) := (blk_cell h5b 2).trans rfl
 have d3 : w8.cell? ⟨b5, 3, none⟩ = some (.string ⟨#[]⟩) := (blk_cell h5b 3).trans rfl
 have d4 : w8.cell? ⟨b5, 4, none⟩ = some (.slice none 0 0) := (blk_cell h5b 4).trans rfl
 have d5 : w8.cell? ⟨b5, 5, none⟩ = some (.slice none 0 0) := (blk_cell h5b 5).trans rfl
 have d6 : w8.cell? ⟨b5, 6, none⟩ = some (.slice none 0 0) := (blk_cell h5b 6).trans rfl
 have d7 : w8.cell? ⟨b5, 7, none⟩ = some (.complex .f64 0 0) := (blk_cell h5b 7).trans rfl
 have HBz := Aside0.mk ((HB5.out.trans (hb8.mono hwb)).trans hbz)
 clear hrs hbz h4a h4b h5b hw8 hHeld hb8
 go_wp2_with (first
  | ((with_reducible refine gate_store (t := 34) (p := 4) (v := .tmp 133) rfl ?_); refine store_event (t := 34) (p := 4) (v := .tmp 133) (w1 := wz) rfl rfl rfl ?hr ?_; (case hr => exact store_runs rfl rfl rfl RS.out); intro w9 hw; subst hw))
 exact bodyPost_ret (ans_results _ b4 (repCells 0 R.length ⟨#[]⟩ nilS nilS nilS zeroC).toArray rfl hz _ rfl) rfl ⟨rfl, HBz.out⟩
end Go.Proofs.YtibhenengpdahaaGreat.P
