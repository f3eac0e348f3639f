/- The function Answer of package model: where a text is. Conditions: how the list lies in memory, and its length. (Printed by genlocate.py.) -/
import Derived.Test.YtibhenengpdahaaGreatAnswerC
set_option linter.unusedVariables false
set_option linter.unusedSimpArgs false
namespace Go.Proofs.YtibhenengpdahaaGreat.P
open Go.RowKit Go.Proofs.YtibhenengpdahaaGreatW.PrintWords Go.Proofs.YtibhenengpdahaaGreatW.PrintLast Go.Proofs.YtibhenengpdahaaGreatW.PrintMore

/-- A place, told by its document's number. -/
def spotOf (l : List S27) (x : S68) : S61 := ⟨(rd_T27 l x.f0).f0, x.f1⟩
theorem infoSpot : ((Tryz.prog).info? 61).map (fun i => (i.zero, i.size, i.bytes)) = some (some (.agg #[(.int .i64 0), (.int .i64 0)]), 2, 16) := by kernel_rfl
/-- Nothing below B is turned, but for block b. -/
structure ButAt (B b : Nat) (w w' : World) : Prop where
 mk :: (os : w'.os = w.os) (tape : w'.tape = w.tape) (output : w'.output = w.output) (size : w.heap.size ≤ w'.heap.size) (other : ∀ k, k < B → k ≠ b → w'.heap[k]? = w.heap[k]?)
theorem rd_spot_get (xs : List S68) (j : Nat) (h : j < xs.length) : rd_T68 xs (j : Int) = xs[j] := by
 unfold rd_T68
 rw [Int.toNat_natCast, List.getD_eq_getElem?_getD, List.getElem?_eq_getElem h]
 rfl
theorem rep_put_far {W : World} {b : Nat} {old : Array Value} (cs : List Value) (hb : W.heap[b]? = some (.cells old 34 (0, 0))) (ho : old.size = 8) (hn : cs.length = 8) (h1 : ∀ v ∈ cs, v.oneCell' = true) :
  ∃ w1, (Instr.storeAt 34 (.pointer (some ⟨b, 0, none⟩)) (.agg cs.toArray)).run Tryz.prog W = .ok () w1 ∧ w1.heap[b]? = some (.cells cs.toArray 34 (0, 0)) ∧ Below b W w1 ∧ ∀ k, k ≠ b → w1.heap[k]? = W.heap[k]? := by
 have hi : ((Tryz.prog).info? 34).map (·.size) = some cs.length := by rw [hn]; kernel_rfl
 have hr := run_store_run (P := Tryz.prog) (o := 0) 34 (.agg cs.toArray) cs hb (by simp [Value.cells]) hi (by omega) h1
 obtain ⟨cur', h3, h4, h5⟩ := setCells_row cs 0 W old hb (by omega)
 obtain ⟨s1, s2, s3, s4⟩ := setCells_same b cs 0 W
 refine ⟨_, hr, ?_, ⟨s1, s2, s3, by rw [s4]; exact Nat.le_refl _, fun k hk => setCells_far cs 0 k (show k ≠ b by omega)⟩, fun k hk => setCells_far cs 0 k hk⟩
 have e : cur' = cs.toArray := by
  apply Array.ext'
  rw [h5, List.take_zero, List.nil_append, List.drop_eq_nil_of_le (by rw [Array.length_toList]; omega), List.append_nil]
 rw [← e]
 exact h3
theorem cell_lt {w : World} {a : Addr} {v : Value} (h : w.cell? a = some v) : a.block < w.heap.size := by
 rcases Nat.lt_or_ge a.block w.heap.size with h1 | h1
 ·exact h1
 ·unfold World.cell? at h
  rw [Array.getElem?_eq_none h1] at h
  cases h
theorem cell_same {w w' : World} {a : Addr} {v : Value} (hb : w'.heap[a.block]? = w.heap[a.block]?) (h : w.cell? a = some v) : w'.cell? a = some v := by
 rw [← h]
 unfold World.cell?
 rw [hb]
theorem spot_kept {wd w1 : World} {n7 b5 bx : Nat} {vs : Value} {d at_ id0 : Int} {ad : Addr} (h : wd.cell? ⟨b5, 4, none⟩ = some vs ∧ wd.cell? ⟨bx, 0, none⟩ = some (.int .i64 d) ∧ wd.cell? ⟨bx, 1, none⟩ = some (.int .i64 at_) ∧ wd.cell? ad = some (.int .i64 id0))
  (hb : Below n7 wd w1) (hg : wd.grownBy w1 vs.ownBlock) (hx : some bx ≠ vs.ownBlock) (h5 : b5 < n7) (ha : ad.block < n7) :
  w1.cell? ⟨b5, 4, none⟩ = some vs ∧ w1.cell? ⟨bx, 0, none⟩ = some (.int .i64 d) ∧ w1.cell? ⟨bx, 1, none⟩ = some (.int .i64 at_) ∧ w1.cell? ad = some (.int .i64 id0) :=
 ⟨cell_under hb h5 h.1, cell_same (hg.block bx (cell_lt h.2.1) hx) h.2.1, cell_same (hg.block bx (cell_lt h.2.1) hx) h.2.2.1, cell_under hb ha h.2.2.2⟩
def ansLocate.T8 : Bool × List (List Nat × List Nat) := (true, [([], []), ([0], [0]), ([], []), ([2], [2]), ([1, 3, 3], [1, 3]), ([4], [4]), ([], [])])
def ansLocate.B8 : List Nat := [0, 1, 0, 4, 15, 31, 0]
theorem ansLocate.tab8 : rtab .any (opsOf Tryz.f6 8) = ansLocate.T8 := by kernel_rfl
theorem ansLocate.bits8 : waitsOk ansLocate.T8.2 ansLocate.B8 = true := by kernel_rfl
def ansLocate.T11 : Bool × List (List Nat × List Nat) := (true, [([], []), ([0], [0]), ([], []), ([], []), ([3], [3]), ([2, 4], [2, 4]), ([5], [5]), ([6], [6]), ([], []), ([8], [8]), ([7, 9], [7, 9]), ([10], [10]), ([1, 11], [1, 11]), ([0, 1, 2, 3, 4, 5, 6, 7, 8, 9, 10, 11, 12], []), ([13, 12, 12, 0, 1, 2, 3, 4, 5, 6, 7, 8, 9, 10, 11, 12], [12, 13])])
def ansLocate.B11 : List Nat := [0, 1, 0, 0, 8, 28, 60, 124, 0, 256, 1020, 2044, 4095, 8191, 16383]
theorem ansLocate.tab11 : rtab .any (opsOf Tryz.f6 11) = ansLocate.T11 := by kernel_rfl
theorem ansLocate.bits11 : waitsOk ansLocate.T11.2 ansLocate.B11 = true := by kernel_rfl
set_option maxRecDepth 100000 in
set_option maxHeartbeats 4000000 in
theorem answer_locate (A0 : Option Addr) (c0 : Nat) (l0 : List S27) (kind id fr tt snap : Int) (text : ByteArray) (w : World) (hr0 : Kd.C k27 w A0 l0.length l0) (hc0 : l0.length ≤ c0) (hl : l0.length ≤ 1000000) (hmay : mayB l0 kind id fr tt snap text = true) (hk : kind = 4) (R : List S68) (kn : Nat) (hkn : back_Naive.f kn text (textsOf l0) = some R) (hval : ∀ x ∈ R, 0 ≤ x.f0 ∧ x.f0 < (l0.length : Int)) (hRl : R.length ≤ 1000000) :
  Calls Tryz.prog 6 #[.slice A0 l0.length c0, .agg #[.int .i64 kind, .int .i64 id, .int .i64 fr, .int .i64 tt, .int .i64 snap, .string text]] w fun e w' =>
∃ (Av : Option Addr) (cv : Nat), e = .returned (.agg (repCells 0 R.length ⟨#[]⟩ (.slice Av R.length cv) nilS nilS zeroC).toArray) ∧ Kd.R k61 61 w' w.heap.size (fun _ => True) (.slice Av R.length cv) (R.map (spotOf l0)) ∧ Below w.heap.size w w' := by
 subst hk
 have HV := Aside0.mk hval
 have HRL := Aside0.mk hRl
 have MR := Aside0.mk (fun w' (hr : Kd.C k27 w' A0 l0.length l0) => model_Right.calls (2 * l0.length + 2) A0 c0 l0 (modelB l0) w' hr hc0 (modelRight_ok l0 hl _ (Nat.le_refl _)))
 have AR := Aside0.mk (ask_Right.told 4 id fr tt snap text)
 have HR := Aside0.mk hr0
 have TX := Aside0.mk (fun w' (hr : Kd.C k27 w' A0 l0.length l0) => model_texts.calls (l0.length + 1) A0 c0 l0 (textsOf l0) w' hr hc0 (texts_ok l0 hl _ (Nat.le_refl _)))
 have NV := Aside0.mk (fun A c w' (hr : Kd.C Kd.string w' A (textsOf l0).length (textsOf l0)) hc => back_Naive.calls kn text A c (textsOf l0) R w' hr hc hkn)
 have hmay2 := hmay
 unfold mayB at hmay2
 rw [Bool.and_eq_true] at hmay2
 rw [hmay2.1] at MR
 rw [hmay2.2] at AR
 obtain ⟨W1, hW1⟩ : ∃ W1, w.alloc (.cells #[.int .i64 4, .int .i64 id, .int .i64 fr, .int .i64 tt, .int .i64 snap, .string text] 24) = W1 := ⟨_, rfl⟩
 have HB1 : Aside0 (Below w.heap.size w W1) := ⟨by rw [← hW1]; exact below_alloc (Below.refl _ _) _⟩
 have g0 : Aside0 (W1.cell? ⟨w.heap.size, 0, none⟩ = some (.int .i64 4)) := ⟨by rw [← hW1]; exact cell_newA w _ _ 0 _ rfl⟩
 have g1 : Aside0 (W1.cell? ⟨w.heap.size, 1, none⟩ = some (.int .i64 id)) := ⟨by rw [← hW1]; exact cell_newA w _ _ 1 _ rfl⟩
 have g2 : Aside0 (W1.cell? ⟨w.heap.size, 2, none⟩ = some (.int .i64 fr)) := ⟨by rw [← hW1]; exact cell_newA w _ _ 2 _ rfl⟩
 have g3 : Aside0 (W1.cell? ⟨w.heap.size, 3, none⟩ = some (.int .i64 tt)) := ⟨by rw [← hW1]; exact cell_newA w _ _ 3 _ rfl⟩
 have g4 : Aside0 (W1.cell? ⟨w.heap.size, 4, none⟩ = some (.int .i64 snap)) := ⟨by rw [← hW1]; exact cell_newA w _ _ 4 _ rfl⟩
 have g5 : Aside0 (W1.cell? ⟨w.heap.size, 5, none⟩ = some (.string text)) := ⟨by rw [← hW1]; exact cell_newA w _ _ 5 _ rfl⟩
 have W1E := Aside0.mk hW1
 clear hr0 hc0 hl hmay hkn hmay2
 go_enter Tryz.func6, Tryz.ntmps6
 go_wp2_with fail
 try rw [W1E.out]
 obtain ⟨b4, hb4⟩ : ∃ b4, W1.heap.size = b4 := ⟨_, rfl⟩
 have hb5 : w.heap.size + 1 = b4 := by rw [← hb4, ← W1E.out]; exact (Array.size_push _).symm
 obtain ⟨W2, hW2⟩ : ∃ W2, W1.alloc (.cells (repCells 0 0 ⟨#[]⟩ nilS nilS nilS zeroC).toArray 34) = W2 := ⟨_, rfl⟩
 have hr2 : W2.heap[b4]? = some (.cells (repCells 0 0 ⟨#[]⟩ nilS nilS nilS zeroC).toArray 34 (0, 0)) := by rw [← hW2, ← hb4]; exact heap_alloc_new _ _
 have HB12 : Aside0 (Below W1.heap.size W1 W2) := ⟨by rw [← hW2]; exact below_alloc (Below.refl _ _) _⟩
 change Calls _ _ _ (W1.alloc (.cells (repCells 0 0 ⟨#[]⟩ nilS nilS nilS zeroC).toArray 34)) _
 rw [hW2, hb4]
 refine (MR.out _ (Kd.C_below HR.out (below_step HB1.out HB12.out))).mono ?_
 rintro en w3 ⟨rfl, hb⟩
 have HB13 := Aside0.mk (below_step HB12.out hb)
 have hr3 := blk_below hr2 hb
 have HB3 := Aside0.mk (below_step HB1.out HB13.out)
 clear hW2 hb
 all_goals skip
 have k0 := pw_cell_below HB13.out g0.out
 have k1 := pw_cell_below HB13.out g1.out
 have k2 := pw_cell_below HB13.out g2.out
 have k3 := pw_cell_below HB13.out g3.out
 have k4 := pw_cell_below HB13.out g4.out
 have k5 := pw_cell_below HB13.out g5.out
 go_wp2_with fail
 refine (AR.out _).mono ?_
 rintro en w4 ⟨rfl, hb⟩
 have HB14 := Aside0.mk (below_step HB13.out hb)
 have HB4 := Aside0.mk (below_step HB3.out hb)
 have hr4 := blk_below hr3 hb
 clear hb k0 k1 k2 k3 k4 k5
 have k0 := pw_cell_below HB14.out g0.out
 have k0b : (w4.alloc (.cells #[.int .i64 0, .int .i64 0, .int .i64 0, .string ⟨#[]⟩, .slice none 0 0, .slice none 0 0, .slice none 0 0, .complex .f64 0 0] 34)).cell? ⟨w.heap.size, 0, none⟩ = some (.int .i64 4) := pw_cell_below (below_alloc (Below.refl _ _) _) k0
 go_wp2_with fail
 clear k0 k0b
 obtain ⟨b5, hb5⟩ : ∃ b5, w4.heap.size = b5 := ⟨_, rfl⟩
 obtain ⟨w5, hw5⟩ : ∃ w5, w4.alloc (.cells #[.int .i64 0, .int .i64 0, .int .i64 0, .string ⟨#[]⟩, .slice none 0 0, .slice none 0 0, .slice none 0 0, .complex .f64 0 0] 34) = w5 := ⟨_, rfl⟩
 have hrep : w5.heap[b5]? = some (.cells #[.int .i64 0, .int .i64 0, .int .i64 0, .string ⟨#[]⟩, .slice none 0 0, .slice none 0 0, .slice none 0 0, .complex .f64 0 0] 34 (0, 0)) := by rw [← hw5, ← hb5]; exact heap_alloc_new _ _
 have hB45 : Below w4.heap.size w4 w5 := by rw [← hw5]; exact below_alloc (Below.refl _ _) _
 have HB5 := Aside0.mk (below_step HB4.out hB45)
 have hr5 := blk_below hr4 hB45
 have k5 := pw_cell_below (below_step HB14.out hB45) g5.out
 have hwb : w.heap.size ≤ b5 := by rw [← hb5]; exact HB4.out.size
 have hwb1 : (⟨w.heap.size, 5, none⟩ : Addr).block < b5 := by
  have h1 : w.heap.size + 1 ≤ w4.heap.size := by
   have h2 := blk_lt hr4
   omega
  show w.heap.size < b5
  omega
 have hb45 : b4 < b5 := by rw [← hb5]; exact blk_lt hr4
 have hb5l : b5 ≤ w5.heap.size := by have := blk_lt hrep; omega
 rw [hb5, hw5]
 clear hw5 hb5 hB45 hr4
 try go_wp2
 refine start_ (n := 7) (S := fun w' => Below b5 w5 w') (ds := []) (bs 7 0) (by kernel_rfl) rfl rfl (below_drew1 (Below.refl _ _)) (fun hHeld => ?_)
 refine with_tabW ansLocate.tab8 ansLocate.bits8 (fun HT_ HW_ => ?_)
 refine take_ (i := 0) (N := some 43) (v := ?_) (a' := ?_) (bs 7 1) rfl rfl (take_ofW HT_.out HW_.out (by kernel_rfl)) (fun _ _ _ h => h) (Or.inl ⟨by rfl, ?_⟩) hHeld ?_ ?_
 rotate_left
 ·intro w' s
  go_simp
  with_reducible rfl
 rotate_left
 ·simp only [Act.put, List.setIfInBounds_toArray, List.set_cons_zero, List.set_cons_succ, i64_w, i32_w]
  rfl
 refine take_ (i := 1) (N := some 44) (v := ?_) (a' := ?_) (bs 7 3) rfl rfl (take_ofW HT_.out HW_.out (by kernel_rfl)) (fun _ _ _ h => h) (Or.inl ⟨by rfl, ?_⟩) hHeld ?_ ?_
 rotate_left
 ·intro w' s
  have s0 := cell_under s hwb1 k5
  go_simp
  with_reducible rfl
 rotate_left
 ·simp only [Act.put, List.setIfInBounds_toArray, List.set_cons_zero, List.set_cons_succ, i64_w, i32_w]
  rfl
 refine take_ (i := 2) (N := some 45) (v := ?_) (a' := ?_) (bs 7 7) rfl rfl (take_ofW HT_.out HW_.out (by kernel_rfl)) (fun _ _ _ h => h) (Or.inl ⟨by rfl, ?_⟩) hHeld ?_ ?_
 rotate_left
 ·intro w' s
  go_simp
  with_reducible rfl
 rotate_left
 ·simp only [Act.put, List.setIfInBounds_toArray, List.set_cons_zero, List.set_cons_succ, i64_w, i32_w]
  rfl
 refine take_ (i := 6) (N := some 49) (v := ?_) (a' := ?_) (bs 7 71) rfl rfl (take_ofW HT_.out HW_.out (by kernel_rfl)) (fun _ _ _ h => h) (Or.inl ⟨by rfl, ?_⟩) hHeld ?_ ?_
 rotate_left
 ·intro w' s
  go_simp
  with_reducible rfl
 rotate_left
 ·simp only [Act.put, List.setIfInBounds_toArray, List.set_cons_zero, List.set_cons_succ, i64_w, i32_w]
  rfl
 refine one_ (i := 3) (N := some 46) (bs 7 79) rfl rfl (one_of HT_.out (by kernel_rfl)) (by decide) (fun K hK => ?_)
 refine goes_ Tryz.func23 (by kernel_rfl) rfl #[.slice A0 l0.length c0] (by rfl) rfl rfl (by (try simp only [List.map_toArray, List.map_cons, List.map_nil]); first | done | rfl | (simp only [List.length_drop, List.length_take]; rfl)) ?_
 refine (TX.out _ (Kd.C_below HR.out (HB5.out.trans (hHeld.mono hwb)))).mono ?_
 rintro en w6 ⟨v6, rfl, ho, hb⟩
 refine ⟨_, rfl, ?_⟩
 have hS6 := hHeld.trans (hb.mono (Nat.le_trans hb5l hHeld.size))
 have hr6 := blk_below (blk_drew hrep) hb
 have hb6 := Aside0.mk hb
 have hb5m : b5 < w6.heap.size := Nat.lt_of_lt_of_le (blk_lt hrep) (show w5.heap.size ≤ _ from hb.size)
 obtain ⟨A6, c6, rfl⟩ := Kd.R_slice ho
 have HC6 := Aside0.mk (Kd.R_reads' ho)
 clear ho hb
 refine hK.out _ _ hS6 (fun hHeld => ?_)
 clear hK K
 refine norm_ (a' := ?_) ?_ ?_
 rotate_left
 ·show Act.put _ (some 46) _ = _
  simp only [Act.put, List.setIfInBounds_toArray, List.set_cons_zero, List.set_cons_succ, i64_w, i32_w]
  rfl
 refine one_ (i := 4) (N := some 47) (bs 7 95) rfl rfl (one_of HT_.out (by kernel_rfl)) (by decide) (fun K hK => ?_)
 refine goes_ Tryz.func22 (by kernel_rfl) rfl #[.string text, .slice A6 (textsOf l0).length c6] (by rfl) rfl rfl (by (try simp only [List.map_toArray, List.map_cons, List.map_nil]); first | done | rfl | (simp only [List.length_drop, List.length_take]; rfl)) ?_
 refine (NV.out _ _ _ HC6.out.2.2 HC6.out.2.1).mono ?_
 rintro en w7 ⟨v7, rfl, ho, hb⟩
 refine ⟨_, rfl, ?_⟩
 have hS7 := hS6.trans (hb.mono (Nat.le_trans hb5l hS6.size))
 have hr7 := blk_below hr6 hb
 have hb7 := Aside0.mk hb
 obtain ⟨A7, c7, rfl⟩ := Kd.R_slice ho
 have HO7 := Aside0.mk (Kd.R_mono (Kd.R_bound ho) (ok' := fun k => k ≠ b5) (fun k hk => by have := hk.2.1; omega))
 clear ho hb
 refine hK.out _ _ hS7 (fun hHeld => ?_)
 clear hK K
 refine norm_ (a' := ?_) ?_ ?_
 rotate_left
 ·show Act.put _ (some 47) _ = _
  simp only [Act.put, List.setIfInBounds_toArray, List.set_cons_zero, List.set_cons_succ, i64_w, i32_w]
  rfl
 refine take_ (i := 5) (N := some 48) (v := ?_) (a' := ?_) (bs 7 127) rfl rfl (take_ofW HT_.out HW_.out (by kernel_rfl)) (fun _ _ _ h => h) (Or.inl ⟨by rfl, ?_⟩) hHeld ?_ ?_
 rotate_left
 ·intro w' s
  go_simp
  with_reducible rfl
 rotate_left
 ·simp only [Act.put, List.setIfInBounds_toArray, List.set_cons_zero, List.set_cons_succ, i64_w, i32_w]
  rfl
 refine done_ (done_of HT_.out (by kernel_rfl)) ?_
 have h4a := blk_below (blk_below (blk_drew hr5) hb6.out) hb7.out
 have HL7 := Aside0.mk hS7
 have H5m : Aside0 (b5 < w7.heap.size) := ⟨blk_lt hr7⟩
 have HW5 := Aside0.mk hwb
 have H45 := Aside0.mk hb45
 have H4A := Aside0.mk h4a
 obtain ⟨n7, hn7⟩ : ∃ n7, w7.heap.size = n7 := ⟨_, rfl⟩
 have HN7 := Aside0.mk hn7
 have HR7 : Aside0 (w7.heap[b5]? = some (.cells (repCells 0 0 ⟨#[]⟩ nilS nilS nilS zeroC).toArray 34 (0, 0))) := ⟨hr7⟩
 have HO0 : Aside0 (Kd.R k61 61 w7 n7 (fun _ => True) nilS ((R.take 0).map (spotOf l0))) := ⟨Kd.R_nil _ _ _ _ _⟩
 have HU0 : Aside0 (ButAt n7 b5 w7 w7) := ⟨⟨rfl, rfl, rfl, Nat.le_refl _, fun _ _ _ => rfl⟩⟩
 clear hHeld hS7 hS6 hr6 hr7 h4a hb5m hn7 hwb1 hb5l hrep hr5 k5
 go_wp2_with fail
 go_loopw [49] (fun i wr => ∃ (k : Nat) (vs : Value), k ≤ R.length ∧ i = .int .i64 k ∧ Aside0 (wr.heap[b5]? = some (.cells (repCells 0 0 ⟨#[]⟩ vs nilS nilS zeroC).toArray 34 (0, 0))) ∧ Aside0 (Kd.R k61 61 wr n7 (fun _ => True) vs ((R.take k).map (spotOf l0))) ∧ Aside0 (ButAt n7 b5 w7 wr)) (fun i _ => R.length - (intOf i).toNat)
 case atStart => exact ⟨0, nilS, Nat.zero_le _, rfl, HR7, HO0, HU0⟩
 case round =>
  obtain ⟨k, vs, hk, rfl, HRr, HOs, HU⟩ := hrel
  have HRO := Aside0.mk (Kd.R_step HO7.out (fun k hk1 hk2 => HU.out.other k (by have := HN7.out; omega) hk1))
  by_cases hlt : k < R.length
  ·obtain ⟨ar, hA, hx0, hx1⟩ := at_T68 (Kd.R_reads' HRO.out).2.2 (k : Int) (by omega) (by omega)
   subst hA
   have HBw := Aside0.mk (show Below w.heap.size w wr from (HB5.out.trans (HL7.out.mono HW5.out)).trans ⟨HU.out.os, HU.out.tape, HU.out.output, HU.out.size, fun q hq => HU.out.other q (by have := H5m.out; have := HN7.out; have := HW5.out; omega) (by have := HW5.out; omega)⟩)
   have hv := HV.out R[k] (List.getElem_mem hlt)
   have hsp : (R.take (k + 1)).map (spotOf l0) = (R.take k).map (spotOf l0) ++ [spotOf l0 R[k]] := by
    rw [List.take_succ_eq_append_getElem hlt, List.map_append]
    rfl
   unfold spotOf at hsp
   rw [rd_spot_get R k hlt, Int.toNat_natCast] at hx0 hx1
   obtain ⟨x, hx⟩ : ∃ x, R[k] = x := ⟨_, rfl⟩
   rw [hx] at hx0 hx1 hv hsp
   clear hx
   obtain ⟨d, at_⟩ := x
   dsimp only at hx0 hx1 hv hsp
   obtain ⟨adl, hA2, hy0, hy1⟩ := at_T27 (Kd.C_below HR.out HBw.out) d hv.1 hv.2
   obtain ⟨adl2, hA3, hw0, _⟩ := at_T27 HR.out d hv.1 hv.2
   obtain rfl : adl = adl2 := by rw [hA2] at hA3; injection hA3
   have hadl : (adl.add (d.toNat * 2)).block < n7 := by have := cell_lt hw0; have := H5m.out; have := HN7.out; have := HW5.out; omega
   subst hA2
   obtain ⟨id0, hid⟩ : ∃ id0, (rd_T27 l0 d).f0 = id0 := ⟨_, rfl⟩
   rw [hid] at hy0 hsp
   clear hid hw0 hA3
   have c1 : decide ((k : Int) < (R.length : Int)) = true := decide_eq_true (by omega)
   have v1 : ((k : Int) < (R.length : Int)) = True := eq_true (by omega)
   have v2 : (0 ≤ (k : Int)) = True := eq_true (by omega)
   have v3 : IntKind.i64.wrap ((k : Int) + 1) = (k : Int) + 1 := IntWalk.i64_in _ (by have := HRL.out; omega)
   have v4 : (0 ≤ d) = True := eq_true hv.1
   have v5 : (d < (l0.length : Int)) = True := eq_true hv.2
   obtain ⟨W2, hW2⟩ : ∃ W2, wr.alloc (.cells #[.int .i64 d, .int .i64 at_] 68) = W2 := ⟨_, rfl⟩
   obtain ⟨bx, hbxe⟩ : ∃ bx, wr.heap.size = bx := ⟨_, rfl⟩
   have hbel : Below wr.heap.size wr W2 := by rw [← hW2]; exact below_alloc (Below.refl _ _) _
   have s0d : W2.cell? ⟨b5, 4, none⟩ = some vs := pw_cell_below hbel ((blk_cell HRr.out 4).trans rfl)
   have s1d : W2.cell? ⟨bx, 0, none⟩ = some (.int .i64 d) := by rw [← hW2, ← hbxe]; exact cell_newA wr _ _ 0 _ rfl
   have s2d : W2.cell? ⟨bx, 1, none⟩ = some (.int .i64 at_) := by rw [← hW2, ← hbxe]; exact cell_newA wr _ _ 1 _ rfl
   have s3d : W2.cell? (adl.add (d.toNat * 2)) = some (.int .i64 id0) := pw_cell_below hbel hy0
   have HOd := Aside0.mk (Kd.R_drew (show Kd.R k61 61 W2 n7 (fun _ => True) vs ((R.take k).map (spotOf l0)) by rw [← hW2]; exact Kd.R_alloc HOs.out _))
   have hn7w : n7 ≤ wr.heap.size := by rw [← HN7.out]; exact HU.out.size
   have hn7d : n7 ≤ W2.drew.heap.size := Nat.le_trans hn7w hbel.size
   have hlen : (((R.take k).map (spotOf l0)).length + 1) * 16 ≤ 140737488355328 := by rw [List.length_map, List.length_take]; have := HRL.out; omega
   have hbx : some bx ≠ vs.ownBlock := fun e => by have := Kd.R_lt HOs.out bx e.symm; omega
   have HWR := Aside0.mk hbel
   have HRd := Aside0.mk (blk_below HRr.out hbel)
   have W2E := Aside0.mk hW2
   clear hW2 hbel
   go_wp2_with fail
   clear hx0 hx1 hy0 hy1
   try rw [W2E.out]
   try rw [hbxe]
   try go_wp2
   refine start_ (n := 15) (S := fun w' => w'.cell? ⟨b5, 4, none⟩ = some vs ∧ w'.cell? ⟨bx, 0, none⟩ = some (.int .i64 d) ∧ w'.cell? ⟨bx, 1, none⟩ = some (.int .i64 at_) ∧ w'.cell? (adl.add (d.toNat * 2)) = some (.int .i64 id0)) (ds := [14]) (bs 15 0) (by kernel_rfl) rfl rfl ⟨s0d, s1d, s2d, s3d⟩ (fun hHeld => ?_)
   refine with_tabW ansLocate.tab11 ansLocate.bits11 (fun HT_ HW_ => ?_)
   refine take_ (i := 0) (N := some 53) (v := ?_) (a' := ?_) (bs 15 1) rfl rfl (take_ofW HT_.out HW_.out (by kernel_rfl)) (fun _ _ _ h => h) (Or.inl ⟨by rfl, ?_⟩) hHeld ?_ ?_
   rotate_left
   ·intro w' s
    go_simp
    with_reducible rfl
   rotate_left
   ·simp only [Act.put, List.setIfInBounds_toArray, List.set_cons_zero, List.set_cons_succ, i64_w, i32_w]
    rfl
   refine take_ (i := 1) (N := some 54) (v := ?_) (a' := ?_) (bs 15 3) rfl rfl (take_ofW HT_.out HW_.out (by kernel_rfl)) (fun _ _ _ h => h) (Or.inl ⟨by rfl, ?_⟩) hHeld ?_ ?_
   rotate_left
   ·intro w' s
    obtain ⟨s0, s1, s2, s3⟩ := s
    go_simp
    with_reducible rfl
   rotate_left
   ·simp only [Act.put, List.setIfInBounds_toArray, List.set_cons_zero, List.set_cons_succ, i64_w, i32_w]
    rfl
   iterate 2
    refine tk_ (N := some _) (v := ?_) (a' := ?_) rfl rfl (take_ofW HT_.out HW_.out (by kernel_rfl)) (fun _ _ _ h => h) (Or.inl ⟨by rfl, ?_⟩) hHeld ?_ ?_
    rotate_left
    ·intro w' s
     go_simp
     with_reducible rfl
    rotate_left
    ·simp only [Act.put, List.setIfInBounds_toArray, List.set_cons_zero, List.set_cons_succ, i64_w, i32_w]
     rfl
   iterate 2
    refine tk_ (N := some _) (v := ?_) (a' := ?_) rfl rfl (take_ofW HT_.out HW_.out (by kernel_rfl)) (fun _ _ _ h => h) (Or.inl ⟨by rfl, ?_⟩) hHeld ?_ ?_
    rotate_left
    ·intro w' s
     obtain ⟨s0, s1, s2, s3⟩ := s
     go_simp
     with_reducible rfl
    rotate_left
    ·simp only [Act.put, List.setIfInBounds_toArray, List.set_cons_zero, List.set_cons_succ, i64_w, i32_w]
     rfl
   refine take_ (i := 6) (N := some 59) (v := ?_) (a' := ?_) (bs 15 127) rfl rfl (take_ofW HT_.out HW_.out (by kernel_rfl)) (fun _ _ _ h => h) (Or.inl ⟨by rfl, ?_⟩) hHeld ?_ ?_
   rotate_left
   ·intro w' s
    go_simp
    with_reducible rfl
   rotate_left
   ·simp only [Act.put, List.setIfInBounds_toArray, List.set_cons_zero, List.set_cons_succ, i64_w, i32_w]
    rfl
   refine take_ (i := 7) (N := some 60) (v := ?_) (a' := ?_) (bs 15 255) rfl rfl (take_ofW HT_.out HW_.out (by kernel_rfl)) (fun _ _ _ h => h) (Or.inl ⟨by rfl, ?_⟩) hHeld ?_ ?_
   rotate_left
   ·intro w' s
    obtain ⟨s0, s1, s2, s3⟩ := s
    go_simp
    with_reducible rfl
   rotate_left
   ·simp only [Act.put, List.setIfInBounds_toArray, List.set_cons_zero, List.set_cons_succ, i64_w, i32_w]
    rfl
   refine take_ (i := 8) (N := some 61) (v := ?_) (a' := ?_) (bs 15 511) rfl rfl (take_ofW HT_.out HW_.out (by kernel_rfl)) (fun _ _ _ h => h) (Or.inl ⟨by rfl, ?_⟩) hHeld ?_ ?_
   rotate_left
   ·intro w' s
    go_simp
    with_reducible rfl
   rotate_left
   ·simp only [Act.put, List.setIfInBounds_toArray, List.set_cons_zero, List.set_cons_succ, i64_w, i32_w]
    rfl
   refine take_ (i := 9) (N := some 62) (v := ?_) (a' := ?_) (bs 15 1023) rfl rfl (take_ofW HT_.out HW_.out (by kernel_rfl)) (fun _ _ _ h => h) (Or.inl ⟨by rfl, ?_⟩) hHeld ?_ ?_
   rotate_left
   ·intro w' s
    obtain ⟨s0, s1, s2, s3⟩ := s
    go_simp
    with_reducible rfl
   rotate_left
   ·simp only [Act.put, List.setIfInBounds_toArray, List.set_cons_zero, List.set_cons_succ, i64_w, i32_w]
    rfl
   refine take_ (i := 10) (N := some 63) (v := ?_) (a' := ?_) (bs 15 2047) rfl rfl (take_ofW HT_.out HW_.out (by kernel_rfl)) (fun _ _ _ h => h) (Or.inl ⟨by rfl, ?_⟩) hHeld ?_ ?_
   rotate_left
   ·intro w' s
    go_simp
    with_reducible rfl
   rotate_left
   ·simp only [Act.put, List.setIfInBounds_toArray, List.set_cons_zero, List.set_cons_succ, i64_w, i32_w]
    rfl
   refine one_ (i := 11) (N := some 64) (bs 15 4095) rfl rfl (one_of HT_.out (by kernel_rfl)) (by decide) (fun K hK => ?_)
   refine value_ (v := .slice (some ⟨W2.drew.heap.size, 0, none⟩) 1 1) (w1 := W2.drew.alloc (.cells #[.int .i64 id0, .int .i64 at_] 61)) (by rfl) rfl (by first | (go_simp; done) | (go_simp; rfl)) (hK.out _ _ ⟨pw_cell_below (below_alloc (Below.refl _ _) _) hHeld.1, pw_cell_below (below_alloc (Below.refl _ _) _) hHeld.2.1, pw_cell_below (below_alloc (Below.refl _ _) _) hHeld.2.2.1, pw_cell_below (below_alloc (Below.refl _ _) _) hHeld.2.2.2⟩ (fun _ => ?_))
   clear hK K
   refine norm_ (a' := ?_) ?_ ?_
   rotate_left
   ·show Act.put _ (some 64) _ = _
    simp only [Act.put, List.setIfInBounds_toArray, List.set_cons_zero, List.set_cons_succ, i64_w, i32_w]
    rfl
   refine one_ (i := 12) (N := some 65) (bs 15 8191) rfl rfl (one_of HT_.out (by kernel_rfl)) (by decide) (fun K hK => ?_)
   refine Kd.R_append_step k61 (w0 := W2.drew) n7 (by rfl) (.tmp 54) (.tmp 64) 30 61 (.agg #[.int .i64 0, .int .i64 0]) 16 rfl Tryz.underlying30 infoSpot rfl (by decide) (by omega) vs ((R.take k).map (spotOf l0)) ⟨id0, at_⟩ [.int .i64 id0, .int .i64 at_] (fun _ => True) (fun _ => False) rfl rfl (k61_mkM _ _ _ _) (fun _ h => h.elim) (fun _ _ => trivial) HOd.out (Below.refl _ _) hn7d hlen ?_
   intro v1 w1 ho1 hb1 hg1 hat1
   obtain ⟨Av, cv, hv1⟩ := Kd.R_slice ho1
   obtain ⟨ln, hln⟩ : ∃ ln, ((R.take k).map (spotOf l0) ++ [(⟨id0, at_⟩ : S61)]).length = ln := ⟨_, rfl⟩
   rw [hln] at hv1
   subst hv1
   have hS1 := spot_kept hHeld hb1 hg1 hbx (by have := H5m.out; have := HN7.out; omega) hadl
   have z0 := hS1.1
   have z1 := blk_frozen (hb1.block b5 (by have := H5m.out; have := HN7.out; omega) |>.trans HRd.out) 4
   refine hK.out _ _ hS1 (fun hHeld => ?_)
   clear hK K
   refine norm_ (a' := ?_) ?_ ?_
   rotate_left
   ·show Act.put _ (some 65) _ = _
    simp only [Act.put, List.setIfInBounds_toArray, List.set_cons_zero, List.set_cons_succ, i64_w, i32_w]
    rfl
   refine take_ (i := 13) (N := some 66) (v := ?_) (a' := ?_) (bs 15 16383) rfl rfl (take_ofW HT_.out HW_.out (by kernel_rfl)) (fun _ _ _ h => h) (Or.inl ⟨by rfl, ?_⟩) hHeld ?_ ?_
   rotate_left
   ·intro w' s
    go_simp
    with_reducible rfl
   rotate_left
   ·simp only [Act.put, List.setIfInBounds_toArray, List.set_cons_zero, List.set_cons_succ, i64_w, i32_w]
    rfl
   refine last_ (i := 14) (N := none) (bs 15 32767) rfl rfl (one_of HT_.out (by kernel_rfl)) (by decide) (fun K hK => ?_)
   refine skip_ (w1 := w1.setCell ⟨b5, 4, none⟩ (.slice Av ln cv)) (by rfl) rfl (by first | (go_simp; done) | (go_simp; rfl)) (hK.out _ _ ?_)
   clear hK K
   refine done_ (done_of HT_.out (by kernel_rfl)) ?_
   have hb5n : b5 < n7 := by have := H5m.out; have := HN7.out; omega
   have hrn : (w1.setCell ⟨b5, 4, none⟩ (.slice Av ln cv)).heap[b5]? = some (.cells (repCells 0 0 ⟨#[]⟩ (.slice Av ln cv) nilS nilS zeroC).toArray 34 (0, 0)) := blk_set ((hb1.block b5 hb5n).trans HRd.out) 4 (.slice Av ln cv)
   have hon : Kd.R k61 61 (w1.setCell ⟨b5, 4, none⟩ (.slice Av ln cv)) n7 (fun _ => True) (.slice Av ln cv) ((R.take (k + 1)).map (spotOf l0)) := by
    unfold spotOf
    rw [hsp]
    exact Kd.R_mono (Kd.R_step (Kd.R_bound ho1) (fun q hq _ => Below.heap_setCell w1 ⟨b5, 4, none⟩ _ q (show q ≠ b5 by have := hq.2.1; omega))) (fun _ _ => trivial)
   have hun : ButAt n7 b5 w7 (w1.setCell ⟨b5, 4, none⟩ (.slice Av ln cv)) := by
    refine ⟨hb1.os.trans (HWR.out.os.trans HU.out.os), hb1.tape.trans (HWR.out.tape.trans HU.out.tape), hb1.output.trans (HWR.out.output.trans HU.out.output), ?_, fun q hq hqn => ?_⟩
    ·have h1 := HU.out.size
     have h2 := HWR.out.size
     have h3 : W2.heap.size ≤ w1.heap.size := hb1.size
     have h4 : (w1.setCell ⟨b5, 4, none⟩ (.slice Av ln cv)).heap.size = w1.heap.size := by simp [World.setCell]
     omega
    ·rw [Below.heap_setCell w1 ⟨b5, 4, none⟩ _ q hqn]
     refine (hb1.block q hq).trans ?_
     refine Eq.trans (HWR.out.block q (by omega)) (HU.out.other q hq hqn)
   obtain ⟨wn, hwn⟩ : ∃ wn, w1.setCell ⟨b5, 4, none⟩ (.slice Av ln cv) = wn := ⟨_, rfl⟩
   rw [hwn] at hrn hon hun ⊢
   have HRN := Aside0.mk hrn
   have HON := Aside0.mk hon
   have HUN := Aside0.mk hun
   clear hrn hon hun hwn hHeld hS1 z0 z1 ho1 hb1 hg1 hat1 s0d s1d s2d s3d
   go_wp2_with fail
   go_roundw
   case rel => exact ⟨k + 1, .slice Av ln cv, by omega, by go_num, HRN, HON, HUN⟩
   case measure => simp [intOf]; omega
  ·obtain rfl : k = R.length := by omega
   rw [List.take_length] at HOs
   obtain ⟨Av, cv, hvs⟩ := Kd.R_slice HOs.out
   rw [List.length_map] at hvs
   subst hvs
   have HCs := Aside0.mk (Kd.R_reads' HOs.out).2.2
   have c1 : decide ((R.length : Int) < (R.length : Int)) = false := decide_eq_false (by omega)
   have z0 : wr.cell? ⟨b5, 4, none⟩ = some (.slice Av R.length cv) := (blk_cell HRr.out 4).trans rfl
   have z1 : wr.cell? ⟨b5, 2, none⟩ = some (.int .i64 0) := (blk_cell HRr.out 2).trans rfl
   have z2 := blk_frozen HRr.out 2
   have h4r : wr.heap[b4]? = some (.cells (repCells 0 0 ⟨#[]⟩ nilS nilS nilS zeroC).toArray 34 (0, 0)) := (HU.out.other b4 (by have := H5m.out; have := HN7.out; have := H45.out; omega) (by have := H45.out; omega)).trans H4A.out
   have h4b : (wr.setCell ⟨b5, 2, none⟩ (.int .i64 R.length)).heap[b4]? = some (.cells (repCells 0 0 ⟨#[]⟩ nilS nilS nilS zeroC).toArray 34 (0, 0)) := blk_far h4r (show b4 ≠ b5 by have := H45.out; omega) _
   have h5b : (wr.setCell ⟨b5, 2, none⟩ (.int .i64 R.length)).heap[b5]? = some (.cells (repCells 0 R.length ⟨#[]⟩ (.slice Av R.length cv) nilS nilS zeroC).toArray 34 (0, 0)) := blk_set HRr.out 2 (.int .i64 R.length)
   have HBw : Below w.heap.size w wr := (HB5.out.trans (HL7.out.mono HW5.out)).trans ⟨HU.out.os, HU.out.tape, HU.out.output, HU.out.size, fun q hq => HU.out.other q (by have := H5m.out; have := HN7.out; have := HW5.out; omega) (by have := HW5.out; omega)⟩
   have hb8 : Below w.heap.size w (wr.setCell ⟨b5, 2, none⟩ (.int .i64 R.length)) := HBw.trans (set_under (Below.refl _ wr) ⟨b5, 2, none⟩ _ HW5.out)
   have hc8 : Kd.R k61 61 (wr.setCell ⟨b5, 2, none⟩ (.int .i64 R.length)) n7 (fun _ => True) (.slice Av R.length cv) (R.map (spotOf l0)) :=
    Kd.R_mono (Kd.R_step (Kd.R_bound HOs.out) (fun q hq _ => Below.heap_setCell wr ⟨b5, 2, none⟩ _ q (show q ≠ b5 by have := hq.2.1; have := H5m.out; have := HN7.out; omega))) (fun _ _ => trivial)
   obtain ⟨w8, hw8⟩ : ∃ w8, wr.setCell ⟨b5, 2, none⟩ (.int .i64 R.length) = w8 := ⟨_, rfl⟩
   rw [hw8] at h4b h5b hb8 hc8
   obtain ⟨wz, hrs, hz, hbz, hfar⟩ := rep_put_far (repCells 0 R.length ⟨#[]⟩ (.slice Av R.length cv) nilS nilS zeroC) h4b rfl rfl (by simp [repCells, nilS, zeroC, Value.oneCell'])
   have HBz := Aside0.mk (hb8.trans (hbz.mono (by have := W1E; omega)))
   have hcz : Kd.R k61 61 wz n7 (fun _ => True) (.slice Av R.length cv) (R.map (spotOf l0)) :=
    Kd.R_mono (Kd.R_step (Kd.R_bound hc8) (fun q hq _ => hfar q (by have := hq.2.1; have := H5m.out; have := HN7.out; have := H45.out; omega))) (fun _ _ => trivial)
   have HCz := Aside0.mk (Kd.R_lower hcz (show w.heap.size ≤ n7 by have := HW5.out; have := H5m.out; have := HN7.out; omega))
   have d0 : w8.cell? ⟨b5, 0, none⟩ = some (.int .i64 0) := (blk_cell h5b 0).trans rfl
   have d1 : w8.cell? ⟨b5, 1, none⟩ = some (.int .i64 0) := (blk_cell h5b 1).trans rfl
   have d2 : w8.cell? ⟨b5, 2, none⟩ = some (.int .i64 R.length) := (blk_cell h5b 2).trans rfl
   have d3 : w8.cell? ⟨b5, 3, none⟩ = some (.string ⟨#[]⟩) := (blk_cell h5b 3).trans rfl
   have d4 : w8.cell? ⟨b5, 4, none⟩ = some (.slice Av R.length cv) := (blk_cell h5b 4).trans rfl
   have d5 : w8.cell? ⟨b5, 5, none⟩ = some (.slice none 0 0) := (blk_cell h5b 5).trans rfl
   have d6 : w8.cell? ⟨b5, 6, none⟩ = some (.slice none 0 0) := (blk_cell h5b 6).trans rfl
   have d7 : w8.cell? ⟨b5, 7, none⟩ = some (.complex .f64 0 0) := (blk_cell h5b 7).trans rfl
   have RS := Aside0.mk hrs
   have W8E := Aside0.mk hw8
   clear hlt hk
   all_goals skip
   clear hrs hbz hfar hcz hc8 hb8 HBw h4b h5b h4r
   go_wp2_with (first
    | ((with_reducible refine gate_store (t := 34) (p := 4) (v := .tmp 133) rfl ?_); refine store_event (t := 34) (p := 4) (v := .tmp 133) (w1 := wz) rfl rfl rfl ?hr ?_; (case hr => exact store_runs rfl rfl rfl RS.out); intro w9 hw; subst hw))
   refine bodyPost_ret (ans_results _ b4 (repCells 0 R.length ⟨#[]⟩ (.slice Av R.length cv) nilS nilS zeroC).toArray rfl hz _ rfl) rfl ?_
   exact ⟨Av, cv, rfl, HCz.out, HBz.out⟩
end Go.Proofs.YtibhenengpdahaaGreat.P
