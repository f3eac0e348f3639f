/- The document's Answer, of every request: the same reply as package model's. Conditions: how the list lies in memory, and its length. -/
import Derived.Test.YtibhenengpdahaaGreatRefAnsE
import Derived.Test.YtibhenengpdahaaGreatRefAnsL
import Derived.Test.YtibhenengpdahaaGreatRefAnsI
import Derived.Test.YtibhenengpdahaaGreatJK
section
set_option linter.unusedVariables false
set_option linter.unusedSimpArgs false
namespace Go.Proofs.YtibhenengpdahaaGreat.P
open Go.RowKit Go.Proofs.YtibhenengpdahaaGreatW.PrintWords Go.Proofs.YtibhenengpdahaaGreatW.PrintLast Go.Proofs.YtibhenengpdahaaGreatW.PrintMore

theorem refAns_told (A0 : Option Addr) (c0 : Nat) (l0 : List S27) (kind id fr tt snap : Int) (text : ByteArray) (w : World) (hr0 : Kd.C k27 w A0 l0.length l0) (hc0 : l0.length ≤ c0) (hl : l0.length ≤ 1000000) :
  Calls Tryz.prog 7 #[.slice A0 l0.length c0, .agg #[.int .i64 kind, .int .i64 id, .int .i64 fr, .int .i64 tt, .int .i64 snap, .string text]] w (Told (replyOf l0 kind id fr tt snap text) w) := by
 have N1 : ∀ w' b, Kd.R k61 61 w' b (fun _ => True) (.slice none ([] : List S61).length 0) [] := fun w' b => Kd.R_nil _ _ _ _ _
 have N2 : ∀ w' b, Kd.R k27 27 w' b (fun _ => True) (.slice none ([] : List S27).length 0) [] := fun w' b => Kd.R_nil _ _ _ _ _
 have N3 : ∀ w' b, Kd.R (Kd.int .i64) 3 w' b (fun _ => True) (.slice none ([] : List Int).length 0) [] := fun w' b => Kd.R_nil _ _ _ _ _
 unfold replyOf
 by_cases hb : noneB l0 kind id fr tt snap text
 ·rw [if_pos hb]
  refine (refAns_bad A0 c0 l0 kind id fr tt snap text w hr0 hc0 hl hb).mono ?_
  rintro e w' ⟨rfl, hw⟩
  exact ⟨⟨none, 0, none, 0, none, 0, rfl, N1 _ _, N2 _ _, N3 _ _⟩, hw⟩
 ·rw [if_neg hb]
  obtain ⟨hm, D0, h3, h7⟩ := may_docs hb
  have hp : text.size ≤ 1000 := by
   have h := hm
   unfold mayB at h
   rw [Bool.and_eq_true] at h
   have := (ask_pos h.2).2.2
   omega
  rcases (show kind = 3 ∨ kind = 4 ∨ kind = 5 ∨ kind = 6 ∨ kind = 7 by omega) with hk | hk | hk | hk | hk
  ·rw [if_pos hk]
   obtain ⟨kn, hkn⟩ := refNaive_docs D0 text hp
   refine (refAns_count A0 c0 l0 kind id fr tt snap text w hr0 hc0 hl hm hk _ kn hkn (naive_in l0 text) (by have := naive_small D0 text; omega)).mono ?_
   rintro e w' ⟨rfl, hw⟩
   exact ⟨⟨none, 0, none, 0, none, 0, rfl, N1 _ _, N2 _ _, N3 _ _⟩, hw⟩
  ·rw [if_neg (by omega), if_pos hk]
   obtain ⟨kn, hkn⟩ := refNaive_docs D0 text hp
   refine (refAns_locate A0 c0 l0 kind id fr tt snap text w hr0 hc0 hl hm hk _ kn hkn (naive_in l0 text) (by have := naive_small D0 text; omega)).mono ?_
   rintro e w' ⟨Av, cv, rfl, hR, hw⟩
   refine ⟨⟨Av, cv, none, 0, none, 0, ?_, ?_, N2 _ _, N3 _ _⟩, hw⟩
   ·unfold Rep.val
    dsimp only
    rw [List.length_map]
    rfl
   ·dsimp only
    rw [List.length_map]
    exact hR
  ·rw [if_neg (by omega), if_neg (by omega), if_pos hk]
   refine (refAns_extract A0 c0 l0 kind id fr tt snap text w hr0 hc0 hl hm hk).mono ?_
   rintro e w' ⟨rfl, hw⟩
   exact ⟨⟨none, 0, none, 0, none, 0, rfl, N1 _ _, N2 _ _, N3 _ _⟩, hw⟩
  ·rw [if_neg (by omega), if_neg (by omega), if_neg (by omega), if_pos hk]
   refine (refAns_list A0 c0 l0 kind id fr tt snap text w hr0 hc0 hl hm hk).mono ?_
   rintro e w' ⟨A1, c1, A2, c2, rfl, hD, hI, hw⟩
   refine ⟨⟨none, 0, A1, c1, A2, c2, ?_, N1 _ _, ?_, ?_⟩, hw⟩
   ·unfold Rep.val
    dsimp only
    rw [List.length_map, List.length_map]
    rfl
   ·dsimp only
    rw [List.length_map]
    exact hD
   ·dsimp only
    rw [List.length_map]
    exact hI
  ·rw [if_neg (by omega), if_neg (by omega), if_neg (by omega), if_neg (by omega)]
   refine (refAns_plot A0 c0 l0 kind id fr tt snap text w hr0 hc0 hl hm hk).mono ?_
   rintro e w' ⟨rfl, hw⟩
   exact ⟨⟨none, 0, none, 0, none, 0, rfl, N1 _ _, N2 _ _, N3 _ _⟩, hw⟩
end Go.Proofs.YtibhenengpdahaaGreat.P

end
section
set_option linter.unusedVariables false
set_option linter.unusedSimpArgs false
namespace Go.Proofs.YtibhenengpdahaaGreat.P
open Go.RowKit Go.Proofs.YtibhenengpdahaaGreatW.PrintWords Go.Proofs.YtibhenengpdahaaGreatW.PrintLast Go.Proofs.YtibhenengpdahaaGreatW.PrintMore

theorem ask_kind {kind id fr tt snap : Int} {text : ByteArray} (h : askB kind id fr tt snap text = true) : 1 ≤ kind := by
 rcases Int.lt_or_le kind 1 with h1 | h1
 ·unfold askB at h
  rw [name_out kind (Or.inl h1)] at h
  rw [show (⟨#[]⟩ : ByteArray).toList.isEmpty = true by decide +kernel] at h
  simp at h
 ·exact h1
def refChange.T8 : Bool × List (List Nat × List Nat) := (true, [([], []), ([0], [0]), ([], []), ([], []), ([3], [3]), ([2, 4], [2, 4]), ([5], [5]), ([1, 6, 1], [1, 6]), ([7, 7, 0, 1, 2, 3, 4, 5, 6, 7], [7]), ([8, 0, 1, 2, 3, 4, 5, 6, 7, 8], [])])
def refChange.B8 : List Nat := [0, 1, 0, 0, 8, 28, 60, 127, 255, 511]
theorem refChange.tab8 : rtab .any (opsOf Tryz.f9 8) = refChange.T8 := by kernel_rfl
theorem refChange.bits8 : waitsOk refChange.T8.2 refChange.B8 = true := by kernel_rfl
def refChange.T12 : Bool × List (List Nat × List Nat) := (true, [([], []), ([], []), ([0, 1], [0, 1]), ([2], [2]), ([], []), ([], []), ([5], [5]), ([4, 6], [4, 6]), ([3, 7, 3], [3, 7]), ([8, 8, 0, 1, 2, 3, 4, 5, 6, 7, 8], [8]), ([9, 0, 1, 2, 3, 4, 5, 6, 7, 8, 9], [])])
def refChange.B12 : List Nat := [0, 0, 3, 7, 0, 0, 32, 112, 255, 511, 1023]
theorem refChange.tab12 : rtab .any (opsOf Tryz.f9 12) = refChange.T12 := by kernel_rfl
theorem refChange.bits12 : waitsOk refChange.T12.2 refChange.B12 = true := by kernel_rfl
set_option maxRecDepth 100000 in
set_option maxHeartbeats 8000000 in
theorem refChange_calls (A0 : Option Addr) (c0 : Nat) (l0 : List S27) (kind id fr tt snap : Int) (text : ByteArray) (nid : Int) (w : World) (hr0 : Kd.C k27 w A0 l0.length l0) (hc0 : l0.length ≤ c0) (hl : l0.length ≤ 1000000) :
  Calls Tryz.prog 9 #[.slice A0 l0.length c0, .agg #[.int .i64 kind, .int .i64 id, .int .i64 fr, .int .i64 tt, .int .i64 snap, .string text], .int .i64 nid] w fun e w' =>
   ∃ (A : Option Addr) (c : Nat), e = .returned (.tuple #[.slice A (changeOf l0 kind id fr tt snap text nid).1.length c, .int .i64 (changeOf l0 kind id fr tt snap text nid).2]) ∧ (changeOf l0 kind id fr tt snap text nid).1.length ≤ c ∧
    Kd.C k27 w' A (changeOf l0 kind id fr tt snap text nid).1.length (changeOf l0 kind id fr tt snap text nid).1 ∧ Below w.heap.size w w' ∧
    ((changeOf l0 kind id fr tt snap text nid).2 = 0 → Kd.R k27 27 w' w.heap.size (fun _ => True) (.slice A (changeOf l0 kind id fr tt snap text nid).1.length c) (changeOf l0 kind id fr tt snap text nid).1) ∧
    ((changeOf l0 kind id fr tt snap text nid).2 ≠ 0 → (A = A0 ∧ c = c0 ∧ (changeOf l0 kind id fr tt snap text nid).1 = l0) ∨ (A = none ∧ c = 0 ∧ (changeOf l0 kind id fr tt snap text nid).1 = [])) := by
 have MR := Aside0.mk (fun w' (hr : Kd.C k27 w' A0 l0.length l0) => refMR_calls A0 c0 l0 w' hr hc0 hl)
 have AR := Aside0.mk (fun w' => refAR_calls kind id fr tt snap text w')
 have FI := Aside0.mk (fun x w' (hr : Kd.C k27 w' A0 l0.length l0) => refPL_calls A0 c0 l0 x w' hr hc0 hl)
 have FL := Aside0.mk (find_lt l0)
 have HR := Aside0.mk hr0
 have HC := Aside0.mk hc0
 have HL := Aside0.mk hl
 obtain ⟨W1, hW1⟩ : ∃ W1, w.alloc (.cells #[.int .i64 kind, .int .i64 id, .int .i64 fr, .int .i64 tt, .int .i64 snap, .string text] 24) = W1 := ⟨_, rfl⟩
 have HB1 : Aside0 (Below w.heap.size w W1) := ⟨by rw [← hW1]; exact below_alloc (Below.refl _ _) _⟩
 have g0 : Aside0 (W1.cell? ⟨w.heap.size, 0, none⟩ = some (.int .i64 kind)) := ⟨by rw [← hW1]; exact cell_newA w _ _ 0 _ rfl⟩
 have g1 : Aside0 (W1.cell? ⟨w.heap.size, 1, none⟩ = some (.int .i64 id)) := ⟨by rw [← hW1]; exact cell_newA w _ _ 1 _ rfl⟩
 have g2 : Aside0 (W1.cell? ⟨w.heap.size, 2, none⟩ = some (.int .i64 fr)) := ⟨by rw [← hW1]; exact cell_newA w _ _ 2 _ rfl⟩
 have g3 : Aside0 (W1.cell? ⟨w.heap.size, 3, none⟩ = some (.int .i64 tt)) := ⟨by rw [← hW1]; exact cell_newA w _ _ 3 _ rfl⟩
 have g4 : Aside0 (W1.cell? ⟨w.heap.size, 4, none⟩ = some (.int .i64 snap)) := ⟨by rw [← hW1]; exact cell_newA w _ _ 4 _ rfl⟩
 have g5 : Aside0 (W1.cell? ⟨w.heap.size, 5, none⟩ = some (.string text)) := ⟨by rw [← hW1]; exact cell_newA w _ _ 5 _ rfl⟩
 have W1E := Aside0.mk hW1
 clear hW1 hr0 hc0 hl
 go_enter Tryz.func9, Tryz.ntmps9
 go_wp2_with fail
 rw [W1E.out]
 refine (MR.out _ (Kd.C_below HR.out HB1.out)).mono ?_
 rintro en w2 ⟨rfl, hb⟩
 have HB12 := Aside0.mk hb
 have HB2 := Aside0.mk (below_step HB1.out hb)
 clear hb W1E
 cases e1 : modelB l0 with
 | false =>
  have HE : Aside0 (changeOf l0 kind id fr tt snap text nid = ([], 1)) := ⟨if_neg (by unfold mayB; rw [e1]; simp)⟩
  go_wp2_with fail
  go_ret2
  rw [HE.out]
  exact ⟨none, 0, rfl, Nat.le_refl _, Kd.C_nil _ _, HB2.out, by intro h; simp at h, fun _ => Or.inr ⟨rfl, rfl, rfl⟩⟩
 | true =>
  have k0 := pw_cell_below HB12.out g0.out
  have k1 := pw_cell_below HB12.out g1.out
  have k2 := pw_cell_below HB12.out g2.out
  have k3 := pw_cell_below HB12.out g3.out
  have k4 := pw_cell_below HB12.out g4.out
  have k5 := pw_cell_below HB12.out g5.out
  go_wp2_with fail
  refine (AR.out _).mono ?_
  rintro en w3 ⟨rfl, hb⟩
  have HB13 := Aside0.mk (below_step HB12.out hb)
  have HB3 := Aside0.mk (below_step HB2.out hb)
  clear hb k0 k1 k2 k3 k4 k5
  cases e2 : askB kind id fr tt snap text with
  | false =>
   have HE : Aside0 (changeOf l0 kind id fr tt snap text nid = ([], 1)) := ⟨if_neg (by unfold mayB; rw [e1, e2]; simp)⟩
   go_wp2_with fail
   go_ret2
   rw [HE.out]
   exact ⟨none, 0, rfl, Nat.le_refl _, Kd.C_nil _ _, HB3.out, by intro h; simp at h, fun _ => Or.inr ⟨rfl, rfl, rfl⟩⟩
  | true =>
   have h1 : 1 ≤ kind := ask_kind e2
   have k0 := pw_cell_below HB13.out g0.out
   have k1 := pw_cell_below HB13.out g1.out
   by_cases h2 : 2 < kind
   ·have t2 : decide (2 < kind) = true := decide_eq_true h2
    have HE : Aside0 (changeOf l0 kind id fr tt snap text nid = ([], 1)) := ⟨if_neg (by omega)⟩
    go_wp2_with fail
    go_ret2
    rw [HE.out]
    exact ⟨none, 0, rfl, Nat.le_refl _, Kd.C_nil _ _, HB3.out, by intro h; simp at h, fun _ => Or.inr ⟨rfl, rfl, rfl⟩⟩
   have t2 : decide (2 < kind) = false := decide_eq_false h2
   have hM : mayB l0 kind id fr tt snap text = true ∧ 1 ≤ kind ∧ kind ≤ 2 := ⟨by unfold mayB; rw [e1, e2]; rfl, by omega, by omega⟩
   by_cases h3 : kind = 2
   ·subst h3
    have t3 : ((2 : Int) == 1) = false := rfl
    go_wp2_with fail
    refine (FI.out id _ (Kd.C_below HR.out HB3.out)).mono ?_
    rintro en w4 ⟨rfl, hb⟩
    have HB4 := Aside0.mk (below_step HB3.out hb)
    clear hb k0 k1
    by_cases h4 : findOf l0 id < 0
    ·have t4 : decide (findOf l0 id < 0) = true := decide_eq_true h4
     have HE : Aside0 (changeOf l0 2 id fr tt snap text nid = (l0, 4)) := ⟨(if_pos hM).trans ((if_pos rfl).trans (if_pos h4))⟩
     go_wp2_with fail
     go_ret2
     rw [HE.out]
     exact ⟨A0, c0, rfl, HC.out, Kd.C_below HR.out HB4.out, HB4.out, by intro h; simp at h, fun _ => Or.inl ⟨rfl, rfl, rfl⟩⟩
    ·have t4 : decide (findOf l0 id < 0) = false := decide_eq_false h4
     have HE : Aside0 (changeOf l0 2 id fr tt snap text nid = (l0.eraseIdx (findOf l0 id).toNat, 0)) := ⟨(if_pos hM).trans ((if_pos rfl).trans (if_neg h4))⟩
     obtain ⟨q, hq⟩ : ∃ q : Nat, findOf l0 id = (q : Int) := ⟨(findOf l0 id).toNat, by omega⟩
     have hql : q < l0.length := by have := FL.out id; omega
     rw [hq, Int.toNat_natCast, List.eraseIdx_eq_take_drop_succ] at HE
     rw [hq] at t4
     rw [hq]
     have v1 : IntKind.i64.wrap ((q : Int) + 1) = (q : Int) + 1 := IntWalk.i64_in _ (by have := HL.out; omega)
     have HKT : Aside0 ((l0.take q).length = q) := ⟨by rw [List.length_take]; omega⟩
     have HCw := Kd.C_below HR.out HB4.out
     have HCt : Aside0 (Kd.C k27 w4 A0 q (l0.take q)) := ⟨by have h := Kd.C_take HCw (show q ≤ l0.length by omega); rwa [HKT.out] at h⟩
     obtain ⟨ifo, hinf, _, hisz, _⟩ := info_parts infoDoc
     have hcc := HC.out
     have hcut1 := cut_to (P := Tryz.prog) 22 27 .i64 Tryz.underlying22 hinf A0 l0.length c0 (q : Int) (by omega) (by omega) hcc
     rw [Int.toNat_natCast] at hcut1
     have hcut2 := cut_from (P := Tryz.prog) 22 27 .i64 Tryz.underlying22 hinf 2 hisz A0 l0.length c0 ((q + 1 : Nat) : Int) (by omega) (by omega)
     rw [Int.toNat_natCast, show ((q + 1 : Nat) : Int) = (q : Int) + 1 from rfl] at hcut2
     have hCd := Kd.C_drop HCw (show q + 1 ≤ l0.length by omega) hcc
     rw [show (k27).sz = 2 from rfl, List.length_drop] at hCd
     obtain ⟨Ad, hAd⟩ : ∃ A_, (if c0 = q + 1 then A0 else A0.map (·.add ((q + 1) * 2))) = A_ := ⟨_, rfl⟩
     rw [hAd] at hcut2 hCd
     have HCd := Aside0.mk hCd
     clear hCd hAd hinf hisz hcc HCw
     go_wp2_with fail
     refine start_ (n := 11) (S := fun w' => Below w4.heap.size w4 w') (ds := []) (bs 11 0) (by kernel_rfl) rfl rfl (below_drew1 (Below.refl _ _)) (fun hHeld => ?_)
     refine with_tabW refChange.tab12 refChange.bits12 (fun HT_ HW_ => ?_)
     iterate 3
      refine tk_ (N := some _) (v := ?_) (a' := ?_) rfl rfl (take_ofW HT_.out HW_.out (by kernel_rfl)) (fun _ _ _ h => h) (Or.inl ⟨by rfl, ?_⟩) hHeld ?_ ?_
      rotate_left
      ·intro w' s
       go_simp
       with_reducible rfl
      rotate_left
      ·simp only [Act.put, List.setIfInBounds_toArray, List.set_cons_zero, List.set_cons_succ, i64_w, i32_w]
       rfl
     refine take_ (i := 4) (N := some 57) (v := ?_) (a' := ?_) (bs 11 23) rfl rfl (take_ofW HT_.out HW_.out (by kernel_rfl)) (fun _ _ _ h => h) (Or.inl ⟨by rfl, ?_⟩) hHeld ?_ ?_
     rotate_left
     ·intro w' s
      go_simp
      with_reducible rfl
     rotate_left
     ·simp only [Act.put, List.setIfInBounds_toArray, List.set_cons_zero, List.set_cons_succ, i64_w, i32_w]
      rfl
     refine take_ (i := 5) (N := some 58) (v := ?_) (a' := ?_) (bs 11 55) rfl rfl (take_ofW HT_.out HW_.out (by kernel_rfl)) (fun _ _ _ h => h) (Or.inl ⟨by rfl, ?_⟩) hHeld ?_ ?_
     rotate_left
     ·intro w' s
      go_simp
      with_reducible rfl
     rotate_left
     ·simp only [Act.put, List.setIfInBounds_toArray, List.set_cons_zero, List.set_cons_succ, i64_w, i32_w]
      rfl
     refine take_ (i := 6) (N := some 59) (v := ?_) (a' := ?_) (bs 11 119) rfl rfl (take_ofW HT_.out HW_.out (by kernel_rfl)) (fun _ _ _ h => h) (Or.inl ⟨by rfl, ?_⟩) hHeld ?_ ?_
     rotate_left
     ·intro w' s
      go_simp
      with_reducible rfl
     rotate_left
     ·simp only [Act.put, List.setIfInBounds_toArray, List.set_cons_zero, List.set_cons_succ, i64_w, i32_w]
      rfl
     refine take_ (i := 7) (N := some 60) (v := ?_) (a' := ?_) (bs 11 247) rfl rfl (take_ofW HT_.out HW_.out (by kernel_rfl)) (fun _ _ _ h => h) (Or.inl ⟨by rfl, ?_⟩) hHeld ?_ ?_
     rotate_left
     ·intro w' s
      go_simp
      with_reducible rfl
     rotate_left
     ·simp only [Act.put, List.setIfInBounds_toArray, List.set_cons_zero, List.set_cons_succ, i64_w, i32_w]
      rfl
     refine one_ (i := 3) (N := some 56) (bs 11 255) rfl rfl (one_of HT_.out (by kernel_rfl)) (by decide) (fun K hK => ?_)
     refine Kd.R_append_rows_step k27 (Rr := k27.K _) (w0 := w4) w4.heap.size (by rfl) (.const (.slice none 0 0)) (.tmp 55) 22 27 (.agg #[.int .i64 0, .string ⟨#[]⟩]) 24 rfl Tryz.underlying22 infoDoc rfl (by decide) (by decide) (.slice none 0 0) [] (l0.take q) A0 q c0 (fun _ => True) (fun _ => False) rfl rfl (Kd.R_nil _ _ _ _ _) (Kd.C_below HCt.out hHeld) (fun _ _ h => docM h) (fun _ h => h.elim) (fun _ _ => trivial) hHeld hHeld.size (by (try simp only [List.length_append, List.length_take, List.length_drop, List.length_nil, List.length_singleton]); have := HL.out; omega) ?_
     intro v5 w5 ho5 hb5 _ _
     rw [List.nil_append] at ho5
     obtain ⟨A5, c5, hv5⟩ := Kd.R_slice ho5
     rw [HKT.out] at hv5
     subst hv5
     refine hK.out _ _ hb5 (fun hHeld => ?_)
     clear hK K
     refine norm_ (a' := ?_) ?_ ?_
     rotate_left
     ·show Act.put _ (some 56) _ = _
      simp only [Act.put, List.setIfInBounds_toArray, List.set_cons_zero, List.set_cons_succ, i64_w, i32_w]
      rfl
     refine one_ (i := 8) (N := some 61) (bs 11 511) rfl rfl (one_of HT_.out (by kernel_rfl)) (by decide) (fun K hK => ?_)
     refine Kd.R_append_rows_step k27 (Rr := k27.K _) (w0 := w4) w4.heap.size (by rfl) (.tmp 56) (.tmp 60) 22 27 (.agg #[.int .i64 0, .string ⟨#[]⟩]) 24 rfl Tryz.underlying22 infoDoc rfl (by decide) (by decide) (.slice A5 q c5) (l0.take q) (l0.drop (q + 1)) Ad (l0.length - (q + 1)) (c0 - (q + 1)) (fun _ => True) (fun _ => False) rfl rfl ho5 (Kd.C_below HCd.out hb5) (fun _ _ h => docM h) (fun _ h => h.elim) (fun _ _ => trivial) hb5 hb5.size (by (try simp only [List.length_append, List.length_take, List.length_drop, List.length_nil, List.length_singleton]); have := HL.out; omega) ?_
     intro v6 w6 ho6 hb6 _ _
     have HO6 := Aside0.mk ho6
     have HB6 := Aside0.mk hb6
     clear ho6 ho5 hb5
     refine hK.out _ _ hb6 (fun hHeld => ?_)
     clear hb6
     clear hK K
     refine norm_ (a' := ?_) ?_ ?_
     rotate_left
     ·show Act.put _ (some 61) _ = _
      simp only [Act.put, List.setIfInBounds_toArray, List.set_cons_zero, List.set_cons_succ, i64_w, i32_w]
      rfl
     iterate 2
      refine tk_ (N := some _) (v := ?_) (a' := ?_) rfl rfl (take_ofW HT_.out HW_.out (by kernel_rfl)) (fun _ _ _ h => h) (Or.inl ⟨by rfl, ?_⟩) hHeld ?_ ?_
      rotate_left
      ·intro w' s
       go_simp
       with_reducible rfl
      rotate_left
      ·simp only [Act.put, List.setIfInBounds_toArray, List.set_cons_zero, List.set_cons_succ, i64_w, i32_w]
       rfl
     refine done_ (done_of HT_.out (by kernel_rfl)) ?_
     obtain ⟨A7, c7, hv7⟩ := Kd.R_slice HO6.out
     obtain ⟨n7, hn7⟩ : ∃ n, (l0.take q ++ l0.drop (q + 1)).length = n := ⟨_, rfl⟩
     rw [hn7] at hv7
     subst hv7
     have HN7 := Aside0.mk hn7
     clear hn7
     have HR7 := Aside0.mk (Kd.R_reads' HO6.out)
     have HBz := Aside0.mk (below_step HB4.out HB6.out)
     clear hHeld
     go_wp2_with fail
     go_ret2
     rw [HE.out]
     exact ⟨A7, c7, by rw [show (l0.take q ++ l0.drop (q + 1), (0 : Int)).1.length = n7 from HN7.out]; rfl, HR7.out.1 ▸ HR7.out.2.1, HR7.out.2.2, HBz.out, fun _ => by rw [show (l0.take q ++ l0.drop (q + 1), (0 : Int)).1.length = n7 from HN7.out]; exact Kd.R_lower HO6.out HB4.out.size, fun h => absurd rfl h⟩
   ·have t3 : (kind == 1) = true := beq_iff_eq.2 (by omega)
    have hN : changeOf l0 kind id fr tt snap text nid = if nid < 1 ∨ 0 ≤ findOf l0 nid then (l0, 1) else if 10 ≤ l0.length then (l0, 8) else (l0 ++ [⟨nid, text⟩], 0) := (if_pos hM).trans (if_neg h3)
    by_cases h4 : nid < 1
    ·have t4 : decide (nid < 1) = true := decide_eq_true h4
     have HE : Aside0 (changeOf l0 kind id fr tt snap text nid = (l0, 1)) := ⟨hN.trans (if_pos (Or.inl h4))⟩
     clear hN
     go_wp2_with fail
     go_ret2
     rw [HE.out]
     exact ⟨A0, c0, rfl, HC.out, Kd.C_below HR.out HB3.out, HB3.out, by intro h; simp at h, fun _ => Or.inl ⟨rfl, rfl, rfl⟩⟩
    have t4 : decide (nid < 1) = false := decide_eq_false h4
    have HN := Aside0.mk hN
    clear hN
    go_wp2_with fail
    refine (FI.out nid _ (Kd.C_below HR.out HB3.out)).mono ?_
    rintro en w4 ⟨rfl, hb⟩
    have HB4 := Aside0.mk (below_step HB3.out hb)
    have HB14 := Aside0.mk (below_step HB13.out hb)
    clear hb k0 k1
    by_cases h5 : 0 ≤ findOf l0 nid
    ·have t5 : decide (0 ≤ findOf l0 nid) = true := decide_eq_true h5
     have HE : Aside0 (changeOf l0 kind id fr tt snap text nid = (l0, 1)) := ⟨HN.out.trans (if_pos (Or.inr h5))⟩
     go_wp2_with fail
     go_ret2
     rw [HE.out]
     exact ⟨A0, c0, rfl, HC.out, Kd.C_below HR.out HB4.out, HB4.out, by intro h; simp at h, fun _ => Or.inl ⟨rfl, rfl, rfl⟩⟩
    have t5 : decide (0 ≤ findOf l0 nid) = false := decide_eq_false h5
    by_cases h6 : 10 ≤ l0.length
    ·have t6 : decide ((10 : Int) ≤ (l0.length : Int)) = true := decide_eq_true (by omega)
     have HE : Aside0 (changeOf l0 kind id fr tt snap text nid = (l0, 8)) := ⟨HN.out.trans ((if_neg (by omega)).trans (if_pos h6))⟩
     go_wp2_with fail
     go_ret2
     rw [HE.out]
     exact ⟨A0, c0, rfl, HC.out, Kd.C_below HR.out HB4.out, HB4.out, by intro h; simp at h, fun _ => Or.inl ⟨rfl, rfl, rfl⟩⟩
    have t6 : decide ((10 : Int) ≤ (l0.length : Int)) = false := decide_eq_false (by omega)
    have HE : Aside0 (changeOf l0 kind id fr tt snap text nid = (l0 ++ [⟨nid, text⟩], 0)) := ⟨HN.out.trans ((if_neg (by omega)).trans (if_neg h6))⟩
    go_wp2_with fail
    try go_wp2
    refine start_ (n := 10) (S := fun w' => Below w4.heap.size w4 w') (ds := []) (bs 10 0) (by kernel_rfl) rfl rfl (below_drew1 (Below.refl _ _)) (fun hHeld => ?_)
    refine with_tabW refChange.tab8 refChange.bits8 (fun HT_ HW_ => ?_)
    have k5 := pw_cell_below HB14.out g5.out
    refine take_ (i := 0) (N := some 38) (v := ?_) (a' := ?_) (bs 10 1) rfl rfl (take_ofW HT_.out HW_.out (by kernel_rfl)) (fun _ _ _ h => h) (Or.inl ⟨by rfl, ?_⟩) hHeld ?_ ?_
    rotate_left
    ·intro w' s
     go_simp
     with_reducible rfl
    rotate_left
    ·simp only [putAll, Act.put, List.setIfInBounds_toArray, List.set_cons_zero, List.set_cons_succ, i64_w, i32_w]
     rfl
    refine take_ (i := 2) (N := some 40) (v := ?_) (a' := ?_) (bs 10 5) rfl rfl (take_ofW HT_.out HW_.out (by kernel_rfl)) (fun _ _ _ h => h) (Or.inl ⟨by rfl, ?_⟩) hHeld ?_ ?_
    rotate_left
    ·intro w' s
     go_simp
     with_reducible rfl
    rotate_left
    ·simp only [putAll, Act.put, List.setIfInBounds_toArray, List.set_cons_zero, List.set_cons_succ, i64_w, i32_w]
     rfl
    refine take_ (i := 3) (N := some 41) (v := ?_) (a' := ?_) (bs 10 13) rfl rfl (take_ofW HT_.out HW_.out (by kernel_rfl)) (fun _ _ _ h => h) (Or.inl ⟨by rfl, ?_⟩) hHeld ?_ ?_
    rotate_left
    ·intro w' s
     go_simp
     with_reducible rfl
    rotate_left
    ·simp only [putAll, Act.put, List.setIfInBounds_toArray, List.set_cons_zero, List.set_cons_succ, i64_w, i32_w]
     rfl
    refine take_ (i := 4) (N := some 42) (v := ?_) (a' := ?_) (bs 10 29) rfl rfl (take_ofW HT_.out HW_.out (by kernel_rfl)) (fun _ _ _ h => h) (Or.inl ⟨by rfl, ?_⟩) hHeld ?_ ?_
    rotate_left
    ·intro w' s
     have s0 := pw_cell_below s k5
     go_simp
     with_reducible rfl
    rotate_left
    ·simp only [putAll, Act.put, List.setIfInBounds_toArray, List.set_cons_zero, List.set_cons_succ, i64_w, i32_w]
     rfl
    refine take_ (i := 5) (N := some 43) (v := ?_) (a' := ?_) (bs 10 61) rfl rfl (take_ofW HT_.out HW_.out (by kernel_rfl)) (fun _ _ _ h => h) (Or.inl ⟨by rfl, ?_⟩) hHeld ?_ ?_
    rotate_left
    ·intro w' s
     go_simp
     with_reducible rfl
    rotate_left
    ·simp only [putAll, Act.put, List.setIfInBounds_toArray, List.set_cons_zero, List.set_cons_succ, i64_w, i32_w]
     rfl
    clear k5
    refine join_ (σ := Value × Nat) 3 (bs 10 127) (fun s => [(39, s.1), (44, .slice (some ⟨s.2, 0, none⟩) 1 1)]) (fun s w' => Kd.R k27 27 w' w4.heap.size (fun _ => True) s.1 l0 ∧ w'.heap[s.2]? = some (.cells #[.int .i64 nid, .string text] 27 (0, 0)) ∧ Below w4.heap.size w4 w') ?_ ?_
    ·rintro ⟨v5, bb⟩ w5 ⟨ho5, hc5, hb5⟩
     dsimp only at ho5 hc5
     refine norm_ (a' := ?_) ?_ ?_
     rotate_left
     ·simp only [putAll, Act.put, List.setIfInBounds_toArray, List.set_cons_zero, List.set_cons_succ, i64_w, i32_w]
      rfl
     refine one_ (i := 7) (N := some 45) (bs 10 255) rfl rfl (one_of HT_.out (by kernel_rfl)) (by decide) (fun K hK => ?_)
     refine Kd.R_append_rows_step k27 (Rr := k27.K _) (w0 := w4) w4.heap.size (by rfl) (.tmp 39) (.tmp 44) 22 27 (.agg #[.int .i64 0, .string ⟨#[]⟩]) 24 rfl Tryz.underlying22 infoDoc rfl (by decide) (by decide) v5 l0 [⟨nid, text⟩] (some ⟨bb, 0, none⟩) 1 1 (fun _ => True) (fun _ => False) rfl rfl ho5 (lit_doc hc5) (fun _ _ h => docM h) (fun _ h => h.elim) (fun _ _ => trivial) hb5 hb5.size (by (try simp only [List.length_append, List.length_take, List.length_drop, List.length_nil, List.length_singleton]); have := HL.out; omega) ?_
     intro v7 w7 ho7 hb7 hg hat
     have HO7 := Aside0.mk ho7
     have HB7 := Aside0.mk hb7
     clear ho7 hg hat ho5 hc5 hb5
     refine hK.out _ _ hb7 (fun hHeld => ?_)
     clear hK K hb7
     refine norm_ (a' := ?_) ?_ ?_
     rotate_left
     ·show Act.put _ (some 45) _ = _
      simp only [putAll, Act.put, List.setIfInBounds_toArray, List.set_cons_zero, List.set_cons_succ, i64_w, i32_w]
      rfl
     iterate 2
      refine tk_ (N := some _) (v := ?_) (a' := ?_) rfl rfl (take_ofW HT_.out HW_.out (by kernel_rfl)) (fun _ _ _ h => h) (Or.inl ⟨by rfl, ?_⟩) hHeld ?_ ?_
      rotate_left
      ·intro w' s
       go_simp
       with_reducible rfl
      rotate_left
      ·simp only [putAll, Act.put, List.setIfInBounds_toArray, List.set_cons_zero, List.set_cons_succ, i64_w, i32_w]
       rfl
     refine done_ (done_of HT_.out (by kernel_rfl)) ?_
     obtain ⟨A7, c7, hv7⟩ := Kd.R_slice HO7.out
     subst hv7
     have HR7 := Aside0.mk (Kd.R_reads' HO7.out)
     have HBz := Aside0.mk (below_step HB4.out HB7.out)
     clear hHeld
     go_wp2_with fail
     go_ret2
     rw [HE.out]
     exact ⟨A7, c7, by first | rfl | (rw [List.length_append]; rfl), HR7.out.2.1, HR7.out.2.2, HBz.out, fun _ => Kd.R_lower HO7.out HB4.out.size, fun h => absurd rfl h⟩
    ·intro hjoin
     have hB := hHeld
     generalize w4.drew = wd at hHeld hB ⊢
     refine two_ (i := 1) (j := 6) (bs 10 63) (bs 10 125) rfl rfl rfl rfl (two_of HT_.out (by kernel_rfl)) (by decide) (by decide) (fun K hK => ?_) (fun K hK => ?_)
     ·refine Kd.R_append_rows_step k27 (Rr := k27.K _) (w0 := w4) w4.heap.size (by rfl) (.const (.slice none 0 0)) (.tmp 38) 22 27 (.agg #[.int .i64 0, .string ⟨#[]⟩]) 24 rfl Tryz.underlying22 infoDoc rfl (by decide) (by decide) (.slice none 0 0) [] l0 A0 l0.length c0 (fun _ => True) (fun _ => False) rfl rfl (Kd.R_nil _ _ _ _ _) (Kd.C_below HR.out (below_step HB4.out hB)) (fun _ _ h => docM h) (fun _ h => h.elim) (fun _ _ => trivial) hB hB.size (by (try simp only [List.length_append, List.length_take, List.length_drop, List.length_nil, List.length_singleton]); have := HL.out; omega) ?_
      intro v5 w5 ho5 hb5 hg5 _
      rw [List.nil_append] at ho5
      refine hK.out _ _ hb5 (fun _ => ?_)
      clear hK K
      refine norm_ (a' := ?_) ?_ ?_
      rotate_left
      ·show Act.put _ (some 39) _ = _
       simp only [putAll, Act.put, List.setIfInBounds_toArray, List.set_cons_zero, List.set_cons_succ, i64_w, i32_w]
       rfl
      refine one_ (i := 6) (N := some 44) (bs 10 127) rfl rfl (one_of HT_.out (by kernel_rfl)) (by decide) (fun K hK => ?_)
      refine value_ (v := .slice (some ⟨w5.heap.size, 0, none⟩) 1 1) (w1 := w5.alloc (.cells #[.int .i64 nid, .string text] 27)) (by rfl) rfl (by first | (go_simp; done) | (go_simp; rfl)) (hK.out _ _ (below_alloc hb5 _) (fun _ => ?_))
      exact norm_ (by first | (simp only [putAll, Act.put, List.setIfInBounds_toArray, List.set_cons_zero, List.set_cons_succ]; done) | (simp only [putAll, Act.put, List.setIfInBounds_toArray, List.set_cons_zero, List.set_cons_succ]; rfl)) (hjoin (v5, w5.heap.size) _ ⟨Kd.R_alloc ho5 _, heap_alloc_new w5 _, below_alloc hb5 _⟩)
     ·refine value_ (v := .slice (some ⟨wd.heap.size, 0, none⟩) 1 1) (w1 := wd.alloc (.cells #[.int .i64 nid, .string text] 27)) (by rfl) rfl (by first | (go_simp; done) | (go_simp; rfl)) (hK.out _ _ (below_alloc hB _) (fun _ => ?_))
      clear hK K
      have hL2 : (wd.alloc (.cells #[.int .i64 nid, .string text] 27)).heap[wd.heap.size]? = some (.cells #[.int .i64 nid, .string text] 27 (0, 0)) := heap_alloc_new wd _
      have hB2 := below_alloc hB (.cells #[.int .i64 nid, .string text] 27)
      refine norm_ (a' := ?_) ?_ ?_
      rotate_left
      ·show Act.put _ (some 44) _ = _
       simp only [putAll, Act.put, List.setIfInBounds_toArray, List.set_cons_zero, List.set_cons_succ, i64_w, i32_w]
       rfl
      obtain ⟨wb, hwb⟩ : ∃ x, wd.alloc (.cells #[.int .i64 nid, .string text] 27) = x := ⟨_, rfl⟩
      rw [hwb] at hL2 hB2 ⊢
      obtain ⟨gl, hgl⟩ : ∃ x, wd.heap.size = x := ⟨_, rfl⟩
      rw [hgl] at hL2 ⊢
      clear hwb hgl
      refine one_ (i := 1) (N := some 39) (bs 10 127) rfl rfl (one_of HT_.out (by kernel_rfl)) (by decide) (fun K hK => ?_)
      refine Kd.R_append_rows_step k27 (Rr := k27.K _) (w0 := w4) w4.heap.size (by rfl) (.const (.slice none 0 0)) (.tmp 38) 22 27 (.agg #[.int .i64 0, .string ⟨#[]⟩]) 24 rfl Tryz.underlying22 infoDoc rfl (by decide) (by decide) (.slice none 0 0) [] l0 A0 l0.length c0 (fun _ => True) (fun _ => False) rfl rfl (Kd.R_nil _ _ _ _ _) (Kd.C_below HR.out (below_step HB4.out hB2)) (fun _ _ h => docM h) (fun _ h => h.elim) (fun _ _ => trivial) hB2 hB2.size (by (try simp only [List.length_append, List.length_take, List.length_drop, List.length_nil, List.length_singleton]); have := HL.out; omega) ?_
      intro v5 w5 ho5 hb5 hg5 _
      rw [List.nil_append] at ho5
      refine hK.out _ _ hb5 (fun _ => ?_)
      exact norm_ (by first | (simp only [putAll, Act.put, List.setIfInBounds_toArray, List.set_cons_zero, List.set_cons_succ]; done) | (simp only [putAll, Act.put, List.setIfInBounds_toArray, List.set_cons_zero, List.set_cons_succ]; rfl)) (hjoin (v5, gl) _ ⟨ho5, blk_grown hL2 hg5 (fun e => by cases e), hb5⟩)
end Go.Proofs.YtibhenengpdahaaGreat.P

end
