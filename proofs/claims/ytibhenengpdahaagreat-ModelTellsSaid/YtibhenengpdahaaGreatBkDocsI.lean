/- What Book's functions do to the lists of one kind that it keeps (Docs). Conditions: the lists are few and small, and the book's rows lie as told. (Printed by genk.py.) -/
import Derived.Test.YtibhenengpdahaaGreatJR
set_option linter.unusedVariables false
set_option linter.unusedSimpArgs false
namespace Go.Proofs.YtibhenengpdahaaGreat.P
open Go.RowKit Go.Proofs.YtibhenengpdahaaGreatW.PrintWords Go.Proofs.YtibhenengpdahaaGreatW.PrintLast Go.Proofs.YtibhenengpdahaaGreatW.PrintMore

def stillDocs.T4 : Bool × List (List Nat × List Nat) := (true, [([], []), ([0], [0]), ([1], [1]), ([2], [2]), ([], []), ([3, 4], [3, 4]), ([5], [5]), ([], []), ([7], [7]), ([8], [8]), ([9], [9]), ([], []), ([10, 11], [10, 11]), ([12], [12]), ([6, 13], [6, 13]), ([14], [14])])
def stillDocs.B4 : List Nat := [0, 1, 3, 7, 0, 31, 63, 0, 128, 384, 896, 0, 3968, 8064, 16383, 32767]
theorem stillDocs.tab4 : rtab .any (opsOf Tryz.f41 4) = stillDocs.T4 := by kernel_rfl
theorem stillDocs.bits4 : waitsOk stillDocs.T4.2 stillDocs.B4 = true := by kernel_rfl
def putDocs.T7 : Bool × List (List Nat × List Nat) := (true, [([], []), ([0], [0]), ([1], [1]), ([2], [2]), ([], []), ([3, 4], [3, 4]), ([5], [5]), ([], []), ([], []), ([], []), ([8, 9], [8, 9]), ([10], [10]), ([6, 7, 0, 1, 2, 3, 4, 5, 6, 7, 8, 9, 10, 11], [6, 7]), ([12, 11, 0, 1, 2, 3, 4, 5, 6, 7, 8, 9, 10, 11], [11, 12])])
def putDocs.B7 : List Nat := [0, 1, 3, 7, 0, 31, 63, 0, 0, 0, 768, 1792, 4095, 8191]
theorem putDocs.tab7 : rtab .any (opsOf Tryz.f50 7) = putDocs.T7 := by kernel_rfl
theorem putDocs.bits7 : waitsOk putDocs.T7.2 putDocs.B7 = true := by kernel_rfl
set_option maxRecDepth 100000 in
set_option maxHeartbeats 4000000 in
theorem stillDocs_calls (bk : Nat) (A A' : Option Addr) (c c' : Nat) (us us' : List Value) (xss : List (List S27)) (w : World) (h0 : w.cell? ⟨bk, 8, none⟩ = some (.slice A us.length c)) (h1 : w.cell? ⟨bk, 9, none⟩ = some (.slice A' us.length c')) (hl : us.length ≤ 1000)
  (hA : Lists w A us) (hA' : Lists w A' us') (hn : us'.length = us.length) (hx : xss.length = us.length) (hr : ∀ i, (h : i < us.length) → ReadsD k27 w us[i] (xss.getD i [])) (hr' : ∀ i, (h : i < us'.length) → ReadsD k27 w us'[i] (xss.getD i [])) (hs : ∀ i, (xss.getD i []).length ≤ 1000000) :
  Calls Tryz.prog 41 #[.pointer (some ⟨bk, 0, none⟩)] w fun e w' => e = .returned (.bool true) ∧ Below w.heap.size w w' := by
 have H0 := Aside0.mk h0
 have H1 := Aside0.mk h1
 have HA := Aside0.mk hA
 have HA' := Aside0.mk hA'
 have HR := Aside0.mk hr
 have HR' := Aside0.mk hr'
 have HS := Aside0.mk hs
 have HL := Aside0.mk hl
 have HN := Aside0.mk hn
 obtain ⟨n, hnn⟩ : ∃ n, us.length = n := ⟨_, rfl⟩
 have HNN := Aside0.mk hnn
 rw [hnn] at H0 H1
 clear h0 h1 hA hA' hr hr' hs hl hn hx hnn
 go_enter Tryz.func41, Tryz.ntmps41
 go_wp2_with fail
 go_loopw [3] (fun iv wr => ∃ i : Nat, i ≤ n ∧ iv = .int .i64 i ∧ Aside0 (Below w.heap.size w wr)) (fun iv _ => n - (intOf iv).toNat)
 case atStart => exact ⟨0, Nat.zero_le _, rfl, ⟨Below.refl _ _⟩⟩
 case round =>
  obtain ⟨i, hi, rfl, HB⟩ := hrel
  have g0 := pw_cell_below HB.out H0.out
  by_cases hlt : i < n
  ·have c1 : decide ((i : Int) < (n : Int)) = true := decide_eq_true (by omega)
   have c2 : decide (i < n) = true := decide_eq_true hlt
   have v1 : (0 ≤ (i : Int)) = True := eq_true (by omega)
   have v2 : ((i : Int) < (n : Int)) = True := eq_true (by omega)
   have v3 : IntKind.i64.wrap ((i : Int) + 1) = (i : Int) + 1 := IntWalk.i64_in _ (by have := HL.out; have := HNN.out; omega)
   have g1 := pw_cell_below HB.out H1.out
   obtain ⟨ad, hAe, x0⟩ := (HA.out.below HB.out).at_ i (by rw [HNN.out]; exact hlt)
   obtain ⟨ad', hAe', x1⟩ := (HA'.out.below HB.out).at_ i (by rw [HN.out, HNN.out]; exact hlt)
   obtain ⟨a, k, hu, hk, hC⟩ := (HR.out i (by rw [HNN.out]; exact hlt)).below HB.out
   obtain ⟨a', k', hu', hk', hC'⟩ := (HR'.out i (by rw [HN.out, HNN.out]; exact hlt)).below HB.out
   rw [hu] at x0
   rw [hu'] at x1
   have hsm := HS.out i
   obtain ⟨xs, hxs⟩ : ∃ q, xss.getD i [] = q := ⟨_, rfl⟩
   rw [hxs] at x0 x1 hk hk' hC hC' hsm
   have SM := Aside0.mk (fun w' (hb : Below wr.heap.size wr w') => sameDocs_calls a a' k k' xs w' (Kd.C_below hC hb) (Kd.C_below hC' hb) hk hk' hsm)
   subst hAe hAe'
   clear hu hu' hC hC' hk hk' hxs hsm
   go_wp2_with fail
   refine start_ (n := 16) (S := fun w' => Below wr.heap.size wr w') (ds := []) (bs 16 0) (by kernel_rfl) rfl rfl (below_drew1 (Below.refl _ _)) (fun hHeld => ?_)
   refine with_tabW stillDocs.tab4 stillDocs.bits4 (fun HT_ HW_ => ?_)
   iterate 3
    refine tk_ (N := some _) (v := ?_) (a' := ?_) rfl rfl (take_ofW HT_.out HW_.out (by kernel_rfl)) (fun _ _ _ h => h) (Or.inl ⟨by rfl, ?_⟩) hHeld ?_ ?_
    rotate_left
    ·intro w' s
     go_simp
     with_reducible rfl
    rotate_left
    ·simp only [Act.put, List.setIfInBounds_toArray, List.set_cons_zero, List.set_cons_succ, i64_w, i32_w]
     rfl
   refine take_ (i := 3) (N := some 16) (v := ?_) (a' := ?_) (bs 16 15) rfl rfl (take_ofW HT_.out HW_.out (by kernel_rfl)) (fun _ _ _ h => h) (Or.inl ⟨by rfl, ?_⟩) hHeld ?_ ?_
   rotate_left
   ·intro w' s
    have s0 := pw_cell_below s g0
    have s1 := pw_cell_below s g1
    have s2 := pw_cell_below s x0
    have s3 := pw_cell_below s x1
    go_simp
    with_reducible rfl
   rotate_left
   ·simp only [Act.put, List.setIfInBounds_toArray, List.set_cons_zero, List.set_cons_succ, i64_w, i32_w]
    rfl
   iterate 2
    refine tk_ (N := some _) (v := ?_) (a' := ?_) rfl rfl (take_ofW HT_.out HW_.out (by kernel_rfl)) (fun _ _ _ h => h) (Or.inl ⟨by rfl, ?_⟩) hHeld ?_ ?_
    rotate_left
    ·intro w' s
     go_simp
     with_reducible rfl
    rotate_left
    ·simp only [Act.put, List.setIfInBounds_toArray, List.set_cons_zero, List.set_cons_succ, i64_w, i32_w]
     rfl
   refine take_ (i := 6) (N := some 19) (v := ?_) (a' := ?_) (bs 16 127) rfl rfl (take_ofW HT_.out HW_.out (by kernel_rfl)) (fun _ _ _ h => h) (Or.inl ⟨by rfl, ?_⟩) hHeld ?_ ?_
   rotate_left
   ·intro w' s
    have s0 := pw_cell_below s g0
    have s1 := pw_cell_below s g1
    have s2 := pw_cell_below s x0
    have s3 := pw_cell_below s x1
    go_simp
    with_reducible rfl
   rotate_left
   ·simp only [Act.put, List.setIfInBounds_toArray, List.set_cons_zero, List.set_cons_succ, i64_w, i32_w]
    rfl
   iterate 3
    refine tk_ (N := some _) (v := ?_) (a' := ?_) rfl rfl (take_ofW HT_.out HW_.out (by kernel_rfl)) (fun _ _ _ h => h) (Or.inl ⟨by rfl, ?_⟩) hHeld ?_ ?_
    rotate_left
    ·intro w' s
     go_simp
     with_reducible rfl
    rotate_left
    ·simp only [Act.put, List.setIfInBounds_toArray, List.set_cons_zero, List.set_cons_succ, i64_w, i32_w]
     rfl
   refine take_ (i := 10) (N := some 23) (v := ?_) (a' := ?_) (bs 16 2047) rfl rfl (take_ofW HT_.out HW_.out (by kernel_rfl)) (fun _ _ _ h => h) (Or.inl ⟨by rfl, ?_⟩) hHeld ?_ ?_
   rotate_left
   ·intro w' s
    have s0 := pw_cell_below s g0
    have s1 := pw_cell_below s g1
    have s2 := pw_cell_below s x0
    have s3 := pw_cell_below s x1
    go_simp
    with_reducible rfl
   rotate_left
   ·simp only [Act.put, List.setIfInBounds_toArray, List.set_cons_zero, List.set_cons_succ, i64_w, i32_w]
    rfl
   iterate 2
    refine tk_ (N := some _) (v := ?_) (a' := ?_) rfl rfl (take_ofW HT_.out HW_.out (by kernel_rfl)) (fun _ _ _ h => h) (Or.inl ⟨by rfl, ?_⟩) hHeld ?_ ?_
    rotate_left
    ·intro w' s
     go_simp
     with_reducible rfl
    rotate_left
    ·simp only [Act.put, List.setIfInBounds_toArray, List.set_cons_zero, List.set_cons_succ, i64_w, i32_w]
     rfl
   refine take_ (i := 13) (N := some 26) (v := ?_) (a' := ?_) (bs 16 16383) rfl rfl (take_ofW HT_.out HW_.out (by kernel_rfl)) (fun _ _ _ h => h) (Or.inl ⟨by rfl, ?_⟩) hHeld ?_ ?_
   rotate_left
   ·intro w' s
    have s0 := pw_cell_below s g0
    have s1 := pw_cell_below s g1
    have s2 := pw_cell_below s x0
    have s3 := pw_cell_below s x1
    go_simp
    with_reducible rfl
   rotate_left
   ·simp only [Act.put, List.setIfInBounds_toArray, List.set_cons_zero, List.set_cons_succ, i64_w, i32_w]
    rfl
   refine one_ (i := 14) (N := some 27) (bs 16 32767) rfl rfl (one_of HT_.out (by kernel_rfl)) (by decide) (fun K hK => ?_)
   refine goes_ Tryz.func15 (by kernel_rfl) rfl #[.slice a xs.length k, .slice a' xs.length k'] (by rfl) rfl rfl (by (try simp only [List.map_toArray, List.map_cons, List.map_nil]); first | done | rfl | (simp only [List.length_drop, List.length_take]; rfl)) ?_
   refine (SM.out _ hHeld).mono ?_
   rintro en w8 ⟨rfl, hb⟩
   refine ⟨_, rfl, ?_⟩
   have hS8 := below_step hHeld hb
   refine hK.out _ _ hS8 (fun hHeld => ?_)
   clear hK K
   refine norm_ (a' := ?_) ?_ ?_
   rotate_left
   ·show Act.put _ (some 27) _ = _
    simp only [Act.put, List.setIfInBounds_toArray, List.set_cons_zero, List.set_cons_succ, i64_w, i32_w]
    rfl
   refine take_ (i := 15) (N := some 28) (v := ?_) (a' := ?_) (bs 16 65535) rfl rfl (take_ofW HT_.out HW_.out (by kernel_rfl)) (fun _ _ _ h => h) (Or.inl ⟨by rfl, ?_⟩) hHeld ?_ ?_
   rotate_left
   ·intro w' s
    go_simp
    with_reducible rfl
   rotate_left
   ·simp only [Act.put, List.setIfInBounds_toArray, List.set_cons_zero, List.set_cons_succ, i64_w, i32_w]
    rfl
   refine done_ (done_of HT_.out (by kernel_rfl)) ?_
   have HBn := Aside0.mk (below_step HB.out hHeld)
   clear hHeld g0 g1 x0 x1
   go_wp2_with fail
   go_roundw
   case rel => exact ⟨i + 1, by omega, by go_num, HBn⟩
   case measure => simp [intOf]; omega
  ·obtain rfl : i = n := by omega
   have c1 : decide ((i : Int) < (i : Int)) = false := decide_eq_false (by omega)
   go_wp2_with fail
   go_ret
   exact ⟨rfl, HB.out⟩
set_option maxRecDepth 100000 in
set_option maxHeartbeats 4000000 in
theorem putDocs_calls (bk : Nat) (A : Option Addr) (c : Nat) (us : List Value) (xss : List (List S27)) (base : Nat) (w : World) (h0 : w.cell? ⟨bk, 8, none⟩ = some (.slice A us.length c)) (hl : us.length ≤ 1000)
  (hA : Lists w A us) (hR : ∀ i, (h : i < us.length) → Kd.R k27 27 w base (fun _ => True) us[i] (xss.getD i [])) (hsep : ∀ i j, (hi : i < us.length) → (hj : j < us.length) → i ≠ j → ∀ k, us[i].ownBlock = some k → us[j].ownBlock ≠ some k)
  (hbk : ∀ i, (h : i < us.length) → us[i].ownBlock ≠ some bk) (hrow : ∀ i, (h : i < us.length) → ∀ ad, A = some ad → us[i].ownBlock ≠ some ad.block) (hs : ∀ i, (xss.getD i []).length ≤ 1000000) :
  Calls Tryz.prog 50 #[.pointer (some ⟨bk, 0, none⟩)] w fun e w' => e = .returned (.tuple #[]) ∧ PutKeep us w w' ∧
   ∀ i, (h : i < us.length) → Kd.R k27 27 w' base (fun _ => True) us[i] (marksOf mkDocs (i : Int) 0 (xss.getD i []).length) := by
 have H0 := Aside0.mk h0
 have HA := Aside0.mk hA
 have HR := Aside0.mk hR
 have HSEP := Aside0.mk hsep
 have HBK := Aside0.mk hbk
 have HROW := Aside0.mk hrow
 have HS := Aside0.mk hs
 have HL := Aside0.mk hl
 obtain ⟨n, hnn⟩ : ∃ n, us.length = n := ⟨_, rfl⟩
 have HNN := Aside0.mk hnn
 rw [hnn] at H0
 clear h0 hA hR hsep hbk hrow hs hl hnn
 go_enter Tryz.func50, Tryz.ntmps50
 go_wp2_with fail
 go_loopw [2] (fun iv wr => ∃ i : Nat, i ≤ n ∧ iv = .int .i64 i ∧ Aside0 (PutKeep us w wr) ∧ Aside0 (∀ j, (h : j < us.length) → Kd.R k27 27 wr base (fun _ => True) us[j] (if j < i then marksOf mkDocs (j : Int) 0 (xss.getD j []).length else xss.getD j []))) (fun iv _ => n - (intOf iv).toNat)
 case atStart => exact ⟨0, Nat.zero_le _, rfl, ⟨PutKeep.refl _ _⟩, ⟨fun j h => by rw [if_neg (by omega)]; exact HR.out j h⟩⟩
 case round =>
  obtain ⟨i, hi, rfl, HP, HRr⟩ := hrel
  have g0 := HP.out.cell (a := ⟨bk, 8, none⟩) HBK.out H0.out
  by_cases hlt : i < n
  ·have hiu : i < us.length := by rw [HNN.out]; exact hlt
   have c1 : decide ((i : Int) < (n : Int)) = true := decide_eq_true (by omega)
   have c2 : decide (i < n) = true := decide_eq_true hlt
   have v1 : (0 ≤ (i : Int)) = True := eq_true (by omega)
   have v2 : ((i : Int) < (n : Int)) = True := eq_true (by omega)
   have v3 : IntKind.i64.wrap ((i : Int) + 1) = (i : Int) + 1 := IntWalk.i64_in _ (by have := HL.out; have := HNN.out; omega)
   obtain ⟨ad, hAe, x0⟩ := HA.out.at_ i hiu
   have hra : ∀ j, (h : j < us.length) → us[j].ownBlock ≠ some (ad.add i).block := by
    intro j h
    have : (ad.add i).block = ad.block := by unfold Addr.add; split <;> rfl
    rw [this]
    exact HROW.out j h ad hAe
   have HRA := Aside0.mk hra
   have HX0 := Aside0.mk x0
   have x0 := HP.out.cell (a := ad.add i) hra x0
   have hRi := HRr.out i hiu
   rw [if_neg (by omega)] at hRi
   obtain ⟨xs, hxs⟩ : ∃ q, xss.getD i [] = q := ⟨_, rfl⟩
   have hsm := HS.out i
   have HXS := Aside0.mk hxs
   rw [hxs] at hRi hsm
   obtain ⟨Ai, ci, hui⟩ := Kd.R_slice hRi
   have HUI := Aside0.mk hui
   rw [hui] at x0 hRi
   have HRi := Aside0.mk hRi
   obtain ⟨m, hm⟩ : ∃ m, xs.length = m := ⟨_, rfl⟩
   have HM := Aside0.mk hm
   rw [hm] at x0 hsm
   have MK := Aside0.mk (markDocs_calls i 0 m wr (by have := HL.out; have := HNN.out; omega) (by omega))
   have HSM := Aside0.mk hsm
   subst hAe
   clear hra hxs hui hRi hm hsm
   go_wp2_with fail
   refine MK.out.mono ?_
   rintro en w1 ⟨v3, rfl, hR3, hb1⟩
   obtain ⟨A3, c3, rfl⟩ := Kd.R_slice hR3
   rw [marks_len] at hR3
   have HR3 := Aside0.mk hR3
   have HB1 := Aside0.mk hb1
   rw [marks_len]
   clear hR3 hb1 MK g0 x0
   go_wp2_with fail
   have HU1 : Aside0 (Kd.R k27 27 w1 base (fun _ => True) (.slice Ai m ci) (marksOf mkDocs (i : Int) 0 0 ++ xs.drop 0)) := ⟨by rw [show marksOf mkDocs (i : Int) 0 0 ++ xs.drop 0 = xs from rfl]; have h := HRi.out; rw [HM.out] at h; exact Kd.R_below h HB1.out⟩
   have HG1 : Aside0 (w1.grownBy w1 (Value.slice Ai m ci).ownBlock) := ⟨World.grownBy.refl _ _⟩
   have hown : (Value.slice Ai m ci).ownBlock = us[i].ownBlock := by rw [HUI.out, HM.out]
   have HOWN := Aside0.mk hown
   have HP1 := Aside0.mk (HP.out.below HB1.out)
   clear hown
   go_loopw [4] (fun iv wr => ∃ k : Nat, k ≤ m ∧ iv = .int .i64 k ∧ Aside0 (w1.grownBy wr (Value.slice Ai m ci).ownBlock) ∧ Aside0 (Kd.R k27 27 wr base (fun _ => True) (.slice Ai m ci) (marksOf mkDocs (i : Int) 0 k ++ xs.drop k))) (fun iv _ => m - (intOf iv).toNat)
   case atStart => exact ⟨0, Nat.zero_le _, rfl, HG1, HU1⟩
   case round =>
    obtain ⟨k, hk, rfl, HG, HRk⟩ := hrel
    have HPk := Aside0.mk (HP1.out.grown i hiu (by rw [← HOWN.out]; exact HG.out))
    by_cases hkm : k < m
    ·have d1 : decide ((k : Int) < (m : Int)) = true := decide_eq_true (by omega)
     have d2 : decide (k < m) = true := decide_eq_true hkm
     have d3 : (0 ≤ (k : Int)) = True := eq_true (by omega)
     have d4 : ((k : Int) < (m : Int)) = True := eq_true (by omega)
     have d5 : IntKind.i64.wrap ((k : Int) + 1) = (k : Int) + 1 := IntWalk.i64_in _ (by have := HSM.out; omega)
     have g0 := HPk.out.cell (a := ⟨bk, 8, none⟩) HBK.out H0.out
     have x0 := HPk.out.cell (a := ad.add i) HRA.out HX0.out
     rw [HUI.out, HM.out] at x0
     obtain ⟨L, hL⟩ : ∃ L, marksOf mkDocs (i : Int) 0 k ++ xs.drop k = L := ⟨_, rfl⟩
     have hlen : L.length = m := by rw [← hL, List.length_append, marks_len, List.length_drop, HM.out]; omega
     have hset : L.set k (mkDocs (i : Int) k) = marksOf mkDocs (i : Int) 0 (k + 1) ++ xs.drop (k + 1) := by rw [← hL]; exact marks_set _ _ _ _ (by rw [HM.out]; exact hkm)
     have hRk := HRk.out
     rw [hL, ← hlen] at hRk
     obtain ⟨g, cg, hform, _⟩ := Kd.R_form hRk (by omega)
     have hAi : Ai = some ⟨g, 0, none⟩ := by injection hform
     clear hform cg
     rw [hAi] at hRk
     have hR3 := Kd.R_grown2 HR3.out rfl HG.out (fun q hq he => by
      have h1 := Kd.R_base HR3.out q he.symm
      have h2 := Kd.R_lt HRi.out q (by rw [HM.out]; exact hq)
      omega)
     obtain ⟨ad3, hA3, y0, y1⟩ := at_T27 (Kd.R_reads' hR3).2.2 (k : Int) (by omega) (by rw [marks_len]; omega)
     rw [show rd_T27 (marksOf mkDocs (i : Int) 0 m) (k : Int) = mkDocs (i : Int) k from marks_rd _ _ _ _ _ hkm, Int.toNat_natCast] at y0 y1
     have HRK := Aside0.mk hRk
     have HSET := Aside0.mk hset
     have HLEN := Aside0.mk hlen
     have HAI := Aside0.mk hAi
     rw [hAi] at x0
     clear hL hset hlen hRk hR3 hAi
     subst hA3
     go_wp2_with fail
     refine start_ (n := 14) (S := fun w' => Below wr.heap.size wr w') (ds := [13]) (bs 14 0) (by kernel_rfl) rfl rfl (below_drew1 (Below.refl _ _)) (fun hHeld => ?_)
     refine with_tabW putDocs.tab7 putDocs.bits7 (fun HT_ HW_ => ?_)
     iterate 3
      refine tk_ (N := some _) (v := ?_) (a' := ?_) rfl rfl (take_ofW HT_.out HW_.out (by kernel_rfl)) (fun _ _ _ h => h) (Or.inl ⟨by rfl, ?_⟩) hHeld ?_ ?_
      rotate_left
      ·intro w' s
       go_simp
       with_reducible rfl
      rotate_left
      ·simp only [Act.put, List.setIfInBounds_toArray, List.set_cons_zero, List.set_cons_succ, i64_w, i32_w]
       rfl
     refine take_ (i := 3) (N := some 33) (v := ?_) (a' := ?_) (bs 14 15) rfl rfl (take_ofW HT_.out HW_.out (by kernel_rfl)) (fun _ _ _ h => h) (Or.inl ⟨by rfl, ?_⟩) hHeld ?_ ?_
     rotate_left
     ·intro w' s
      have s0 := pw_cell_below s g0
      have s1 := pw_cell_below s x0
      have s2 := pw_cell_below s y0
      have s3 := pw_cell_below s y1
      go_simp
      with_reducible rfl
     rotate_left
     ·simp only [Act.put, List.setIfInBounds_toArray, List.set_cons_zero, List.set_cons_succ, i64_w, i32_w]
      rfl
     iterate 2
      refine tk_ (N := some _) (v := ?_) (a' := ?_) rfl rfl (take_ofW HT_.out HW_.out (by kernel_rfl)) (fun _ _ _ h => h) (Or.inl ⟨by rfl, ?_⟩) hHeld ?_ ?_
      rotate_left
      ·intro w' s
       go_simp
       with_reducible rfl
      rotate_left
      ·simp only [Act.put, List.setIfInBounds_toArray, List.set_cons_zero, List.set_cons_succ, i64_w, i32_w]
       rfl
     refine take_ (i := 6) (N := some 36) (v := ?_) (a' := ?_) (bs 14 127) rfl rfl (take_ofW HT_.out HW_.out (by kernel_rfl)) (fun _ _ _ h => h) (Or.inl ⟨by rfl, ?_⟩) hHeld ?_ ?_
     rotate_left
     ·intro w' s
      have s0 := pw_cell_below s g0
      have s1 := pw_cell_below s x0
      have s2 := pw_cell_below s y0
      have s3 := pw_cell_below s y1
      go_simp
      with_reducible rfl
     rotate_left
     ·simp only [Act.put, List.setIfInBounds_toArray, List.set_cons_zero, List.set_cons_succ, i64_w, i32_w]
      rfl
     iterate 4
      refine tk_ (N := some _) (v := ?_) (a' := ?_) rfl rfl (take_ofW HT_.out HW_.out (by kernel_rfl)) (fun _ _ _ h => h) (Or.inl ⟨by rfl, ?_⟩) hHeld ?_ ?_
      rotate_left
      ·intro w' s
       go_simp
       with_reducible rfl
      rotate_left
      ·simp only [Act.put, List.setIfInBounds_toArray, List.set_cons_zero, List.set_cons_succ, i64_w, i32_w]
       rfl
     refine take_ (i := 11) (N := some 41) (v := ?_) (a' := ?_) (bs 14 4095) rfl rfl (take_ofW HT_.out HW_.out (by kernel_rfl)) (fun _ _ _ h => h) (Or.inl ⟨by rfl, ?_⟩) hHeld ?_ ?_
     rotate_left
     ·intro w' s
      have s0 := pw_cell_below s g0
      have s1 := pw_cell_below s x0
      have s2 := pw_cell_below s y0
      have s3 := pw_cell_below s y1
      go_simp
      with_reducible rfl
     rotate_left
     ·simp only [Act.put, List.setIfInBounds_toArray, List.set_cons_zero, List.set_cons_succ, i64_w, i32_w]
      rfl
     refine take_ (i := 12) (N := some 42) (v := ?_) (a' := ?_) (bs 14 8191) rfl rfl (take_ofW HT_.out HW_.out (by kernel_rfl)) (fun _ _ _ h => h) (Or.inl ⟨by rfl, ?_⟩) hHeld ?_ ?_
     rotate_left
     ·intro w' s
      go_simp
      with_reducible rfl
     rotate_left
     ·simp only [Act.put, List.setIfInBounds_toArray, List.set_cons_zero, List.set_cons_succ, i64_w, i32_w]
      rfl
     refine last_ (i := 13) (N := none) (bs 14 16383) rfl rfl (one_of HT_.out (by kernel_rfl)) (by decide) (fun K hK => ?_)
     have hRd := Kd.R_below HRK.out hHeld
     obtain ⟨cl, hcl, hcM, hcc, hfr⟩ := Kd.R_elem hRd z27 (k : Int) (by omega) (by have := HLEN.out; omega)
     obtain rfl := k27_openM hcM
     have hput := Kd.R_seg hRd (k : Int) (by omega) (by have := HLEN.out; omega) (seg := [.int .i64 (mkDocs (i : Int) k).f0, .string (mkDocs (i : Int) k).f1]) (j := 0) hcl hcc (show 2 ≤ 2 from by decide) (x' := mkDocs (i : Int) k) (k27_mkM _ _ _ (mkDocs (i : Int) k)) (fun _ hk => hk)
     have z0 := hcc 0 _ rfl
     have z1 := hcc 1 _ rfl
     have z2 := hfr 0
     have z3 := hfr 1
     rw [Int.toNat_natCast, show (k27).sz = 2 from rfl] at z0 z1 z2 z3 hput
     rw [Nat.add_zero] at z0 z2 hput
     simp only [World.setCells] at hput
     have z1d : wr.cell? ⟨g, k * 2 + 1, none⟩ = _ := z1
     have z3d : wr.frozen? ⟨g, k * 2 + 1, none⟩ = false := z3
     have HBd := Aside0.mk hHeld
     clear hcl hcM hcc hfr
     obtain ⟨w2, hw2⟩ : ∃ x, World.setCell (World.setCell wr.drew ⟨g, k * 2, none⟩ (.int .i64 (mkDocs (i : Int) k).f0)) ⟨g, k * 2 + 1, none⟩ (.string (mkDocs (i : Int) k).f1) = x := ⟨_, rfl⟩
     refine skip_ (w1 := World.setCell (World.setCell wr.drew ⟨g, k * 2, none⟩ (.int .i64 (mkDocs (i : Int) k).f0)) ⟨g, k * 2 + 1, none⟩ (.string (mkDocs (i : Int) k).f1)) (by rfl) rfl (by first | (go_simp; done) | (go_simp; rfl)) (hK.out _ _ ?_)
     rw [hw2] at hput ⊢
     have HR2 := Aside0.mk hput.1
     have HP2 := Aside0.mk hput.2
     clear hRd hput z0 z1 z2 z3 z1d z3d hw2 hHeld g0 x0 y0 y1
     clear hK K
     refine done_ (done_of HT_.out (by kernel_rfl)) ?_
     have HGn : Aside0 (w1.grownBy w2 (Value.slice Ai m ci).ownBlock) := ⟨by rw [HAI.out]; rw [HAI.out] at HG; exact World.grownBy.trans HG.out (World.grownBy.trans (grown_of_below HBd.out _) HP2.out)⟩
     have HRn : Aside0 (Kd.R k27 27 w2 base (fun _ => True) (.slice Ai m ci) (marksOf mkDocs (i : Int) 0 (k + 1) ++ xs.drop (k + 1))) := ⟨by rw [HAI.out, ← HLEN.out, ← HSET.out]; exact HR2.out⟩
     go_wp2_with fail
     go_roundw
     case rel => exact ⟨k + 1, by omega, by go_num, HGn, HRn⟩
     case measure => simp [intOf]; omega
    ·obtain rfl : k = m := by omega
     have d1 : decide ((k : Int) < (k : Int)) = false := decide_eq_false (by omega)
     have hfin : marksOf mkDocs (i : Int) 0 k ++ xs.drop k = marksOf mkDocs (i : Int) 0 k := by rw [List.drop_eq_nil_of_le (by rw [HM.out]; exact Nat.le_refl _), List.append_nil]
     have hRn : ∀ j, (h : j < us.length) → Kd.R k27 27 wr base (fun _ => True) us[j] (if j < i + 1 then marksOf mkDocs (j : Int) 0 (xss.getD j []).length else xss.getD j []) := by
      intro j hj
      by_cases e : j = i
      ·subst e
       rw [if_pos (by omega), HXS.out, HM.out, HUI.out, HM.out, ← hfin]
       exact HRk.out
      ·have h1 := HRr.out j hj
       have h2 : Kd.R k27 27 wr base (fun _ => True) us[j] (if j < i then marksOf mkDocs (j : Int) 0 (xss.getD j []).length else xss.getD j []) :=
        Kd.R_grown2 (Kd.R_below h1 HB1.out) rfl HG.out (fun q hq he => HSEP.out i j hiu hj (fun e' => e e'.symm) q (by rw [← HOWN.out]; exact hq) he.symm)
       by_cases e2 : j < i
       ·rw [if_pos (by omega)]; rw [if_pos e2] at h2; exact h2
       ·rw [if_neg (by omega)]; rw [if_neg e2] at h2; exact h2
     have HRN := Aside0.mk hRn
     clear hRn hfin
     go_wp2_with fail
     go_roundw
     case rel => exact ⟨i + 1, by omega, by go_num, HPk, HRN⟩
     case measure => simp [intOf]; omega
  ·obtain rfl : i = n := by omega
   have c1 : decide ((i : Int) < (i : Int)) = false := decide_eq_false (by omega)
   go_wp2_with fail
   go_end0
   refine ⟨rfl, HP.out, fun j h => ?_⟩
   have hj := HRr.out j h
   rw [if_pos (by rw [← HNN.out]; exact h)] at hj
   exact hj
end Go.Proofs.YtibhenengpdahaaGreat.P
