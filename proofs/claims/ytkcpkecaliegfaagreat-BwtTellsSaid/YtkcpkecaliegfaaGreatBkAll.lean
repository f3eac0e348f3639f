/- What Book's functions do to the lists of one kind that it keeps (Ints). Conditions: the lists are few and small, and the book's rows lie as told. (Printed by genk.py.) -/
import Derived.Test.YtkcpkecaliegfaaGreatBkIn
import Derived.Test.YtkcpkecaliegfaaGreatBkTextsP
import Derived.Test.YtkcpkecaliegfaaGreatP0
section
set_option linter.unusedVariables false
set_option linter.unusedSimpArgs false
namespace Go.Proofs.YtkcpkecaliegfaaGreat.P
open Go.RowKit Go.Proofs.YtkcpkecaliegfaaGreatW.PrintWords Go.Proofs.YtkcpkecaliegfaaGreatW.PrintLast Go.Proofs.YtkcpkecaliegfaaGreatW.PrintMore

def stillInts.T4 : Bool × List (List Nat × List Nat) := (true, [([], []), ([0], [0]), ([1], [1]), ([2], [2]), ([], []), ([3, 4], [3, 4]), ([5], [5]), ([], []), ([7], [7]), ([8], [8]), ([9], [9]), ([], []), ([10, 11], [10, 11]), ([12], [12]), ([6, 13], [6, 13]), ([14], [14])])
def stillInts.B4 : List Nat := [0, 1, 3, 7, 0, 31, 63, 0, 128, 384, 896, 0, 3968, 8064, 16383, 32767]
theorem stillInts.tab4 : rtab .any (opsOf Tryz.f42 4) = stillInts.T4 := by kernel_rfl
theorem stillInts.bits4 : waitsOk stillInts.T4.2 stillInts.B4 = true := by kernel_rfl
def putInts.T7 : Bool × List (List Nat × List Nat) := (true, [([], []), ([0], [0]), ([1], [1]), ([2], [2]), ([], []), ([3, 4], [3, 4]), ([5], [5]), ([], []), ([], []), ([], []), ([8, 9], [8, 9]), ([10], [10]), ([6, 7, 0, 1, 2, 3, 4, 5, 6, 7, 8, 9, 10, 11], [6, 7]), ([12, 11, 0, 1, 2, 3, 4, 5, 6, 7, 8, 9, 10, 11], [11, 12])])
def putInts.B7 : List Nat := [0, 1, 3, 7, 0, 31, 63, 0, 0, 0, 768, 1792, 4095, 8191]
theorem putInts.tab7 : rtab .any (opsOf Tryz.f51 7) = putInts.T7 := by kernel_rfl
theorem putInts.bits7 : waitsOk putInts.T7.2 putInts.B7 = true := by kernel_rfl
set_option maxRecDepth 100000 in
set_option maxHeartbeats 4000000 in
theorem stillInts_calls (bk : Nat) (A A' : Option Addr) (c c' : Nat) (us us' : List Value) (xss : List (List Int)) (w : World) (h0 : w.cell? ⟨bk, 0, none⟩ = some (.slice A us.length c)) (h1 : w.cell? ⟨bk, 1, none⟩ = some (.slice A' us.length c')) (hl : us.length ≤ 1000)
  (hA : Lists w A us) (hA' : Lists w A' us') (hn : us'.length = us.length) (hx : xss.length = us.length) (hr : ∀ i, (h : i < us.length) → ReadsD (Kd.int .i64) w us[i] (xss.getD i [])) (hr' : ∀ i, (h : i < us'.length) → ReadsD (Kd.int .i64) w us'[i] (xss.getD i [])) (hs : ∀ i, (xss.getD i []).length ≤ 1000000) :
  Calls Tryz.prog 42 #[.pointer (some ⟨bk, 0, none⟩)] w fun e w' => e = .returned (.bool true) ∧ Below w.heap.size w w' := by
 have H0 := Aside0.mk h0
 have H1 := Aside0.mk h1
 have HA := Aside0.mk hA
 have HA' := Aside0.mk hA'
 have HR := Aside0.mk hr
 have HR' := Aside0.mk hr'
 have HS := Aside0.mk hs
 have HL := Aside0.mk hl
 have HN := Aside0.mk hn
 obtain ⟨n, hnn⟩ : ∃ n, us.length = n := ⟨_, rfl⟩
 have HNN := Aside0.mk hnn
 rw [hnn] at H0 H1
 clear h0 h1 hA hA' hr hr' hs hl hn hx hnn
 go_enter Tryz.func42, Tryz.ntmps42
 go_wp2_with fail
 go_loopw [3] (fun iv wr => ∃ i : Nat, i ≤ n ∧ iv = .int .i64 i ∧ Aside0 (Below w.heap.size w wr)) (fun iv _ => n - (intOf iv).toNat)
 case atStart => exact ⟨0, Nat.zero_le _, rfl, ⟨Below.refl _ _⟩⟩
 case round =>
  obtain ⟨i, hi, rfl, HB⟩ := hrel
  have g0 := pw_cell_below HB.out H0.out
  by_cases hlt : i < n
  ·have c1 : decide ((i : Int) < (n : Int)) = true := decide_eq_true (by omega)
   have c2 : decide (i < n) = true := decide_eq_true hlt
   have v1 : (0 ≤ (i : Int)) = True := eq_true (by omega)
   have v2 : ((i : Int) < (n : Int)) = True := eq_true (by omega)
   have v3 : IntKind.i64.wrap ((i : Int) + 1) = (i : Int) + 1 := IntWalk.i64_in _ (by have := HL.out; have := HNN.out; omega)
   have g1 := pw_cell_below HB.out H1.out
   obtain ⟨ad, hAe, x0⟩ := (HA.out.below HB.out).at_ i (by rw [HNN.out]; exact hlt)
   obtain ⟨ad', hAe', x1⟩ := (HA'.out.below HB.out).at_ i (by rw [HN.out, HNN.out]; exact hlt)
   obtain ⟨a, k, hu, hk, hC⟩ := (HR.out i (by rw [HNN.out]; exact hlt)).below HB.out
   obtain ⟨a', k', hu', hk', hC'⟩ := (HR'.out i (by rw [HN.out, HNN.out]; exact hlt)).below HB.out
   rw [hu] at x0
   rw [hu'] at x1
   have hsm := HS.out i
   obtain ⟨xs, hxs⟩ : ∃ q, xss.getD i [] = q := ⟨_, rfl⟩
   rw [hxs] at x0 x1 hk hk' hC hC' hsm
   have SM := Aside0.mk (fun w' (hb : Below wr.heap.size wr w') => sameInts_calls a a' k k' xs w' (Kd.C_below hC hb) (Kd.C_below hC' hb) hk hk' hsm)
   subst hAe hAe'
   clear hu hu' hC hC' hk hk' hxs hsm
   go_wp2_with fail
   refine start_ (n := 16) (S := fun w' => Below wr.heap.size wr w') (ds := []) #[false, false, false, false, false, false, false, false, false, false, false, false, false, false, false, false] (by kernel_rfl) rfl rfl (below_drew1 (Below.refl _ _)) (fun hHeld => ?_)
   refine with_tabW stillInts.tab4 stillInts.bits4 (fun HT_ HW_ => ?_)
   refine take_ (i := 0) (N := some 13) (v := ?_) (a' := ?_) #[true, false, false, false, false, false, false, false, false, false, false, false, false, false, false, false] rfl rfl (take_ofW HT_.out HW_.out (by kernel_rfl)) (fun _ _ _ h => h) (Or.inl ⟨by rfl, ?_⟩) hHeld ?_ ?_
   rotate_left
   ·intro w' s
    go_simp
    with_reducible rfl
   rotate_left
   ·simp only [Act.put, List.setIfInBounds_toArray, List.set_cons_zero, List.set_cons_succ, i64_w, i32_w]
    rfl
   refine take_ (i := 1) (N := some 14) (v := ?_) (a' := ?_) #[true, true, false, false, false, false, false, false, false, false, false, false, false, false, false, false] rfl rfl (take_ofW HT_.out HW_.out (by kernel_rfl)) (fun _ _ _ h => h) (Or.inl ⟨by rfl, ?_⟩) hHeld ?_ ?_
   rotate_left
   ·intro w' s
    go_simp
    with_reducible rfl
   rotate_left
   ·simp only [Act.put, List.setIfInBounds_toArray, List.set_cons_zero, List.set_cons_succ, i64_w, i32_w]
    rfl
   refine take_ (i := 2) (N := some 15) (v := ?_) (a' := ?_) #[true, true, true, false, false, false, false, false, false, false, false, false, false, false, false, false] rfl rfl (take_ofW HT_.out HW_.out (by kernel_rfl)) (fun _ _ _ h => h) (Or.inl ⟨by rfl, ?_⟩) hHeld ?_ ?_
   rotate_left
   ·intro w' s
    go_simp
    with_reducible rfl
   rotate_left
   ·simp only [Act.put, List.setIfInBounds_toArray, List.set_cons_zero, List.set_cons_succ, i64_w, i32_w]
    rfl
   refine take_ (i := 3) (N := some 16) (v := ?_) (a' := ?_) #[true, true, true, true, false, false, false, false, false, false, false, false, false, false, false, false] rfl rfl (take_ofW HT_.out HW_.out (by kernel_rfl)) (fun _ _ _ h => h) (Or.inl ⟨by rfl, ?_⟩) hHeld ?_ ?_
   rotate_left
   ·intro w' s
    have s0 := pw_cell_below s g0
    have s1 := pw_cell_below s g1
    have s2 := pw_cell_below s x0
    have s3 := pw_cell_below s x1
    go_simp
    with_reducible rfl
   rotate_left
   ·simp only [Act.put, List.setIfInBounds_toArray, List.set_cons_zero, List.set_cons_succ, i64_w, i32_w]
    rfl
   refine take_ (i := 4) (N := some 17) (v := ?_) (a' := ?_) #[true, true, true, true, true, false, false, false, false, false, false, false, false, false, false, false] rfl rfl (take_ofW HT_.out HW_.out (by kernel_rfl)) (fun _ _ _ h => h) (Or.inl ⟨by rfl, ?_⟩) hHeld ?_ ?_
   rotate_left
   ·intro w' s
    go_simp
    with_reducible rfl
   rotate_left
   ·simp only [Act.put, List.setIfInBounds_toArray, List.set_cons_zero, List.set_cons_succ, i64_w, i32_w]
    rfl
   refine take_ (i := 5) (N := some 18) (v := ?_) (a' := ?_) #[true, true, true, true, true, true, false, false, false, false, false, false, false, false, false, false] rfl rfl (take_ofW HT_.out HW_.out (by kernel_rfl)) (fun _ _ _ h => h) (Or.inl ⟨by rfl, ?_⟩) hHeld ?_ ?_
   rotate_left
   ·intro w' s
    go_simp
    with_reducible rfl
   rotate_left
   ·simp only [Act.put, List.setIfInBounds_toArray, List.set_cons_zero, List.set_cons_succ, i64_w, i32_w]
    rfl
   refine take_ (i := 6) (N := some 19) (v := ?_) (a' := ?_) #[true, true, true, true, true, true, true, false, false, false, false, false, false, false, false, false] rfl rfl (take_ofW HT_.out HW_.out (by kernel_rfl)) (fun _ _ _ h => h) (Or.inl ⟨by rfl, ?_⟩) hHeld ?_ ?_
   rotate_left
   ·intro w' s
    have s0 := pw_cell_below s g0
    have s1 := pw_cell_below s g1
    have s2 := pw_cell_below s x0
    have s3 := pw_cell_below s x1
    go_simp
    with_reducible rfl
   rotate_left
   ·simp only [Act.put, List.setIfInBounds_toArray, List.set_cons_zero, List.set_cons_succ, i64_w, i32_w]
    rfl
   refine take_ (i := 7) (N := some 20) (v := ?_) (a' := ?_) #[true, true, true, true, true, true, true, true, false, false, false, false, false, false, false, false] rfl rfl (take_ofW HT_.out HW_.out (by kernel_rfl)) (fun _ _ _ h => h) (Or.inl ⟨by rfl, ?_⟩) hHeld ?_ ?_
   rotate_left
   ·intro w' s
    go_simp
    with_reducible rfl
   rotate_left
   ·simp only [Act.put, List.setIfInBounds_toArray, List.set_cons_zero, List.set_cons_succ, i64_w, i32_w]
    rfl
   refine take_ (i := 8) (N := some 21) (v := ?_) (a' := ?_) #[true, true, true, true, true, true, true, true, true, false, false, false, false, false, false, false] rfl rfl (take_ofW HT_.out HW_.out (by kernel_rfl)) (fun _ _ _ h => h) (Or.inl ⟨by rfl, ?_⟩) hHeld ?_ ?_
   rotate_left
   ·intro w' s
    go_simp
    with_reducible rfl
   rotate_left
   ·simp only [Act.put, List.setIfInBounds_toArray, List.set_cons_zero, List.set_cons_succ, i64_w, i32_w]
    rfl
   refine take_ (i := 9) (N := some 22) (v := ?_) (a' := ?_) #[true, true, true, true, true, true, true, true, true, true, false, false, false, false, false, false] rfl rfl (take_ofW HT_.out HW_.out (by kernel_rfl)) (fun _ _ _ h => h) (Or.inl ⟨by rfl, ?_⟩) hHeld ?_ ?_
   rotate_left
   ·intro w' s
    go_simp
    with_reducible rfl
   rotate_left
   ·simp only [Act.put, List.setIfInBounds_toArray, List.set_cons_zero, List.set_cons_succ, i64_w, i32_w]
    rfl
   refine take_ (i := 10) (N := some 23) (v := ?_) (a' := ?_) #[true, true, true, true, true, true, true, true, true, true, true, false, false, false, false, false] rfl rfl (take_ofW HT_.out HW_.out (by kernel_rfl)) (fun _ _ _ h => h) (Or.inl ⟨by rfl, ?_⟩) hHeld ?_ ?_
   rotate_left
   ·intro w' s
    have s0 := pw_cell_below s g0
    have s1 := pw_cell_below s g1
    have s2 := pw_cell_below s x0
    have s3 := pw_cell_below s x1
    go_simp
    with_reducible rfl
   rotate_left
   ·simp only [Act.put, List.setIfInBounds_toArray, List.set_cons_zero, List.set_cons_succ, i64_w, i32_w]
    rfl
   refine take_ (i := 11) (N := some 24) (v := ?_) (a' := ?_) #[true, true, true, true, true, true, true, true, true, true, true, true, false, false, false, false] rfl rfl (take_ofW HT_.out HW_.out (by kernel_rfl)) (fun _ _ _ h => h) (Or.inl ⟨by rfl, ?_⟩) hHeld ?_ ?_
   rotate_left
   ·intro w' s
    go_simp
    with_reducible rfl
   rotate_left
   ·simp only [Act.put, List.setIfInBounds_toArray, List.set_cons_zero, List.set_cons_succ, i64_w, i32_w]
    rfl
   refine take_ (i := 12) (N := some 25) (v := ?_) (a' := ?_) #[true, true, true, true, true, true, true, true, true, true, true, true, true, false, false, false] rfl rfl (take_ofW HT_.out HW_.out (by kernel_rfl)) (fun _ _ _ h => h) (Or.inl ⟨by rfl, ?_⟩) hHeld ?_ ?_
   rotate_left
   ·intro w' s
    go_simp
    with_reducible rfl
   rotate_left
   ·simp only [Act.put, List.setIfInBounds_toArray, List.set_cons_zero, List.set_cons_succ, i64_w, i32_w]
    rfl
   refine take_ (i := 13) (N := some 26) (v := ?_) (a' := ?_) #[true, true, true, true, true, true, true, true, true, true, true, true, true, true, false, false] rfl rfl (take_ofW HT_.out HW_.out (by kernel_rfl)) (fun _ _ _ h => h) (Or.inl ⟨by rfl, ?_⟩) hHeld ?_ ?_
   rotate_left
   ·intro w' s
    have s0 := pw_cell_below s g0
    have s1 := pw_cell_below s g1
    have s2 := pw_cell_below s x0
    have s3 := pw_cell_below s x1
    go_simp
    with_reducible rfl
   rotate_left
   ·simp only [Act.put, List.setIfInBounds_toArray, List.set_cons_zero, List.set_cons_succ, i64_w, i32_w]
    rfl
   refine one_ (i := 14) (N := some 27) #[true, true, true, true, true, true, true, true, true, true, true, true, true, true, true, false] rfl rfl (one_of HT_.out (by kernel_rfl)) (by decide) (fun K hK => ?_)
   refine goes_ Tryz.func41 (by kernel_rfl) rfl #[.slice a xs.length k, .slice a' xs.length k'] (by rfl) rfl rfl (by (try simp only [List.map_toArray, List.map_cons, List.map_nil]); first | done | rfl | (simp only [List.length_drop, List.length_take]; rfl)) ?_
   refine (SM.out _ hHeld).mono ?_
   rintro en w8 ⟨rfl, hb⟩
   refine ⟨_, rfl, ?_⟩
   have hS8 := below_step hHeld hb
   refine hK.out _ _ hS8 (fun hHeld => ?_)
   clear hK K
   refine norm_ (a' := ?_) ?_ ?_
   rotate_left
   ·show Act.put _ (some 27) _ = _
    simp only [Act.put, List.setIfInBounds_toArray, List.set_cons_zero, List.set_cons_succ, i64_w, i32_w]
    rfl
   refine take_ (i := 15) (N := some 28) (v := ?_) (a' := ?_) #[true, true, true, true, true, true, true, true, true, true, true, true, true, true, true, true] rfl rfl (take_ofW HT_.out HW_.out (by kernel_rfl)) (fun _ _ _ h => h) (Or.inl ⟨by rfl, ?_⟩) hHeld ?_ ?_
   rotate_left
   ·intro w' s
    go_simp
    with_reducible rfl
   rotate_left
   ·simp only [Act.put, List.setIfInBounds_toArray, List.set_cons_zero, List.set_cons_succ, i64_w, i32_w]
    rfl
   refine done_ (done_of HT_.out (by kernel_rfl)) ?_
   have HBn := Aside0.mk (below_step HB.out hHeld)
   clear hHeld g0 g1 x0 x1
   go_wp2_with fail
   go_roundw
   case rel => exact ⟨i + 1, by omega, by go_num, HBn⟩
   case measure => simp [intOf]; omega
  ·obtain rfl : i = n := by omega
   have c1 : decide ((i : Int) < (i : Int)) = false := decide_eq_false (by omega)
   go_wp2_with fail
   go_ret
   exact ⟨rfl, HB.out⟩
set_option maxRecDepth 100000 in
set_option maxHeartbeats 4000000 in
theorem putInts_calls (bk : Nat) (A : Option Addr) (c : Nat) (us : List Value) (xss : List (List Int)) (base : Nat) (w : World) (h0 : w.cell? ⟨bk, 0, none⟩ = some (.slice A us.length c)) (hl : us.length ≤ 1000)
  (hA : Lists w A us) (hR : ∀ i, (h : i < us.length) → Kd.R (Kd.int .i64) 3 w base (fun _ => True) us[i] (xss.getD i [])) (hsep : ∀ i j, (hi : i < us.length) → (hj : j < us.length) → i ≠ j → ∀ k, us[i].ownBlock = some k → us[j].ownBlock ≠ some k)
  (hbk : ∀ i, (h : i < us.length) → us[i].ownBlock ≠ some bk) (hrow : ∀ i, (h : i < us.length) → ∀ ad, A = some ad → us[i].ownBlock ≠ some ad.block) (hs : ∀ i, (xss.getD i []).length ≤ 1000000) :
  Calls Tryz.prog 51 #[.pointer (some ⟨bk, 0, none⟩)] w fun e w' => e = .returned (.tuple #[]) ∧ PutKeep us w w' ∧
   ∀ i, (h : i < us.length) → Kd.R (Kd.int .i64) 3 w' base (fun _ => True) us[i] (marksOf mkInts (i : Int) 0 (xss.getD i []).length) := by
 have H0 := Aside0.mk h0
 have HA := Aside0.mk hA
 have HR := Aside0.mk hR
 have HSEP := Aside0.mk hsep
 have HBK := Aside0.mk hbk
 have HROW := Aside0.mk hrow
 have HS := Aside0.mk hs
 have HL := Aside0.mk hl
 obtain ⟨n, hnn⟩ : ∃ n, us.length = n := ⟨_, rfl⟩
 have HNN := Aside0.mk hnn
 rw [hnn] at H0
 clear h0 hA hR hsep hbk hrow hs hl hnn
 go_enter Tryz.func51, Tryz.ntmps51
 go_wp2_with fail
 go_loopw [2] (fun iv wr => ∃ i : Nat, i ≤ n ∧ iv = .int .i64 i ∧ Aside0 (PutKeep us w wr) ∧ Aside0 (∀ j, (h : j < us.length) → Kd.R (Kd.int .i64) 3 wr base (fun _ => True) us[j] (if j < i then marksOf mkInts (j : Int) 0 (xss.getD j []).length else xss.getD j []))) (fun iv _ => n - (intOf iv).toNat)
 case atStart => exact ⟨0, Nat.zero_le _, rfl, ⟨PutKeep.refl _ _⟩, ⟨fun j h => by rw [if_neg (by omega)]; exact HR.out j h⟩⟩
 case round =>
  obtain ⟨i, hi, rfl, HP, HRr⟩ := hrel
  have g0 := HP.out.cell (a := ⟨bk, 0, none⟩) HBK.out H0.out
  by_cases hlt : i < n
  ·have hiu : i < us.length := by rw [HNN.out]; exact hlt
   have c1 : decide ((i : Int) < (n : Int)) = true := decide_eq_true (by omega)
   have c2 : decide (i < n) = true := decide_eq_true hlt
   have v1 : (0 ≤ (i : Int)) = True := eq_true (by omega)
   have v2 : ((i : Int) < (n : Int)) = True := eq_true (by omega)
   have v3 : IntKind.i64.wrap ((i : Int) + 1) = (i : Int) + 1 := IntWalk.i64_in _ (by have := HL.out; have := HNN.out; omega)
   obtain ⟨ad, hAe, x0⟩ := HA.out.at_ i hiu
   have hra : ∀ j, (h : j < us.length) → us[j].ownBlock ≠ some (ad.add i).block := by
    intro j h
    have : (ad.add i).block = ad.block := by unfold Addr.add; split <;> rfl
    rw [this]
    exact HROW.out j h ad hAe
   have HRA := Aside0.mk hra
   have HX0 := Aside0.mk x0
   have x0 := HP.out.cell (a := ad.add i) hra x0
   have hRi := HRr.out i hiu
   rw [if_neg (by omega)] at hRi
   obtain ⟨xs, hxs⟩ : ∃ q, xss.getD i [] = q := ⟨_, rfl⟩
   have hsm := HS.out i
   have HXS := Aside0.mk hxs
   rw [hxs] at hRi hsm
   obtain ⟨Ai, ci, hui⟩ := Kd.R_slice hRi
   have HUI := Aside0.mk hui
   rw [hui] at x0 hRi
   have HRi := Aside0.mk hRi
   obtain ⟨m, hm⟩ : ∃ m, xs.length = m := ⟨_, rfl⟩
   have HM := Aside0.mk hm
   rw [hm] at x0 hsm
   have MK := Aside0.mk (markInts_calls i 0 m wr (by have := HL.out; have := HNN.out; omega) (by omega))
   have HSM := Aside0.mk hsm
   subst hAe
   clear hra hxs hui hRi hm hsm
   go_wp2_with fail
   refine MK.out.mono ?_
   rintro en w1 ⟨v3, rfl, hR3, hb1⟩
   obtain ⟨A3, c3, rfl⟩ := Kd.R_slice hR3
   rw [marks_len] at hR3
   have HR3 := Aside0.mk hR3
   have HB1 := Aside0.mk hb1
   rw [marks_len]
   clear hR3 hb1 MK g0 x0
   go_wp2_with fail
   have HU1 : Aside0 (Kd.R (Kd.int .i64) 3 w1 base (fun _ => True) (.slice Ai m ci) (marksOf mkInts (i : Int) 0 0 ++ xs.drop 0)) := ⟨by rw [show marksOf mkInts (i : Int) 0 0 ++ xs.drop 0 = xs from rfl]; have h := HRi.out; rw [HM.out] at h; exact Kd.R_below h HB1.out⟩
   have HG1 : Aside0 (w1.grownBy w1 (Value.slice Ai m ci).ownBlock) := ⟨World.grownBy.refl _ _⟩
   have hown : (Value.slice Ai m ci).ownBlock = us[i].ownBlock := by rw [HUI.out, HM.out]
   have HOWN := Aside0.mk hown
   have HP1 := Aside0.mk (HP.out.below HB1.out)
   clear hown
   go_loopw [4] (fun iv wr => ∃ k : Nat, k ≤ m ∧ iv = .int .i64 k ∧ Aside0 (w1.grownBy wr (Value.slice Ai m ci).ownBlock) ∧ Aside0 (Kd.R (Kd.int .i64) 3 wr base (fun _ => True) (.slice Ai m ci) (marksOf mkInts (i : Int) 0 k ++ xs.drop k))) (fun iv _ => m - (intOf iv).toNat)
   case atStart => exact ⟨0, Nat.zero_le _, rfl, HG1, HU1⟩
   case round =>
    obtain ⟨k, hk, rfl, HG, HRk⟩ := hrel
    have HPk := Aside0.mk (HP1.out.grown i hiu (by rw [← HOWN.out]; exact HG.out))
    by_cases hkm : k < m
    ·have d1 : decide ((k : Int) < (m : Int)) = true := decide_eq_true (by omega)
     have d2 : decide (k < m) = true := decide_eq_true hkm
     have d3 : (0 ≤ (k : Int)) = True := eq_true (by omega)
     have d4 : ((k : Int) < (m : Int)) = True := eq_true (by omega)
     have d5 : IntKind.i64.wrap ((k : Int) + 1) = (k : Int) + 1 := IntWalk.i64_in _ (by have := HSM.out; omega)
     have g0 := HPk.out.cell (a := ⟨bk, 0, none⟩) HBK.out H0.out
     have x0 := HPk.out.cell (a := ad.add i) HRA.out HX0.out
     rw [HUI.out, HM.out] at x0
     obtain ⟨L, hL⟩ : ∃ L, marksOf mkInts (i : Int) 0 k ++ xs.drop k = L := ⟨_, rfl⟩
     have hlen : L.length = m := by rw [← hL, List.length_append, marks_len, List.length_drop, HM.out]; omega
     have hset : L.set k (mkInts (i : Int) k) = marksOf mkInts (i : Int) 0 (k + 1) ++ xs.drop (k + 1) := by rw [← hL]; exact marks_set _ _ _ _ (by rw [HM.out]; exact hkm)
     have hRk := HRk.out
     rw [hL, ← hlen] at hRk
     obtain ⟨g, cg, hform, _⟩ := Kd.R_form hRk (by omega)
     have hAi : Ai = some ⟨g, 0, none⟩ := by injection hform
     clear hform cg
     rw [hAi] at hRk
     have hR3 := Kd.R_grown2 HR3.out rfl HG.out (fun q hq he => by
      have h1 := Kd.R_base HR3.out q he.symm
      have h2 := Kd.R_lt HRi.out q (by rw [HM.out]; exact hq)
      omega)
     obtain ⟨ad3, hA3, y0⟩ := flat_at1 flatInts rfl rfl (0 : Int) (Kd.R_reads' hR3).2.2 k (by rw [marks_len]; omega)
     rw [marks_rd _ _ _ _ _ hkm] at y0
     have HRK := Aside0.mk hRk
     have HSET := Aside0.mk hset
     have HLEN := Aside0.mk hlen
     have HAI := Aside0.mk hAi
     rw [hAi] at x0
     clear hL hset hlen hRk hR3 hAi
     subst hA3
     go_wp2_with fail
     refine start_ (n := 14) (S := fun w' => Below wr.heap.size wr w') (ds := [13]) #[false, false, false, false, false, false, false, false, false, false, false, false, false, false] (by kernel_rfl) rfl rfl (below_drew1 (Below.refl _ _)) (fun hHeld => ?_)
     refine with_tabW putInts.tab7 putInts.bits7 (fun HT_ HW_ => ?_)
     refine take_ (i := 0) (N := some 30) (v := ?_) (a' := ?_) #[true, false, false, false, false, false, false, false, false, false, false, false, false, false] rfl rfl (take_ofW HT_.out HW_.out (by kernel_rfl)) (fun _ _ _ h => h) (Or.inl ⟨by rfl, ?_⟩) hHeld ?_ ?_
     rotate_left
     ·intro w' s
      go_simp
      with_reducible rfl
     rotate_left
     ·simp only [Act.put, List.setIfInBounds_toArray, List.set_cons_zero, List.set_cons_succ, i64_w, i32_w]
      rfl
     refine take_ (i := 1) (N := some 31) (v := ?_) (a' := ?_) #[true, true, false, false, false, false, false, false, false, false, false, false, false, false] rfl rfl (take_ofW HT_.out HW_.out (by kernel_rfl)) (fun _ _ _ h => h) (Or.inl ⟨by rfl, ?_⟩) hHeld ?_ ?_
     rotate_left
     ·intro w' s
      go_simp
      with_reducible rfl
     rotate_left
     ·simp only [Act.put, List.setIfInBounds_toArray, List.set_cons_zero, List.set_cons_succ, i64_w, i32_w]
      rfl
     refine take_ (i := 2) (N := some 32) (v := ?_) (a' := ?_) #[true, true, true, false, false, false, false, false, false, false, false, false, false, false] rfl rfl (take_ofW HT_.out HW_.out (by kernel_rfl)) (fun _ _ _ h => h) (Or.inl ⟨by rfl, ?_⟩) hHeld ?_ ?_
     rotate_left
     ·intro w' s
      go_simp
      with_reducible rfl
     rotate_left
     ·simp only [Act.put, List.setIfInBounds_toArray, List.set_cons_zero, List.set_cons_succ, i64_w, i32_w]
      rfl
     refine take_ (i := 3) (N := some 33) (v := ?_) (a' := ?_) #[true, true, true, true, false, false, false, false, false, false, false, false, false, false] rfl rfl (take_ofW HT_.out HW_.out (by kernel_rfl)) (fun _ _ _ h => h) (Or.inl ⟨by rfl, ?_⟩) hHeld ?_ ?_
     rotate_left
     ·intro w' s
      have s0 := pw_cell_below s g0
      have s1 := pw_cell_below s x0
      have s2 := pw_cell_below s y0
      go_simp
      with_reducible rfl
     rotate_left
     ·simp only [Act.put, List.setIfInBounds_toArray, List.set_cons_zero, List.set_cons_succ, i64_w, i32_w]
      rfl
     refine take_ (i := 4) (N := some 34) (v := ?_) (a' := ?_) #[true, true, true, true, true, false, false, false, false, false, false, false, false, false] rfl rfl (take_ofW HT_.out HW_.out (by kernel_rfl)) (fun _ _ _ h => h) (Or.inl ⟨by rfl, ?_⟩) hHeld ?_ ?_
     rotate_left
     ·intro w' s
      go_simp
      with_reducible rfl
     rotate_left
     ·simp only [Act.put, List.setIfInBounds_toArray, List.set_cons_zero, List.set_cons_succ, i64_w, i32_w]
      rfl
     refine take_ (i := 5) (N := some 35) (v := ?_) (a' := ?_) #[true, true, true, true, true, true, false, false, false, false, false, false, false, false] rfl rfl (take_ofW HT_.out HW_.out (by kernel_rfl)) (fun _ _ _ h => h) (Or.inl ⟨by rfl, ?_⟩) hHeld ?_ ?_
     rotate_left
     ·intro w' s
      go_simp
      with_reducible rfl
     rotate_left
     ·simp only [Act.put, List.setIfInBounds_toArray, List.set_cons_zero, List.set_cons_succ, i64_w, i32_w]
      rfl
     refine take_ (i := 6) (N := some 36) (v := ?_) (a' := ?_) #[true, true, true, true, true, true, true, false, false, false, false, false, false, false] rfl rfl (take_ofW HT_.out HW_.out (by kernel_rfl)) (fun _ _ _ h => h) (Or.inl ⟨by rfl, ?_⟩) hHeld ?_ ?_
     rotate_left
     ·intro w' s
      have s0 := pw_cell_below s g0
      have s1 := pw_cell_below s x0
      have s2 := pw_cell_below s y0
      go_simp
      with_reducible rfl
     rotate_left
     ·simp only [Act.put, List.setIfInBounds_toArray, List.set_cons_zero, List.set_cons_succ, i64_w, i32_w]
      rfl
     refine take_ (i := 7) (N := some 37) (v := ?_) (a' := ?_) #[true, true, true, true, true, true, true, true, false, false, false, false, false, false] rfl rfl (take_ofW HT_.out HW_.out (by kernel_rfl)) (fun _ _ _ h => h) (Or.inl ⟨by rfl, ?_⟩) hHeld ?_ ?_
     rotate_left
     ·intro w' s
      go_simp
      with_reducible rfl
     rotate_left
     ·simp only [Act.put, List.setIfInBounds_toArray, List.set_cons_zero, List.set_cons_succ, i64_w, i32_w]
      rfl
     refine take_ (i := 8) (N := some 38) (v := ?_) (a' := ?_) #[true, true, true, true, true, true, true, true, true, false, false, false, false, false] rfl rfl (take_ofW HT_.out HW_.out (by kernel_rfl)) (fun _ _ _ h => h) (Or.inl ⟨by rfl, ?_⟩) hHeld ?_ ?_
     rotate_left
     ·intro w' s
      go_simp
      with_reducible rfl
     rotate_left
     ·simp only [Act.put, List.setIfInBounds_toArray, List.set_cons_zero, List.set_cons_succ, i64_w, i32_w]
      rfl
     refine take_ (i := 9) (N := some 39) (v := ?_) (a' := ?_) #[true, true, true, true, true, true, true, true, true, true, false, false, false, false] rfl rfl (take_ofW HT_.out HW_.out (by kernel_rfl)) (fun _ _ _ h => h) (Or.inl ⟨by rfl, ?_⟩) hHeld ?_ ?_
     rotate_left
     ·intro w' s
      go_simp
      with_reducible rfl
     rotate_left
     ·simp only [Act.put, List.setIfInBounds_toArray, List.set_cons_zero, List.set_cons_succ, i64_w, i32_w]
      rfl
     refine take_ (i := 10) (N := some 40) (v := ?_) (a' := ?_) #[true, true, true, true, true, true, true, true, true, true, true, false, false, false] rfl rfl (take_ofW HT_.out HW_.out (by kernel_rfl)) (fun _ _ _ h => h) (Or.inl ⟨by rfl, ?_⟩) hHeld ?_ ?_
     rotate_left
     ·intro w' s
      go_simp
      with_reducible rfl
     rotate_left
     ·simp only [Act.put, List.setIfInBounds_toArray, List.set_cons_zero, List.set_cons_succ, i64_w, i32_w]
      rfl
     refine take_ (i := 11) (N := some 41) (v := ?_) (a' := ?_) #[true, true, true, true, true, true, true, true, true, true, true, true, false, false] rfl rfl (take_ofW HT_.out HW_.out (by kernel_rfl)) (fun _ _ _ h => h) (Or.inl ⟨by rfl, ?_⟩) hHeld ?_ ?_
     rotate_left
     ·intro w' s
      have s0 := pw_cell_below s g0
      have s1 := pw_cell_below s x0
      have s2 := pw_cell_below s y0
      go_simp
      with_reducible rfl
     rotate_left
     ·simp only [Act.put, List.setIfInBounds_toArray, List.set_cons_zero, List.set_cons_succ, i64_w, i32_w]
      rfl
     refine take_ (i := 12) (N := some 42) (v := ?_) (a' := ?_) #[true, true, true, true, true, true, true, true, true, true, true, true, true, false] rfl rfl (take_ofW HT_.out HW_.out (by kernel_rfl)) (fun _ _ _ h => h) (Or.inl ⟨by rfl, ?_⟩) hHeld ?_ ?_
     rotate_left
     ·intro w' s
      go_simp
      with_reducible rfl
     rotate_left
     ·simp only [Act.put, List.setIfInBounds_toArray, List.set_cons_zero, List.set_cons_succ, i64_w, i32_w]
      rfl
     refine last_ (i := 13) (N := none) #[true, true, true, true, true, true, true, true, true, true, true, true, true, true] rfl rfl (one_of HT_.out (by kernel_rfl)) (by decide) (fun K hK => ?_)
     have hRd := Kd.R_below HRK.out hHeld
     obtain ⟨z0, z1⟩ := Kd.R_cell ((0 : Int)) hRd (k : Int) (by omega) (by have := HLEN.out; omega)
     have hput := Kd.R_put hRd (k : Int) (mkInts (i : Int) k)
     rw [Int.toNat_natCast] at z0 z1 hput
     have HBd := Aside0.mk hHeld
     obtain ⟨w2, hw2⟩ : ∃ x, World.setCell wr.drew ⟨g, k, none⟩ (.int .i64 (mkInts (i : Int) k)) = x := ⟨_, rfl⟩
     refine skip_ (w1 := World.setCell wr.drew ⟨g, k, none⟩ (.int .i64 (mkInts (i : Int) k))) (by rfl) rfl (by first | (go_simp; done) | (go_simp; rfl)) (hK.out _ _ ?_)
     rw [hw2] at hput ⊢
     have HR2 := Aside0.mk hput.1
     have HP2 := Aside0.mk hput.2
     clear hRd hput z0 z1 hw2 hHeld g0 x0 y0
     clear hK K
     refine done_ (done_of HT_.out (by kernel_rfl)) ?_
     have HGn : Aside0 (w1.grownBy w2 (Value.slice Ai m ci).ownBlock) := ⟨by rw [HAI.out]; rw [HAI.out] at HG; exact World.grownBy.trans HG.out (World.grownBy.trans (grown_of_below HBd.out _) HP2.out)⟩
     have HRn : Aside0 (Kd.R (Kd.int .i64) 3 w2 base (fun _ => True) (.slice Ai m ci) (marksOf mkInts (i : Int) 0 (k + 1) ++ xs.drop (k + 1))) := ⟨by rw [HAI.out, ← HLEN.out, ← HSET.out]; exact HR2.out⟩
     go_wp2_with fail
     go_roundw
     case rel => exact ⟨k + 1, by omega, by go_num, HGn, HRn⟩
     case measure => simp [intOf]; omega
    ·obtain rfl : k = m := by omega
     have d1 : decide ((k : Int) < (k : Int)) = false := decide_eq_false (by omega)
     have hfin : marksOf mkInts (i : Int) 0 k ++ xs.drop k = marksOf mkInts (i : Int) 0 k := by rw [List.drop_eq_nil_of_le (by rw [HM.out]; exact Nat.le_refl _), List.append_nil]
     have hRn : ∀ j, (h : j < us.length) → Kd.R (Kd.int .i64) 3 wr base (fun _ => True) us[j] (if j < i + 1 then marksOf mkInts (j : Int) 0 (xss.getD j []).length else xss.getD j []) := by
      intro j hj
      by_cases e : j = i
      ·subst e
       rw [if_pos (by omega), HXS.out, HM.out, HUI.out, HM.out, ← hfin]
       exact HRk.out
      ·have h1 := HRr.out j hj
       have h2 : Kd.R (Kd.int .i64) 3 wr base (fun _ => True) us[j] (if j < i then marksOf mkInts (j : Int) 0 (xss.getD j []).length else xss.getD j []) :=
        Kd.R_grown2 (Kd.R_below h1 HB1.out) rfl HG.out (fun q hq he => HSEP.out i j hiu hj (fun e' => e e'.symm) q (by rw [← HOWN.out]; exact hq) he.symm)
       by_cases e2 : j < i
       ·rw [if_pos (by omega)]; rw [if_pos e2] at h2; exact h2
       ·rw [if_neg (by omega)]; rw [if_neg e2] at h2; exact h2
     have HRN := Aside0.mk hRn
     clear hRn hfin
     go_wp2_with fail
     go_roundw
     case rel => exact ⟨i + 1, by omega, by go_num, HPk, HRN⟩
     case measure => simp [intOf]; omega
  ·obtain rfl : i = n := by omega
   have c1 : decide ((i : Int) < (i : Int)) = false := decide_eq_false (by omega)
   go_wp2_with fail
   go_end0
   refine ⟨rfl, HP.out, fun j h => ?_⟩
   have hj := HRr.out j h
   rw [if_pos (by rw [← HNN.out]; exact h)] at hj
   exact hj
end Go.Proofs.YtkcpkecaliegfaaGreat.P

end
section
set_option linter.unusedVariables false
set_option linter.unusedSimpArgs false
namespace Go.Proofs.YtkcpkecaliegfaaGreat.P
open Go.RowKit Go.Proofs.YtkcpkecaliegfaaGreatW.PrintWords Go.Proofs.YtkcpkecaliegfaaGreatW.PrintLast Go.Proofs.YtkcpkecaliegfaaGreatW.PrintMore

set_option maxRecDepth 100000 in
set_option maxHeartbeats 4000000 in
theorem growInts_calls (bk : Nat) (A : Option Addr) (c : Nat) (us : List Value) (ms : List Nat) (base : Nat) (w : World) (h0 : w.cell? ⟨bk, 0, none⟩ = some (.slice A us.length c)) (hl : us.length ≤ 1000)
  (hA : Lists w A us) (hR : ∀ i, (h : i < us.length) → Kd.R (Kd.int .i64) 3 w base (fun _ => True) us[i] (marksOf mkInts (i : Int) 0 (ms.getD i 0))) (hsep : ∀ i j, (hi : i < us.length) → (hj : j < us.length) → i ≠ j → ∀ k, us[i].ownBlock = some k → us[j].ownBlock ≠ some k)
  (hbk : ∀ i, (h : i < us.length) → us[i].ownBlock ≠ some bk) (hrow : ∀ i, (h : i < us.length) → ∀ ad, A = some ad → us[i].ownBlock ≠ some ad.block) (hs : ∀ i, ms.getD i 0 ≤ 900000) (hbase : base ≤ w.heap.size) :
  Calls Tryz.prog 58 #[.pointer (some ⟨bk, 0, none⟩)] w fun e w' => ∃ (Ag : Option Addr) (cg : Nat) (gs : List Value), e = .returned (.slice Ag us.length cg) ∧ gs.length = us.length ∧ Kd.R (Kd.raw 1) 22 w' base (fun _ => True) (.slice Ag us.length cg) (gs.map fun v => [v]) ∧
   (∀ i, (h : i < gs.length) → Kd.R (Kd.int .i64) 3 w' base (fun _ => True) gs[i] (marksOf mkInts (i : Int) 0 (ms.getD i 0 + 72))) ∧ (∀ i, (h : i < us.length) → Kd.R (Kd.int .i64) 3 w' base (fun _ => True) us[i] (marksOf mkInts (i : Int) 0 (ms.getD i 0))) ∧ PutKeep us w w' := by
 have H0 := Aside0.mk h0
 have HA := Aside0.mk hA
 have HSEP := Aside0.mk hsep
 have HBK := Aside0.mk hbk
 have HROW := Aside0.mk hrow
 have HS := Aside0.mk hs
 have HL := Aside0.mk hl
 have HBASE := Aside0.mk hbase
 have HLT := Aside0.mk (fun i h => Kd.R_lt (hR i h))
 have HR0 := Aside0.mk hR
 obtain ⟨n, hnn⟩ : ∃ n, us.length = n := ⟨_, rfl⟩
 have HNN := Aside0.mk hnn
 rw [hnn] at H0
 have HOut0 : Aside0 (Kd.R (Kd.raw 1) 22 w w.heap.size (fun _ => True) (.slice none 0 0) (([] : List Value).map fun v => [v])) := ⟨Kd.R_nil _ _ _ _ _⟩
 clear h0 hA hR hsep hbk hrow hs hl hnn hbase
 go_enter Tryz.func58, Tryz.ntmps58
 go_wp2_with fail
 go_loopw [3, 4] (fun out iv wr => ∃ gs : List Value, gs.length ≤ n ∧ iv = .int .i64 gs.length ∧ Aside0 (PutKeep us w wr) ∧ Aside0 (Kd.R (Kd.raw 1) 22 wr w.heap.size (fun _ => True) out (gs.map fun v => [v])) ∧
  Aside0 (∀ j, (h : j < us.length) → Kd.R (Kd.int .i64) 3 wr base (fun _ => True) us[j] (marksOf mkInts (j : Int) 0 (ms.getD j 0))) ∧
  Aside0 (∀ j, (h : j < gs.length) → (hu : j < us.length) → Kd.R (Kd.int .i64) 3 wr base (fun _ => True) gs[j] (marksOf mkInts (j : Int) 0 (ms.getD j 0 + 72)) ∧ (gs[j].ownBlock = us[j].ownBlock ∨ ∃ b, gs[j].ownBlock = some b ∧ w.heap.size ≤ b))) (fun _ iv _ => n - (intOf iv).toNat)
 case atStart => exact ⟨[], Nat.zero_le _, rfl, ⟨PutKeep.refl _ _⟩, HOut0, ⟨HR0.out⟩, ⟨fun j h => absurd h (Nat.not_lt_zero _)⟩⟩
 case round =>
  obtain ⟨gs, hi, rfl, HP, HO, HU, HG⟩ := hrel
  obtain ⟨i, hgi⟩ : ∃ i, gs.length = i := ⟨_, rfl⟩
  have HGI := Aside0.mk hgi
  rw [hgi] at hi ⊢
  clear hgi
  have g0 := HP.out.cell (a := ⟨bk, 0, none⟩) HBK.out H0.out
  obtain ⟨Ao, co, ho⟩ := Kd.R_slice HO.out
  rw [List.length_map, HGI.out] at ho
  subst ho
  by_cases hlt : i < n
  ·have hiu : i < us.length := by rw [HNN.out]; exact hlt
   have c1 : decide ((i : Int) < (n : Int)) = true := decide_eq_true (by omega)
   have c2 : decide (i < n) = true := decide_eq_true hlt
   have v1 : (0 ≤ (i : Int)) = True := eq_true (by omega)
   have v2 : ((i : Int) < (n : Int)) = True := eq_true (by omega)
   have v3 : IntKind.i64.wrap ((i : Int) + 1) = (i : Int) + 1 := IntWalk.i64_in _ (by have := HL.out; have := HNN.out; omega)
   obtain ⟨ad, hAe, x0⟩ := HA.out.at_ i hiu
   have hra : ∀ j, (h : j < us.length) → us[j].ownBlock ≠ some (ad.add i).block := by
    intro j h
    have : (ad.add i).block = ad.block := by unfold Addr.add; split <;> rfl
    rw [this]
    exact HROW.out j h ad hAe
   have x0 := HP.out.cell (a := ad.add i) hra x0
   obtain ⟨u, hu⟩ : ∃ u, us[i] = u := ⟨_, rfl⟩
   have HUE := Aside0.mk hu
   obtain ⟨m, hm⟩ : ∃ m, ms.getD i 0 = m := ⟨_, rfl⟩
   have HME := Aside0.mk hm
   have hRu := HU.out i hiu
   rw [hu, hm] at hRu
   rw [hu] at x0
   have hsm := HS.out i
   rw [hm] at hsm
   have HSM := Aside0.mk hsm
   have G0 : Aside0 (Grows (Kd.int .i64) 3 mkInts wr wr base u u (i : Int) m (m + 0)) := ⟨Grows.start hRu (Nat.le_trans HBASE.out HP.out.size)⟩
   have HRU := Aside0.mk hRu
   subst hAe
   clear hra hu hm hRu hsm
   go_wp2_with fail
   clear g0 x0
   go_loopw [5, 6] (fun v iv wk => ∃ r : Nat, r ≤ 12 ∧ iv = .int .i64 r ∧ Aside0 (Grows (Kd.int .i64) 3 mkInts wr wk base u v (i : Int) m (m + r))) (fun _ iv _ => 12 - (intOf iv).toNat)
   case atStart => exact ⟨0, Nat.zero_le _, rfl, G0⟩
   case round =>
    obtain ⟨r, hr, rfl, HGr⟩ := hrel
    obtain ⟨Av, cv, hv⟩ := Kd.R_slice HGr.out.cur
    rw [marks_len] at hv
    subst hv
    by_cases hr12 : r < 12
    ·have d1 : decide ((r : Int) < 12) = true := decide_eq_true (by omega)
     have d2 : decide (r < 12) = true := decide_eq_true hr12
     have d5 : IntKind.i64.wrap ((r : Int) + 1) = (r : Int) + 1 := IntWalk.i64_in _ (by omega)
     have MK := Aside0.mk (markInts_calls i (m + r) 1 wr (by have := HL.out; have := HNN.out; omega) (by have := HSM.out; omega))
     go_wp2_with fail
     refine MK.out.mono ?_
     rintro en w1 ⟨v3, rfl, hR3, hb1⟩
     obtain ⟨A3, c3, rfl⟩ := Kd.R_slice hR3
     rw [marks_len] at hR3
     rw [marks_len]
     have hC3 := (Kd.R_reads' hR3).2.2
     rw [marks_len] at hC3
     obtain ⟨v', W', hrun, hgr⟩ := Grows.append flatInts Tryz.underlying22 infoInts (by decide) (by decide) (by decide) (HGr.out.below hb1) 1 (by decide) (by have := HSM.out; omega) A3 c3 hC3 22
     have HRUN := Aside0.mk hrun
     have HGn := Aside0.mk hgr
     clear hR3 hC3 hb1 hrun hgr MK
     go_wp2_with (first
      | ((with_reducible refine gate_builtin (b := .append) (xs := #[.tmp 27, .tmp 31]) rfl ?_); (refine append_event rfl (.tmp 27) (.tmp 31) 22 rfl rfl rfl HRUN.out ?_)))
     go_roundw
     case rel => exact ⟨r + 1, by omega, by go_num, HGn⟩
     case measure => simp [intOf]; omega
    ·obtain rfl : r = 12 := by omega
     have d1 : decide (((12 : Nat) : Int) < 12) = false := by decide
     have MK := Aside0.mk (markInts_calls i (m + 12) 60 wr (by have := HL.out; have := HNN.out; omega) (by have := HSM.out; omega))
     go_wp2_with fail
     refine MK.out.mono ?_
     rintro en w1 ⟨v3, rfl, hR3, hb1⟩
     obtain ⟨A3, c3, rfl⟩ := Kd.R_slice hR3
     rw [marks_len] at hR3
     rw [marks_len]
     have hC3 := (Kd.R_reads' hR3).2.2
     rw [marks_len] at hC3
     obtain ⟨v', W', hrun, hgr⟩ := Grows.append flatInts Tryz.underlying22 infoInts (by decide) (by decide) (by decide) (HGr.out.below hb1) 60 (by decide) (by have := HSM.out; omega) A3 c3 hC3 22
     obtain ⟨Aw, cw, hw⟩ := Kd.R_slice hgr.cur
     obtain ⟨nw, hnw⟩ : ∃ nw, (marksOf mkInts (i : Int) 0 (m + 12 + 60)).length = nw := ⟨_, rfl⟩
     rw [hnw] at hw
     subst hw
     have HRUN := Aside0.mk hrun
     have HGn := Aside0.mk hgr
     clear hR3 hC3 hb1 hrun hgr MK hnw
     have hO2 := Kd.R_grown2 HO.out rfl HGn.out.keep (fun k e1 e2 => types_ne lneInts HO.out HRU.out k e2.symm e1)
     have hpk : PutKeep us w W' := HP.out.grown i hiu (by rw [HUE.out]; exact HGn.out.keep)
     have HO2 := Aside0.mk hO2
     have HPK := Aside0.mk hpk
     clear hO2 hpk
     go_wp2_with (first
      | ((with_reducible refine gate_builtin (b := .append) (xs := #[.tmp 34, .tmp 38]) rfl ?_); (refine append_event rfl (.tmp 34) (.tmp 38) 22 rfl rfl rfl HRUN.out ?_))
      | ((with_reducible refine gate_builtin (b := .append) (xs := #[.tmp 33, .tmp 40]) rfl ?_); at_builtin; refine Kd.R_append (Kd.raw 1) (w0 := W') w.heap.size rfl (.tmp 33) (.tmp 40) 35 22 (.slice none 0 0) 24 rfl Tryz.underlying35 infoIntsL rfl Nat.one_pos (by decide) (.slice Ao i co) (gs.map fun v => [v]) [.slice Aw nw cw] [.slice Aw nw cw] (fun _ => True) (fun _ => False) rfl rfl ⟨rfl, rfl, fun u hu => by rw [List.mem_singleton.1 hu]; rfl⟩ (fun _ h => h.elim) (fun _ _ => trivial) HO2.out (Below.refl _ _) HPK.out.size (by rw [List.length_map, HGI.out]; have := HL.out; have := HNN.out; omega) ?_; intro out' w3 hOn hBn hGn hAtn; have HON := Aside0.mk hOn; have HGN := Aside0.mk hGn; clear hOn hBn hGn hAtn))
     have hstep : ∀ (x : Value) (L : List Int), Kd.R (Kd.int .i64) 3 _ base (fun _ => True) x L → (∀ k, u.ownBlock = some k → x.ownBlock = some k → False) → Kd.R (Kd.int .i64) 3 w3 base (fun _ => True) x L := fun x L hx hne => by
      have h2 := Kd.R_grown2 hx rfl HGn.out.keep (fun k e1 e2 => hne k e1 e2.symm)
      exact Kd.R_grown2 h2 rfl HGN.out (fun k e1 e2 => types_ne lneInts HO2.out h2 k e1 e2.symm)
     have hU3 : ∀ j, (h : j < us.length) → Kd.R (Kd.int .i64) 3 w3 base (fun _ => True) us[j] (marksOf mkInts (j : Int) 0 (ms.getD j 0)) := by
      intro j hj
      by_cases e : j = i
      ·subst e
       rw [HUE.out, HME.out]
       exact Kd.R_grown2 HGn.out.old rfl HGN.out (fun k e1 e2 => types_ne lneInts HO2.out HGn.out.old k e1 e2.symm)
      ·exact hstep _ _ (HU.out j hj) (fun k e1 e2 => HSEP.out i j hiu hj (fun e' => e e'.symm) k (by rw [HUE.out]; exact e1) e2)
     have hG3 : ∀ j, (h : j < (gs ++ [Value.slice Aw nw cw]).length) → (hu : j < us.length) → Kd.R (Kd.int .i64) 3 w3 base (fun _ => True) (gs ++ [Value.slice Aw nw cw])[j] (marksOf mkInts (j : Int) 0 (ms.getD j 0 + 72)) ∧ ((gs ++ [Value.slice Aw nw cw])[j].ownBlock = us[j].ownBlock ∨ ∃ b, (gs ++ [Value.slice Aw nw cw])[j].ownBlock = some b ∧ w.heap.size ≤ b) := by
      intro j hj hju
      by_cases hjg : j < gs.length
      ·rw [List.getElem_append_left hjg]
       obtain ⟨h1, h2⟩ := HG.out j hjg hju
       refine ⟨hstep _ _ h1 (fun k e1 e2 => ?_), h2⟩
       rcases h2 with h2 | ⟨b, h2, hle⟩
       ·exact HSEP.out i j hiu hju (by have := HGI.out; omega) k (by rw [HUE.out]; exact e1) (by rw [← h2]; exact e2)
       ·rw [h2] at e2
        injection e2 with e2
        have := HLT.out i hiu k (by rw [HUE.out]; exact e1)
        omega
      ·have hji : j = i := by rw [List.length_append, List.length_singleton] at hj; have := HGI.out; omega
       have hjl : j = gs.length := by have := HGI.out; omega
       have hget : (gs ++ [Value.slice Aw nw cw])[j] = Value.slice Aw nw cw := by
        rw [List.getElem_append_right (by omega)]
        simp
       rw [hget]
       have hms : ms.getD j 0 = m := by rw [hji]; exact HME.out
       have husj : us[j] = u := by
        have h1 := HUE.out
        subst hji
        exact h1
       refine ⟨?_, ?_⟩
       ·rw [hms, hji]
        exact Kd.R_grown2 HGn.out.cur rfl HGN.out (fun k e1 e2 => types_ne lneInts HO2.out HGn.out.cur k e1 e2.symm)
       ·rw [husj]
        rcases HGn.out.at_ with ⟨A1, n1, c1, n1', e1, e2⟩ | ⟨b, hb, hle⟩
        ·left
         rw [e1, e2]
         cases A1 <;> rfl
        ·exact Or.inr ⟨b, hb, Nat.le_trans HP.out.size hle⟩
     have hO3 : Kd.R (Kd.raw 1) 22 w3 w.heap.size (fun _ => True) out' ((gs ++ [Value.slice Aw nw cw]).map fun v => [v]) := by
      rw [List.map_append]
      exact HON.out
     have hP3 : PutKeep us w w3 := HPK.out.own HGN.out (fun k hk => Kd.R_base HO2.out k hk)
     have HU3 := Aside0.mk hU3
     have HG3 := Aside0.mk hG3
     have HO3 := Aside0.mk hO3
     have HP3 := Aside0.mk hP3
     have hlen3 : (gs ++ [Value.slice Aw nw cw]).length = i + 1 := by rw [List.length_append, HGI.out]; rfl
     have HLEN3 := Aside0.mk hlen3
     clear hstep hU3 hG3 hO3 hP3 hlen3
     go_roundw
     case rel => exact ⟨gs ++ [Value.slice Aw nw cw], by have := HLEN3.out; omega, by rw [HLEN3.out]; rfl, HP3, HO3, HU3, HG3⟩
     case measure => simp [intOf]; omega
  ·obtain rfl : i = n := by omega
   have c1 : decide ((i : Int) < (i : Int)) = false := decide_eq_false (by omega)
   go_wp2_with fail
   go_ret
   exact ⟨Ao, co, gs, by rw [HNN.out]; rfl, by rw [HNN.out]; exact HGI.out, by rw [HNN.out]; exact Kd.R_lower HO.out HBASE.out, fun j h => (HG.out j h (by rw [HNN.out]; have := HGI.out; omega)).1, fun j h => HU.out j h, HP.out⟩
end Go.Proofs.YtkcpkecaliegfaaGreat.P

end
section
set_option linter.unusedVariables false
set_option linter.unusedSimpArgs false
namespace Go.Proofs.YtkcpkecaliegfaaGreat.P
open Go.RowKit Go.Proofs.YtkcpkecaliegfaaGreatW.PrintWords Go.Proofs.YtkcpkecaliegfaaGreatW.PrintLast Go.Proofs.YtkcpkecaliegfaaGreatW.PrintMore

def addInts.T2 : Bool × List (List Nat × List Nat) := (true, [([], []), ([], []), ([1], [1]), ([2], [2]), ([3], [3]), ([], []), ([5], [5]), ([6], [6]), ([4, 7, 6], [4, 7]), ([0, 0, 1, 2, 3, 4, 5, 6, 7, 8], [0]), ([9, 0, 1, 2, 3, 4, 5, 6, 7, 8], [9]), ([10, 8, 8, 0, 1, 2, 3, 4, 5, 6, 7, 8], [8, 10])])
def addInts.B2 : List Nat := [0, 0, 2, 6, 14, 0, 32, 96, 254, 511, 1023, 2047]
theorem addInts.tab2 : rtab .any (opsOf Tryz.f27 2) = addInts.T2 := by kernel_rfl
theorem addInts.bits2 : waitsOk addInts.T2.2 addInts.B2 = true := by kernel_rfl
set_option maxRecDepth 100000 in
set_option maxHeartbeats 4000000 in
theorem addInts_calls (bk base : Nat) ( o0 o1 : Value) (rest us us' : List Value) (a : Option Addr) (k : Nat) (xs : List Int) (w : World) (hblk : w.heap[bk]? = some (.cells (o0 :: o1 :: rest).toArray 44 (0, 0)))
  (h0 : Kd.R (Kd.raw 1) 22 w base (fun _ => True) o0 (us.map fun v => [v])) (h1 : Kd.R (Kd.raw 1) 22 w base (fun _ => True) o1 (us'.map fun v => [v])) (hsep : ∀ q, o0.ownBlock = some q → o1.ownBlock ≠ some q) (hu : Kd.R (Kd.int .i64) 3 w base (fun _ => True) (.slice a xs.length k) xs)
  (hn : us.length < 250) (hn' : us'.length < 250) (hbase : base ≤ w.heap.size) (hbk : base ≤ bk) (hxl : xs.length ≤ 900000) :
  Calls Tryz.prog 27 #[.pointer (some ⟨bk, 0, none⟩), .slice a xs.length k] w fun e w' => ∃ (p0 p1 u' : Value), e = .returned (.tuple #[]) ∧ w'.heap[bk]? = some (.cells (p0 :: p1 :: rest).toArray 44 (0, 0)) ∧
   Kd.R (Kd.raw 1) 22 w' base (fun _ => True) p0 ((us ++ [Value.slice a xs.length k]).map fun v => [v]) ∧ Kd.R (Kd.raw 1) 22 w' base (fun _ => True) p1 ((us' ++ [u']).map fun v => [v]) ∧ (∀ q, p0.ownBlock = some q → p1.ownBlock ≠ some q) ∧
   Kd.R (Kd.int .i64) 3 w' w.heap.size (fun _ => True) u' xs ∧ AddKeep bk o0 o1 w w' := by
 have HBLK := Aside0.mk hblk
 have H0 := Aside0.mk h0
 have H1 := Aside0.mk h1
 have HSEP := Aside0.mk hsep
 have HBASE := Aside0.mk hbase
 have HN := Aside0.mk hn
 have HN' := Aside0.mk hn'
 have HU := Aside0.mk hu
 have CP := Aside0.mk (fun w' (hC : Kd.C (Kd.int .i64) w' a xs.length xs) => copyInts_calls a k xs w' hC (Kd.R_reads' hu).2.1 hxl)
 obtain ⟨Ao, co, rfl⟩ := Kd.R_slice h0
 rw [List.length_map] at hblk H0 HBLK h0 HSEP ⊢
 have e0 : (Value.slice Ao us.length co).ownBlock ≠ some bk := block_ne (by decide) h0 hblk
 have e1 : o1.ownBlock ≠ some bk := block_ne (by decide) h1 hblk
 have E0 := Aside0.mk e0
 have E1 := Aside0.mk e1
 have c0 : w.cell? ⟨bk, 0, none⟩ = some (.slice Ao us.length co) := (blk_cell hblk 0).trans rfl
 have d1 : decide ((us.length : Int) < 250) = true := decide_eq_true (by omega)
 have d2 : decide (us.length < 250) = true := decide_eq_true hn
 clear hblk h0 h1 hsep hbase hn hn' hu e0 e1
 go_enter Tryz.func27, Tryz.ntmps27
 go_wp2_with (first
  | ((with_reducible refine gate_builtin (b := .append) (xs := #[.tmp 14, .tmp 16]) rfl ?_); at_builtin; refine Kd.R_append (Kd.raw 1) (w0 := w) base rfl (.tmp 14) (.tmp 16) 35 22 (.slice none 0 0) 24 rfl Tryz.underlying35 infoIntsL rfl Nat.one_pos (by decide) (.slice Ao us.length co) (us.map fun v => [v]) [.slice a xs.length k] [.slice a xs.length k] (fun _ => True) (fun _ => False) rfl rfl ⟨rfl, rfl, fun u hu => by rw [List.mem_singleton.1 hu]; rfl⟩ (fun _ h => h.elim) (fun _ _ => trivial) H0.out (Below.refl _ _) HBASE.out (by rw [List.length_map]; have := HN.out; omega) ?_; intro p0 w1 hOn hBn hGn hAtn; obtain ⟨A0', c0', hp0⟩ := Kd.R_slice hOn; obtain ⟨n0', hn0⟩ : ∃ q, (us.map (fun v => [v]) ++ [[Value.slice a xs.length k]]).length = q := ⟨_, rfl⟩; rw [hn0] at hp0; subst hp0; have HON := Aside0.mk hOn; have HGN := Aside0.mk hGn; have HAT := Aside0.mk hAtn; have hb1 := blk_grown HBLK.out hGn E0.out.symm; have HB1 := Aside0.mk hb1; have z0 : w1.cell? ⟨bk, 0, none⟩ = some (.slice Ao us.length co) := (blk_cell hb1 0).trans rfl; have z1 := blk_frozen hb1 0; clear hOn hBn hGn hAtn hb1 hn0))
 obtain ⟨w2, hw2⟩ : ∃ x, w1.setCell ⟨bk, 0, none⟩ (.slice A0' n0' c0') = x := ⟨_, rfl⟩
 have hblk2 : w2.heap[bk]? = some (.cells (Value.slice A0' n0' c0' :: o1 :: rest).toArray 44 (0, 0)) := by rw [← hw2]; exact blk_set HB1.out 0 _
 have hP0 : Kd.R (Kd.raw 1) 22 w2 base (fun _ => True) (.slice A0' n0' c0') (us.map (fun v => [v]) ++ [[Value.slice a xs.length k]]) := by rw [← hw2]; exact Kd.R_set HON.out HB1.out (by intro q hq; rw [show q = 22 by simpa [Kd.raw] using hq]; decide) 0 _
 have h1a := Kd.R_grown2 H1.out rfl HGN.out (fun q e1 e2 => HSEP.out q e1 e2.symm)
 have hP1 : Kd.R (Kd.raw 1) 22 w2 base (fun _ => True) o1 (us'.map fun v => [v]) := by rw [← hw2]; exact Kd.R_set h1a HB1.out (by intro q hq; rw [show q = 22 by simpa [Kd.raw] using hq]; decide) 0 _
 have hUa := Kd.R_grown2 HU.out rfl HGN.out (fun q e1 e2 => types_ne lneInts H0.out HU.out q e1 e2.symm)
 have hU2 : Kd.R (Kd.int .i64) 3 w2 base (fun _ => True) (.slice a xs.length k) xs := by rw [← hw2]; exact Kd.R_set hUa HB1.out (by intro q hq; rw [flatInts.E] at hq; rw [List.mem_singleton.1 hq]; decide) 0 _
 have hK2 : AddKeep bk (.slice Ao us.length co) o1 w w2 := by
  rw [← hw2]
  exact ⟨HGN.out.os, HGN.out.tape, HGN.out.output, by simpa [World.setCell] using HGN.out.size, fun q hq e1 e2 e3 => (Below.heap_setCell w1 ⟨bk, 0, none⟩ _ q e1).trans (HGN.out.block q hq (fun e => e2 e.symm))⟩
 have hsz2 : w2.heap.size = w1.heap.size := by rw [← hw2]; simp [World.setCell]
 have hS2 : w2.cell? ⟨bk, 1, none⟩ = some o1 := (blk_cell hblk2 1).trans rfl
 have HBLK2 := Aside0.mk hblk2
 have HP0 := Aside0.mk hP0
 have HP1 := Aside0.mk hP1
 have HU2 := Aside0.mk hU2
 have HK2 := Aside0.mk hK2
 have HSZ2 := Aside0.mk hsz2
 rw [hw2]
 clear hw2 hblk2 hP0 h1a hP1 hUa hU2 hK2 hsz2 z0 z1 c0
 refine start_ (n := 12) (S := fun w' => w'.cell? ⟨bk, 1, none⟩ = some o1) (ds := [11]) #[false, false, false, false, false, false, false, false, false, false, false, false] (by kernel_rfl) rfl rfl hS2 (fun hHeld => ?_)
 refine with_tabW addInts.tab2 addInts.bits2 (fun HT_ HW_ => ?_)
 refine take_ (i := 0) (N := some 20) (v := ?_) (a' := ?_) #[true, false, false, false, false, false, false, false, false, false, false, false] rfl rfl (take_ofW HT_.out HW_.out (by kernel_rfl)) (fun _ _ _ h => h) (Or.inl ⟨by rfl, ?_⟩) hHeld ?_ ?_
 rotate_left
 ·intro w' s
  go_simp
  with_reducible rfl
 rotate_left
 ·simp only [Act.put, List.setIfInBounds_toArray, List.set_cons_zero, List.set_cons_succ, i64_w, i32_w]
  rfl
 refine take_ (i := 1) (N := some 21) (v := ?_) (a' := ?_) #[true, true, false, false, false, false, false, false, false, false, false, false] rfl rfl (take_ofW HT_.out HW_.out (by kernel_rfl)) (fun _ _ _ h => h) (Or.inl ⟨by rfl, ?_⟩) hHeld ?_ ?_
 rotate_left
 ·intro w' s
  go_simp
  with_reducible rfl
 rotate_left
 ·simp only [Act.put, List.setIfInBounds_toArray, List.set_cons_zero, List.set_cons_succ, i64_w, i32_w]
  rfl
 refine take_ (i := 2) (N := some 22) (v := ?_) (a' := ?_) #[true, true, true, false, false, false, false, false, false, false, false, false] rfl rfl (take_ofW HT_.out HW_.out (by kernel_rfl)) (fun _ _ _ h => h) (Or.inl ⟨by rfl, ?_⟩) hHeld ?_ ?_
 rotate_left
 ·intro w' s
  go_simp
  with_reducible rfl
 rotate_left
 ·simp only [Act.put, List.setIfInBounds_toArray, List.set_cons_zero, List.set_cons_succ, i64_w, i32_w]
  rfl
 refine take_ (i := 3) (N := some 23) (v := ?_) (a' := ?_) #[true, true, true, true, false, false, false, false, false, false, false, false] rfl rfl (take_ofW HT_.out HW_.out (by kernel_rfl)) (fun _ _ _ h => h) (Or.inl ⟨by rfl, ?_⟩) hHeld ?_ ?_
 rotate_left
 ·intro w' s
  go_simp
  with_reducible rfl
 rotate_left
 ·simp only [Act.put, List.setIfInBounds_toArray, List.set_cons_zero, List.set_cons_succ, i64_w, i32_w]
  rfl
 refine take_ (i := 4) (N := some 24) (v := ?_) (a' := ?_) #[true, true, true, true, true, false, false, false, false, false, false, false] rfl rfl (take_ofW HT_.out HW_.out (by kernel_rfl)) (fun _ _ _ h => h) (Or.inl ⟨by rfl, ?_⟩) hHeld ?_ ?_
 rotate_left
 ·intro w' s
  go_simp
  with_reducible rfl
 rotate_left
 ·simp only [Act.put, List.setIfInBounds_toArray, List.set_cons_zero, List.set_cons_succ, i64_w, i32_w]
  rfl
 refine take_ (i := 5) (N := some 25) (v := ?_) (a' := ?_) #[true, true, true, true, true, true, false, false, false, false, false, false] rfl rfl (take_ofW HT_.out HW_.out (by kernel_rfl)) (fun _ _ _ h => h) (Or.inl ⟨by rfl, ?_⟩) hHeld ?_ ?_
 rotate_left
 ·intro w' s
  go_simp
  with_reducible rfl
 rotate_left
 ·simp only [Act.put, List.setIfInBounds_toArray, List.set_cons_zero, List.set_cons_succ, i64_w, i32_w]
  rfl
 refine one_ (i := 6) (N := some 26) #[true, true, true, true, true, true, true, false, false, false, false, false] rfl rfl (one_of HT_.out (by kernel_rfl)) (by decide) (fun K hK => ?_)
 refine goes_ Tryz.func37 (by kernel_rfl) rfl #[.slice a xs.length k] (by rfl) rfl rfl (by (try simp only [List.map_toArray, List.map_cons, List.map_nil]); first | done | rfl | (simp only [List.length_drop, List.length_take]; rfl)) ?_
 refine (CP.out _ (Kd.R_reads' (Kd.R_drew HU2.out)).2.2).mono ?_
 rintro en w3 ⟨u', rfl, hRu, hb⟩
 refine ⟨_, rfl, ?_⟩
 obtain ⟨A3, c3, rfl⟩ := Kd.R_slice hRu
 have HB23 := Aside0.mk (show Below w2.heap.size w2 w3 from below_step (below_drew1 (Below.refl _ _)) hb)
 have HRU := Aside0.mk hRu
 refine hK.out _ _ (pw_cell_below hb hHeld) (fun hHeld => ?_)
 clear hRu hb
 clear hK K
 refine norm_ (a' := ?_) ?_ ?_
 rotate_left
 ·show Act.put _ (some 26) _ = _
  simp only [Act.put, List.setIfInBounds_toArray, List.set_cons_zero, List.set_cons_succ, i64_w, i32_w]
  rfl
 refine one_ (i := 7) (N := some 27) #[true, true, true, true, true, true, true, true, false, false, false, false] rfl rfl (one_of HT_.out (by kernel_rfl)) (by decide) (fun K hK => ?_)
 refine value_ (v := .slice (some ⟨w3.heap.size, 0, none⟩) 1 1) (w1 := w3.alloc (.cells #[.slice A3 xs.length c3] 22)) (by rfl) rfl (by first | (go_simp; done) | (go_simp; rfl)) (hK.out _ _ (pw_cell_below (below_alloc (Below.refl _ _) _) hHeld) (fun hHeld => ?_))
 clear hK K
 refine norm_ (a' := ?_) ?_ ?_
 rotate_left
 ·show Act.put _ (some 27) _ = _
  simp only [Act.put, List.setIfInBounds_toArray, List.set_cons_zero, List.set_cons_succ, i64_w, i32_w]
  rfl
 refine one_ (i := 8) (N := some 28) #[true, true, true, true, true, true, true, true, true, false, false, false] rfl rfl (one_of HT_.out (by kernel_rfl)) (by decide) (fun K hK => ?_)
 refine Kd.R_append_step (Kd.raw 1) (w0 := w3) base (by rfl) (.tmp 24) (.tmp 27) 35 22 (.slice none 0 0) 24 rfl Tryz.underlying35 infoIntsL rfl Nat.one_pos (by decide) o1 (us'.map fun v => [v]) [.slice A3 xs.length c3] [.slice A3 xs.length c3] (fun _ => True) (fun _ => False) rfl rfl ⟨rfl, rfl, fun u hu => by rw [List.mem_singleton.1 hu]; rfl⟩ (fun _ h => h.elim) (fun _ _ => trivial) (Kd.R_below HP1.out HB23.out) (Below.refl _ _) (Nat.le_trans HBASE.out (Nat.le_trans HK2.out.size HB23.out.size)) (by rw [List.length_map]; have := HN'.out; omega) ?_
 intro p1 w4 hO4 hB4 hG4 hA4
 obtain ⟨A1', c1', hp1⟩ := Kd.R_slice hO4
 obtain ⟨n1', hn1⟩ : ∃ q, (us'.map (fun v => [v]) ++ [[Value.slice A3 xs.length c3]]).length = q := ⟨_, rfl⟩
 rw [hn1] at hp1
 subst hp1
 have HO4 := Aside0.mk hO4
 have HG4 := Aside0.mk hG4
 have HA4 := Aside0.mk hA4
 have hb4 := blk_grown (blk_below HBLK2.out HB23.out) hG4 E1.out.symm
 have HB4 := Aside0.mk hb4
 refine hK.out _ _ ((blk_cell hb4 1).trans rfl) (fun hHeld => ?_)
 clear hO4 hB4 hG4 hA4 hb4 hn1
 clear hK K
 refine norm_ (a' := ?_) ?_ ?_
 rotate_left
 ·show Act.put _ (some 28) _ = _
  simp only [Act.put, List.setIfInBounds_toArray, List.set_cons_zero, List.set_cons_succ, i64_w, i32_w]
  rfl
 refine take_ (i := 9) (N := some 29) (v := ?_) (a' := ?_) #[true, true, true, true, true, true, true, true, true, true, false, false] rfl rfl (take_ofW HT_.out HW_.out (by kernel_rfl)) (fun _ _ _ h => h) (Or.inl ⟨by rfl, ?_⟩) hHeld ?_ ?_
 rotate_left
 ·intro w' s
  go_simp
  with_reducible rfl
 rotate_left
 ·simp only [Act.put, List.setIfInBounds_toArray, List.set_cons_zero, List.set_cons_succ, i64_w, i32_w]
  rfl
 refine take_ (i := 10) (N := some 30) (v := ?_) (a' := ?_) #[true, true, true, true, true, true, true, true, true, true, true, false] rfl rfl (take_ofW HT_.out HW_.out (by kernel_rfl)) (fun _ _ _ h => h) (Or.inl ⟨by rfl, ?_⟩) hHeld ?_ ?_
 rotate_left
 ·intro w' s
  go_simp
  with_reducible rfl
 rotate_left
 ·simp only [Act.put, List.setIfInBounds_toArray, List.set_cons_zero, List.set_cons_succ, i64_w, i32_w]
  rfl
 refine last_ (i := 11) (N := none) #[true, true, true, true, true, true, true, true, true, true, true, true] rfl rfl (one_of HT_.out (by kernel_rfl)) (by decide) (fun K hK => ?_)
 have z0 : w4.cell? ⟨bk, 1, none⟩ = some o1 := (blk_cell HB4.out 1).trans rfl
 have z1 := blk_frozen HB4.out 1
 obtain ⟨w5, hw5⟩ : ∃ x, w4.setCell ⟨bk, 1, none⟩ (.slice A1' n1' c1') = x := ⟨_, rfl⟩
 refine skip_ (w1 := w4.setCell ⟨bk, 1, none⟩ (.slice A1' n1' c1')) (by rfl) rfl (by first | (go_simp; done) | (go_simp; rfl)) (hK.out _ _ ?_)
 rw [hw5]
 have HW5 := Aside0.mk hw5
 clear hw5 z0 z1 hHeld
 clear hK K
 refine done_ (done_of HT_.out (by kernel_rfl)) ?_
 clear hHeld
 go_end0
 have hs0 : ∀ q, (Value.slice A0' n0' c0').ownBlock = some q → o1.ownBlock = some q → False := by
  intro q e1 e2
  rcases HAT.out with h | ⟨b, h, hle⟩
  ·exact HSEP.out q (by rw [← h]; exact e1) e2
  ·rw [h] at e1
   injection e1 with e1
   have := Kd.R_lt H1.out q e2
   omega
 have hP0a := Kd.R_below HP0.out HB23.out
 have hP0b := Kd.R_grown2 hP0a rfl HG4.out (fun q e1 e2 => hs0 q e2.symm e1)
 have hUb := Kd.R_grown2 HRU.out rfl HG4.out (fun q e1 e2 => types_ne lneInts (Kd.R_below HP1.out HB23.out) HRU.out q e1 e2.symm)
 have hw2le : w.heap.size ≤ w2.heap.size := HK2.out.size
 refine ⟨.slice A0' n0' c0', .slice A1' n1' c1', .slice A3 xs.length c3, rfl, ?_, ?_, ?_, ?_, ?_, ?_⟩
 ·rw [← HW5.out]
  exact blk_set HB4.out 1 _
 ·rw [List.map_append, ← HW5.out]
  exact Kd.R_set hP0b HB4.out (by intro q hq; rw [show q = 22 by simpa [Kd.raw] using hq]; decide) 1 _
 ·rw [List.map_append, ← HW5.out]
  exact Kd.R_set HO4.out HB4.out (by intro q hq; rw [show q = 22 by simpa [Kd.raw] using hq]; decide) 1 _
 ·intro q e1 e2
  rcases HA4.out with h | ⟨b, h, hle⟩
  ·exact hs0 q e1 (by rw [← h]; exact e2)
  ·rw [h] at e2
   injection e2 with e2
   have := Kd.R_lt hP0a q e1
   omega
 ·rw [← HW5.out]
  exact Kd.R_lower (Kd.R_set hUb HB4.out (by intro q hq; rw [flatInts.E] at hq; rw [List.mem_singleton.1 hq]; decide) 1 _) hw2le
 ·rw [← HW5.out]
  refine ⟨?_, ?_, ?_, ?_, fun q hq e1 e2 e3 => ?_⟩
  ·exact HG4.out.os.trans (HB23.out.os.trans HK2.out.os)
  ·exact HG4.out.tape.trans (HB23.out.tape.trans HK2.out.tape)
  ·exact HG4.out.output.trans (HB23.out.output.trans HK2.out.output)
  ·have h1 : w3.heap.size ≤ w4.heap.size := HG4.out.size
   have h2 : w2.heap.size ≤ w3.heap.size := HB23.out.size
   have h3 : (w4.setCell ⟨bk, 1, none⟩ (.slice A1' n1' c1')).heap.size = w4.heap.size := by simp [World.setCell]
   omega
  ·have h2 : w2.heap.size ≤ w3.heap.size := HB23.out.size
   rw [Below.heap_setCell w4 ⟨bk, 1, none⟩ _ q e1, HG4.out.block q (by omega) (fun e => e3 e.symm), HB23.out.block q (by omega)]
   exact HK2.out.far q hq e1 e2 e3
end Go.Proofs.YtkcpkecaliegfaaGreat.P

end
section
set_option linter.unusedVariables false
set_option linter.unusedSimpArgs false
namespace Go.Proofs.YtkcpkecaliegfaaGreat.P
open Go.RowKit Go.Proofs.YtkcpkecaliegfaaGreatW.PrintWords Go.Proofs.YtkcpkecaliegfaaGreatW.PrintLast Go.Proofs.YtkcpkecaliegfaaGreatW.PrintMore

def markedInts.T4 : Bool × List (List Nat × List Nat) := (true, [([], []), ([], []), ([0, 1], [0, 1]), ([2], [2]), ([], []), ([], []), ([], []), ([5, 6], [5, 6]), ([7], [7]), ([8], [8]), ([4, 9], [4, 9]), ([3, 10, 10], [3, 10]), ([11], [11])])
def markedInts.B4 : List Nat := [0, 0, 3, 7, 0, 0, 0, 96, 224, 480, 1008, 2047, 4095]
theorem markedInts.tab4 : rtab .any (opsOf Tryz.f66 4) = markedInts.T4 := by kernel_rfl
theorem markedInts.bits4 : waitsOk markedInts.T4.2 markedInts.B4 = true := by kernel_rfl
set_option maxRecDepth 100000 in
set_option maxHeartbeats 4000000 in
theorem markedInts_calls (base : Nat) (A : Option Addr) (n c : Nat) (us : List Value) (ms : Nat → Nat) (w : World) (h : Kd.R (Kd.raw 1) 22 w base (fun _ => True) (.slice A n c) (us.map fun v => [v])) (hr : ∀ i, (h : i < us.length) → Kd.R (Kd.int .i64) 3 w base (fun _ => True) us[i] (marksOf mkInts (i : Int) 0 (ms i)))
  (hl : us.length ≤ 1000) (hm : ∀ i, ms i ≤ 1000000) :
  Calls Tryz.prog 66 #[.slice A n c] w fun e w' => e = .returned (.bool true) ∧ Below w.heap.size w w' := by
 obtain ⟨hn, hc, hL⟩ := lists_of_raw h
 have HA := Aside0.mk hL
 have HR := Aside0.mk hr
 have HS := Aside0.mk hm
 have HL := Aside0.mk hl
 have HNN := Aside0.mk hn.symm
 clear h hr hm hl hL hn hc
 go_enter Tryz.func66, Tryz.ntmps66
 go_wp2_with fail
 go_loopw [3] (fun iv wr => ∃ i : Nat, i ≤ n ∧ iv = .int .i64 i ∧ Aside0 (Below w.heap.size w wr)) (fun iv _ => n - (intOf iv).toNat)
 case atStart => exact ⟨0, Nat.zero_le _, rfl, ⟨Below.refl _ _⟩⟩
 case round =>
  obtain ⟨i, hi, rfl, HB⟩ := hrel
  by_cases hlt : i < n
  ·have c1 : decide ((i : Int) < (n : Int)) = true := decide_eq_true (by omega)
   have c2 : decide (i < n) = true := decide_eq_true hlt
   have v1 : (0 ≤ (i : Int)) = True := eq_true (by omega)
   have v2 : ((i : Int) < (n : Int)) = True := eq_true (by omega)
   have v3 : IntKind.i64.wrap ((i : Int) + 1) = (i : Int) + 1 := IntWalk.i64_in _ (by have := HL.out; have := HNN.out; omega)
   obtain ⟨ad, hAe, x0⟩ := (HA.out.below HB.out).at_ i (by rw [HNN.out]; exact hlt)
   obtain ⟨a, k, hu, hk, hC⟩ := (readsD_of_R (HR.out i (by rw [HNN.out]; exact hlt))).below HB.out
   rw [hu, marks_len] at x0
   have hsm := HS.out i
   obtain ⟨mm, hmm⟩ : ∃ q, ms i = q := ⟨_, rfl⟩
   rw [hmm] at x0 hk hC hsm
   rw [marks_len] at hk hC
   have HC := Aside0.mk hC
   have HMM := Aside0.mk hsm
   have HK := Aside0.mk hk
   have MK := Aside0.mk (fun w' => markInts_calls i 0 mm w' (by have := HL.out; have := HNN.out; omega) (by have := HMM.out; omega))
   subst hAe
   clear hu hC hk hmm hsm
   go_wp2_with fail
   refine start_ (n := 13) (S := fun w' => Below wr.heap.size wr w') (ds := []) #[false, false, false, false, false, false, false, false, false, false, false, false, false] (by kernel_rfl) rfl rfl (below_drew1 (Below.refl _ _)) (fun hHeld => ?_)
   refine with_tabW markedInts.tab4 markedInts.bits4 (fun HT_ HW_ => ?_)
   refine take_ (i := 0) (N := some 10) (v := ?_) (a' := ?_) #[true, false, false, false, false, false, false, false, false, false, false, false, false] rfl rfl (take_ofW HT_.out HW_.out (by kernel_rfl)) (fun _ _ _ h => h) (Or.inl ⟨by rfl, ?_⟩) hHeld ?_ ?_
   rotate_left
   ·intro w' s
    go_simp
    with_reducible rfl
   rotate_left
   ·simp only [Act.put, List.setIfInBounds_toArray, List.set_cons_zero, List.set_cons_succ, i64_w, i32_w]
    rfl
   refine take_ (i := 1) (N := some 11) (v := ?_) (a' := ?_) #[true, true, false, false, false, false, false, false, false, false, false, false, false] rfl rfl (take_ofW HT_.out HW_.out (by kernel_rfl)) (fun _ _ _ h => h) (Or.inl ⟨by rfl, ?_⟩) hHeld ?_ ?_
   rotate_left
   ·intro w' s
    go_simp
    with_reducible rfl
   rotate_left
   ·simp only [Act.put, List.setIfInBounds_toArray, List.set_cons_zero, List.set_cons_succ, i64_w, i32_w]
    rfl
   refine take_ (i := 2) (N := some 12) (v := ?_) (a' := ?_) #[true, true, true, false, false, false, false, false, false, false, false, false, false] rfl rfl (take_ofW HT_.out HW_.out (by kernel_rfl)) (fun _ _ _ h => h) (Or.inl ⟨by rfl, ?_⟩) hHeld ?_ ?_
   rotate_left
   ·intro w' s
    go_simp
    with_reducible rfl
   rotate_left
   ·simp only [Act.put, List.setIfInBounds_toArray, List.set_cons_zero, List.set_cons_succ, i64_w, i32_w]
    rfl
   refine take_ (i := 3) (N := some 13) (v := ?_) (a' := ?_) #[true, true, true, true, false, false, false, false, false, false, false, false, false] rfl rfl (take_ofW HT_.out HW_.out (by kernel_rfl)) (fun _ _ _ h => h) (Or.inl ⟨by rfl, ?_⟩) hHeld ?_ ?_
   rotate_left
   ·intro w' s
    have s0 := pw_cell_below s x0
    go_simp
    with_reducible rfl
   rotate_left
   ·simp only [Act.put, List.setIfInBounds_toArray, List.set_cons_zero, List.set_cons_succ, i64_w, i32_w]
    rfl
   refine take_ (i := 4) (N := some 14) (v := ?_) (a' := ?_) #[true, true, true, true, true, false, false, false, false, false, false, false, false] rfl rfl (take_ofW HT_.out HW_.out (by kernel_rfl)) (fun _ _ _ h => h) (Or.inl ⟨by rfl, ?_⟩) hHeld ?_ ?_
   rotate_left
   ·intro w' s
    go_simp
    with_reducible rfl
   rotate_left
   ·simp only [Act.put, List.setIfInBounds_toArray, List.set_cons_zero, List.set_cons_succ, i64_w, i32_w]
    rfl
   refine take_ (i := 5) (N := some 15) (v := ?_) (a' := ?_) #[true, true, true, true, true, true, false, false, false, false, false, false, false] rfl rfl (take_ofW HT_.out HW_.out (by kernel_rfl)) (fun _ _ _ h => h) (Or.inl ⟨by rfl, ?_⟩) hHeld ?_ ?_
   rotate_left
   ·intro w' s
    go_simp
    with_reducible rfl
   rotate_left
   ·simp only [Act.put, List.setIfInBounds_toArray, List.set_cons_zero, List.set_cons_succ, i64_w, i32_w]
    rfl
   refine take_ (i := 6) (N := some 16) (v := ?_) (a' := ?_) #[true, true, true, true, true, true, true, false, false, false, false, false, false] rfl rfl (take_ofW HT_.out HW_.out (by kernel_rfl)) (fun _ _ _ h => h) (Or.inl ⟨by rfl, ?_⟩) hHeld ?_ ?_
   rotate_left
   ·intro w' s
    go_simp
    with_reducible rfl
   rotate_left
   ·simp only [Act.put, List.setIfInBounds_toArray, List.set_cons_zero, List.set_cons_succ, i64_w, i32_w]
    rfl
   refine take_ (i := 7) (N := some 17) (v := ?_) (a' := ?_) #[true, true, true, true, true, true, true, true, false, false, false, false, false] rfl rfl (take_ofW HT_.out HW_.out (by kernel_rfl)) (fun _ _ _ h => h) (Or.inl ⟨by rfl, ?_⟩) hHeld ?_ ?_
   rotate_left
   ·intro w' s
    go_simp
    with_reducible rfl
   rotate_left
   ·simp only [Act.put, List.setIfInBounds_toArray, List.set_cons_zero, List.set_cons_succ, i64_w, i32_w]
    rfl
   refine take_ (i := 8) (N := some 18) (v := ?_) (a' := ?_) #[true, true, true, true, true, true, true, true, true, false, false, false, false] rfl rfl (take_ofW HT_.out HW_.out (by kernel_rfl)) (fun _ _ _ h => h) (Or.inl ⟨by rfl, ?_⟩) hHeld ?_ ?_
   rotate_left
   ·intro w' s
    have s0 := pw_cell_below s x0
    go_simp
    with_reducible rfl
   rotate_left
   ·simp only [Act.put, List.setIfInBounds_toArray, List.set_cons_zero, List.set_cons_succ, i64_w, i32_w]
    rfl
   refine take_ (i := 9) (N := some 19) (v := ?_) (a' := ?_) #[true, true, true, true, true, true, true, true, true, true, false, false, false] rfl rfl (take_ofW HT_.out HW_.out (by kernel_rfl)) (fun _ _ _ h => h) (Or.inl ⟨by rfl, ?_⟩) hHeld ?_ ?_
   rotate_left
   ·intro w' s
    go_simp
    with_reducible rfl
   rotate_left
   ·simp only [Act.put, List.setIfInBounds_toArray, List.set_cons_zero, List.set_cons_succ, i64_w, i32_w]
    rfl
   refine one_ (i := 10) (N := some 20) #[true, true, true, true, true, true, true, true, true, true, true, false, false] rfl rfl (one_of HT_.out (by kernel_rfl)) (by decide) (fun K hK => ?_)
   refine goes_ Tryz.func90 (by kernel_rfl) rfl #[.int .i64 i, .int .i64 0, .int .i64 mm] (by rfl) rfl rfl (by (try simp only [List.map_toArray, List.map_cons, List.map_nil]); first | done | rfl | (simp only [List.length_drop, List.length_take]; rfl)) ?_
   refine (MK.out _).mono ?_
   rintro en w8 ⟨mv, rfl, hRm, hb⟩
   refine ⟨_, rfl, ?_⟩
   obtain ⟨Am, cm, hm⟩ := Kd.R_slice hRm
   rw [marks_len] at hm
   subst hm
   have HRM := Aside0.mk hRm
   refine hK.out _ _ (below_step hHeld hb) (fun hHeld => ?_)
   clear hRm hb
   clear hK K
   refine norm_ (a' := ?_) ?_ ?_
   rotate_left
   ·show Act.put _ (some 20) _ = _
    simp only [Act.put, List.setIfInBounds_toArray, List.set_cons_zero, List.set_cons_succ, i64_w, i32_w]
    rfl
   refine one_ (i := 11) (N := some 21) #[true, true, true, true, true, true, true, true, true, true, true, true, false] rfl rfl (one_of HT_.out (by kernel_rfl)) (by decide) (fun K hK => ?_)
   have SM := sameInts_calls a Am k cm (marksOf mkInts (i : Int) 0 mm) w8 (by rw [marks_len]; exact Kd.C_below HC.out hHeld) ((Kd.R_reads' HRM.out).2.2) (by rw [marks_len]; exact HK.out) (by have h := (Kd.R_reads' HRM.out).2.1; rw [marks_len]; exact h) (by rw [marks_len]; exact HMM.out)
   rw [marks_len] at SM
   refine goes_ Tryz.func41 (by kernel_rfl) rfl #[.slice a mm k, .slice Am mm cm] (by rfl) rfl rfl (by (try simp only [List.map_toArray, List.map_cons, List.map_nil]); first | done | rfl | (simp only [List.length_drop, List.length_take]; rfl)) ?_
   refine SM.mono ?_
   rintro en w9 ⟨rfl, hb⟩
   refine ⟨_, rfl, ?_⟩
   refine hK.out _ _ (below_step hHeld hb) (fun hHeld => ?_)
   clear hb SM
   clear hK K
   refine norm_ (a' := ?_) ?_ ?_
   rotate_left
   ·show Act.put _ (some 21) _ = _
    simp only [Act.put, List.setIfInBounds_toArray, List.set_cons_zero, List.set_cons_succ, i64_w, i32_w]
    rfl
   refine take_ (i := 12) (N := some 22) (v := ?_) (a' := ?_) #[true, true, true, true, true, true, true, true, true, true, true, true, true] rfl rfl (take_ofW HT_.out HW_.out (by kernel_rfl)) (fun _ _ _ h => h) (Or.inl ⟨by rfl, ?_⟩) hHeld ?_ ?_
   rotate_left
   ·intro w' s
    go_simp
    with_reducible rfl
   rotate_left
   ·simp only [Act.put, List.setIfInBounds_toArray, List.set_cons_zero, List.set_cons_succ, i64_w, i32_w]
    rfl
   refine done_ (done_of HT_.out (by kernel_rfl)) ?_
   have HBn := Aside0.mk (below_step HB.out hHeld)
   clear hHeld x0
   go_wp2_with fail
   go_roundw
   case rel => exact ⟨i + 1, by omega, by go_num, HBn⟩
   case measure => simp [intOf]; omega
  ·obtain rfl : i = n := by omega
   have c1 : decide ((i : Int) < (i : Int)) = false := decide_eq_false (by omega)
   go_wp2_with fail
   go_ret
   exact ⟨rfl, HB.out⟩
end Go.Proofs.YtkcpkecaliegfaaGreat.P

end
section
set_option linter.unusedVariables false
set_option linter.unusedSimpArgs false
namespace Go.Proofs.YtkcpkecaliegfaaGreat.P
open Go.RowKit Go.Proofs.YtkcpkecaliegfaaGreatW.PrintWords Go.Proofs.YtkcpkecaliegfaaGreatW.PrintLast Go.Proofs.YtkcpkecaliegfaaGreatW.PrintMore

theorem stillInts_st {bk base : Nat} {A A' : Option Addr} {n n' c c' : Nat} {us us' : List Value} {xss : List (List Int)} {w : World} (s : Stat us us' xss) (h : StA (Kd.int .i64) 3 22 base (.slice A n c) (.slice A' n' c') us us' xss w) (h0 : w.cell? ⟨bk, 0, none⟩ = some (.slice A n c)) (h1 : w.cell? ⟨bk, 1, none⟩ = some (.slice A' n' c')) :
  Calls Tryz.prog 42 #[.pointer (some ⟨bk, 0, none⟩)] w fun e w' => e = .returned (.bool true) ∧ Below w.heap.size w w' := by
 obtain ⟨hn, _, hL⟩ := lists_of_raw h.row
 obtain ⟨hn', _, hL'⟩ := lists_of_raw h.row'
 rw [hn] at h0
 rw [hn', s.n] at h1
 exact stillInts_calls bk A A' c c' us us' xss w h0 h1 s.l hL hL' s.n s.x (fun i hi => readsD_of_R (h.own i hi)) h.cop (fun i => by have := s.s i; omega)
theorem putInts_st {bk base : Nat} {A : Option Addr} {n c : Nat} {us us' : List Value} {xss : List (List Int)} {w : World} {cs : Array Value} (s : Stat us us' xss) (h : StB (Kd.int .i64) 3 22 base (.slice A n c) us (fun i => xss.getD i []) w) (hblk : w.heap[bk]? = some (.cells cs 44 (0, 0))) (h0 : w.cell? ⟨bk, 0, none⟩ = some (.slice A n c)) (hb : base ≤ w.heap.size) :
  Calls Tryz.prog 51 #[.pointer (some ⟨bk, 0, none⟩)] w fun e w' => e = .returned (.tuple #[]) ∧ KeepT 3 w w' ∧ Below base w w' ∧ StB (Kd.int .i64) 3 22 base (.slice A n c) us (fun i => marksOf mkInts (i : Int) 0 (xss.getD i []).length) w' := by
 obtain ⟨hn, _, hL⟩ := lists_of_raw h.row
 rw [hn] at h0
 refine (putInts_calls bk A c us xss base w h0 s.l hL h.own s.sep (fun i hi => block_ne (by decide) (h.own i hi) hblk) (StB.rowNe lneInts h) (fun i => by have := s.s i; omega)).mono ?_
 rintro e w' ⟨rfl, hp, hR⟩
 have hk := hp.typed h.own
 exact ⟨rfl, hk, hp.under (fun i hi k e => Kd.R_base (h.own i hi) k e) hb, hk.R rfl lneInts h.row, hR⟩
theorem growInts_st {bk base : Nat} {A : Option Addr} {n c : Nat} {us us' : List Value} {xss : List (List Int)} {w : World} {cs : Array Value} (s : Stat us us' xss) (h : StB (Kd.int .i64) 3 22 base (.slice A n c) us (fun i => marksOf mkInts (i : Int) 0 (xss.getD i []).length) w) (hblk : w.heap[bk]? = some (.cells cs 44 (0, 0))) (h0 : w.cell? ⟨bk, 0, none⟩ = some (.slice A n c)) (hb : base ≤ w.heap.size) :
  Calls Tryz.prog 58 #[.pointer (some ⟨bk, 0, none⟩)] w fun e w' => ∃ (Ag : Option Addr) (ng cg : Nat) (gs : List Value), e = .returned (.slice Ag ng cg) ∧ gs.length = us.length ∧ KeepT 3 w w' ∧ Below base w w' ∧
   StB (Kd.int .i64) 3 22 base (.slice Ag ng cg) gs (fun i => marksOf mkInts (i : Int) 0 ((xss.getD i []).length + 72)) w' ∧ StB (Kd.int .i64) 3 22 base (.slice A n c) us (fun i => marksOf mkInts (i : Int) 0 (xss.getD i []).length) w' := by
 obtain ⟨hn, _, hL⟩ := lists_of_raw h.row
 rw [hn] at h0
 refine (growInts_calls bk A c us (xss.map List.length) base w h0 s.l hL (fun i hi => by rw [getD_len]; exact h.own i hi) s.sep (fun i hi => block_ne (by decide) (h.own i hi) hblk) (StB.rowNe lneInts h) (fun i => by rw [getD_len]; exact s.s i) hb).mono ?_
 rintro e w' ⟨Ag, cg, gs, rfl, hgl, hgr, hg, hu, hp⟩
 have hk := hp.typed h.own
 refine ⟨Ag, us.length, cg, gs, rfl, hgl, hk, hp.under (fun i hi k e => Kd.R_base (h.own i hi) k e) hb, ⟨hgr, fun i hi => ?_⟩, ⟨hk.R rfl lneInts h.row, fun i hi => ?_⟩⟩
 ·have := hg i hi
  rw [getD_len] at this
  exact this
 ·have := hu i hi
  rw [getD_len] at this
  exact this
theorem markedInts_st {base : Nat} {A : Option Addr} {n c : Nat} {us us0 us' : List Value} {xss : List (List Int)} {w : World} {q : Nat} (s : Stat us0 us' xss) (hl : us.length = us0.length) (hq : q ≤ 72) (h : StB (Kd.int .i64) 3 22 base (.slice A n c) us (fun i => marksOf mkInts (i : Int) 0 ((xss.getD i []).length + q)) w) :
  Calls Tryz.prog 66 #[.slice A n c] w fun e w' => e = .returned (.bool true) ∧ Below w.heap.size w w' :=
 markedInts_calls base A n c us (fun i => (xss.getD i []).length + q) w h.row h.own (by rw [hl]; exact s.l) (fun i => by have := s.s i; omega)
end Go.Proofs.YtkcpkecaliegfaaGreat.P

end
section
set_option linter.unusedVariables false
set_option linter.unusedSimpArgs false
namespace Go.Proofs.YtkcpkecaliegfaaGreat.P
open Go.RowKit Go.Proofs.YtkcpkecaliegfaaGreatW.PrintWords Go.Proofs.YtkcpkecaliegfaaGreatW.PrintLast Go.Proofs.YtkcpkecaliegfaaGreatW.PrintMore

def stillTexts.T4 : Bool × List (List Nat × List Nat) := (true, [([], []), ([0], [0]), ([1], [1]), ([2], [2]), ([], []), ([3, 4], [3, 4]), ([5], [5]), ([], []), ([7], [7]), ([8], [8]), ([9], [9]), ([], []), ([10, 11], [10, 11]), ([12], [12]), ([6, 13], [6, 13]), ([14], [14])])
def stillTexts.B4 : List Nat := [0, 1, 3, 7, 0, 31, 63, 0, 128, 384, 896, 0, 3968, 8064, 16383, 32767]
theorem stillTexts.tab4 : rtab .any (opsOf Tryz.f43 4) = stillTexts.T4 := by kernel_rfl
theorem stillTexts.bits4 : waitsOk stillTexts.T4.2 stillTexts.B4 = true := by kernel_rfl
def putTexts.T7 : Bool × List (List Nat × List Nat) := (true, [([], []), ([0], [0]), ([1], [1]), ([2], [2]), ([], []), ([3, 4], [3, 4]), ([5], [5]), ([], []), ([], []), ([], []), ([8, 9], [8, 9]), ([10], [10]), ([6, 7, 0, 1, 2, 3, 4, 5, 6, 7, 8, 9, 10, 11], [6, 7]), ([12, 11, 0, 1, 2, 3, 4, 5, 6, 7, 8, 9, 10, 11], [11, 12])])
def putTexts.B7 : List Nat := [0, 1, 3, 7, 0, 31, 63, 0, 0, 0, 768, 1792, 4095, 8191]
theorem putTexts.tab7 : rtab .any (opsOf Tryz.f52 7) = putTexts.T7 := by kernel_rfl
theorem putTexts.bits7 : waitsOk putTexts.T7.2 putTexts.B7 = true := by kernel_rfl
set_option maxRecDepth 100000 in
set_option maxHeartbeats 4000000 in
theorem stillTexts_calls (bk : Nat) (A A' : Option Addr) (c c' : Nat) (us us' : List Value) (xss : List (List ByteArray)) (w : World) (h0 : w.cell? ⟨bk, 2, none⟩ = some (.slice A us.length c)) (h1 : w.cell? ⟨bk, 3, none⟩ = some (.slice A' us.length c')) (hl : us.length ≤ 1000)
  (hA : Lists w A us) (hA' : Lists w A' us') (hn : us'.length = us.length) (hx : xss.length = us.length) (hr : ∀ i, (h : i < us.length) → ReadsD Kd.string w us[i] (xss.getD i [])) (hr' : ∀ i, (h : i < us'.length) → ReadsD Kd.string w us'[i] (xss.getD i [])) (hs : ∀ i, (xss.getD i []).length ≤ 1000000) :
  Calls Tryz.prog 43 #[.pointer (some ⟨bk, 0, none⟩)] w fun e w' => e = .returned (.bool true) ∧ Below w.heap.size w w' := by
 have H0 := Aside0.mk h0
 have H1 := Aside0.mk h1
 have HA := Aside0.mk hA
 have HA' := Aside0.mk hA'
 have HR := Aside0.mk hr
 have HR' := Aside0.mk hr'
 have HS := Aside0.mk hs
 have HL := Aside0.mk hl
 have HN := Aside0.mk hn
 obtain ⟨n, hnn⟩ : ∃ n, us.length = n := ⟨_, rfl⟩
 have HNN := Aside0.mk hnn
 rw [hnn] at H0 H1
 clear h0 h1 hA hA' hr hr' hs hl hn hx hnn
 go_enter Tryz.func43, Tryz.ntmps43
 go_wp2_with fail
 go_loopw [3] (fun iv wr => ∃ i : Nat, i ≤ n ∧ iv = .int .i64 i ∧ Aside0 (Below w.heap.size w wr)) (fun iv _ => n - (intOf iv).toNat)
 case atStart => exact ⟨0, Nat.zero_le _, rfl, ⟨Below.refl _ _⟩⟩
 case round =>
  obtain ⟨i, hi, rfl, HB⟩ := hrel
  have g0 := pw_cell_below HB.out H0.out
  by_cases hlt : i < n
  ·have c1 : decide ((i : Int) < (n : Int)) = true := decide_eq_true (by omega)
   have c2 : decide (i < n) = true := decide_eq_true hlt
   have v1 : (0 ≤ (i : Int)) = True := eq_true (by omega)
   have v2 : ((i : Int) < (n : Int)) = True := eq_true (by omega)
   have v3 : IntKind.i64.wrap ((i : Int) + 1) = (i : Int) + 1 := IntWalk.i64_in _ (by have := HL.out; have := HNN.out; omega)
   have g1 := pw_cell_below HB.out H1.out
   obtain ⟨ad, hAe, x0⟩ := (HA.out.below HB.out).at_ i (by rw [HNN.out]; exact hlt)
   obtain ⟨ad', hAe', x1⟩ := (HA'.out.below HB.out).at_ i (by rw [HN.out, HNN.out]; exact hlt)
   obtain ⟨a, k, hu, hk, hC⟩ := (HR.out i (by rw [HNN.out]; exact hlt)).below HB.out
   obtain ⟨a', k', hu', hk', hC'⟩ := (HR'.out i (by rw [HN.out, HNN.out]; exact hlt)).below HB.out
   rw [hu] at x0
   rw [hu'] at x1
   have hsm := HS.out i
   obtain ⟨xs, hxs⟩ : ∃ q, xss.getD i [] = q := ⟨_, rfl⟩
   rw [hxs] at x0 x1 hk hk' hC hC' hsm
   have SM := Aside0.mk (fun w' (hb : Below wr.heap.size wr w') => sameTexts_calls a a' k k' xs w' (Kd.C_below hC hb) (Kd.C_below hC' hb) hk hk' hsm)
   subst hAe hAe'
   clear hu hu' hC hC' hk hk' hxs hsm
   go_wp2_with fail
   refine start_ (n := 16) (S := fun w' => Below wr.heap.size wr w') (ds := []) #[false, false, false, false, false, false, false, false, false, false, false, false, false, false, false, false] (by kernel_rfl) rfl rfl (below_drew1 (Below.refl _ _)) (fun hHeld => ?_)
   refine with_tabW stillTexts.tab4 stillTexts.bits4 (fun HT_ HW_ => ?_)
   refine take_ (i := 0) (N := some 13) (v := ?_) (a' := ?_) #[true, false, false, false, false, false, false, false, false, false, false, false, false, false, false, false] rfl rfl (take_ofW HT_.out HW_.out (by kernel_rfl)) (fun _ _ _ h => h) (Or.inl ⟨by rfl, ?_⟩) hHeld ?_ ?_
   rotate_left
   ·intro w' s
    go_simp
    with_reducible rfl
   rotate_left
   ·simp only [Act.put, List.setIfInBounds_toArray, List.set_cons_zero, List.set_cons_succ, i64_w, i32_w]
    rfl
   refine take_ (i := 1) (N := some 14) (v := ?_) (a' := ?_) #[true, true, false, false, false, false, false, false, false, false, false, false, false, false, false, false] rfl rfl (take_ofW HT_.out HW_.out (by kernel_rfl)) (fun _ _ _ h => h) (Or.inl ⟨by rfl, ?_⟩) hHeld ?_ ?_
   rotate_left
   ·intro w' s
    go_simp
    with_reducible rfl
   rotate_left
   ·simp only [Act.put, List.setIfInBounds_toArray, List.set_cons_zero, List.set_cons_succ, i64_w, i32_w]
    rfl
   refine take_ (i := 2) (N := some 15) (v := ?_) (a' := ?_) #[true, true, true, false, false, false, false, false, false, false, false, false, false, false, false, false] rfl rfl (take_ofW HT_.out HW_.out (by kernel_rfl)) (fun _ _ _ h => h) (Or.inl ⟨by rfl, ?_⟩) hHeld ?_ ?_
   rotate_left
   ·intro w' s
    go_simp
    with_reducible rfl
   rotate_left
   ·simp only [Act.put, List.setIfInBounds_toArray, List.set_cons_zero, List.set_cons_succ, i64_w, i32_w]
    rfl
   refine take_ (i := 3) (N := some 16) (v := ?_) (a' := ?_) #[true, true, true, true, false, false, false, false, false, false, false, false, false, false, false, false] rfl rfl (take_ofW HT_.out HW_.out (by kernel_rfl)) (fun _ _ _ h => h) (Or.inl ⟨by rfl, ?_⟩) hHeld ?_ ?_
   rotate_left
   ·intro w' s
    have s0 := pw_cell_below s g0
    have s1 := pw_cell_below s g1
    have s2 := pw_cell_below s x0
    have s3 := pw_cell_below s x1
    go_simp
    with_reducible rfl
   rotate_left
   ·simp only [Act.put, List.setIfInBounds_toArray, List.set_cons_zero, List.set_cons_succ, i64_w, i32_w]
    rfl
   refine take_ (i := 4) (N := some 17) (v := ?_) (a' := ?_) #[true, true, true, true, true, false, false, false, false, false, false, false, false, false, false, false] rfl rfl (take_ofW HT_.out HW_.out (by kernel_rfl)) (fun _ _ _ h => h) (Or.inl ⟨by rfl, ?_⟩) hHeld ?_ ?_
   rotate_left
   ·intro w' s
    go_simp
    with_reducible rfl
   rotate_left
   ·simp only [Act.put, List.setIfInBounds_toArray, List.set_cons_zero, List.set_cons_succ, i64_w, i32_w]
    rfl
   refine take_ (i := 5) (N := some 18) (v := ?_) (a' := ?_) #[true, true, true, true, true, true, false, false, false, false, false, false, false, false, false, false] rfl rfl (take_ofW HT_.out HW_.out (by kernel_rfl)) (fun _ _ _ h => h) (Or.inl ⟨by rfl, ?_⟩) hHeld ?_ ?_
   rotate_left
   ·intro w' s
    go_simp
    with_reducible rfl
   rotate_left
   ·simp only [Act.put, List.setIfInBounds_toArray, List.set_cons_zero, List.set_cons_succ, i64_w, i32_w]
    rfl
   refine take_ (i := 6) (N := some 19) (v := ?_) (a' := ?_) #[true, true, true, true, true, true, true, false, false, false, false, false, false, false, false, false] rfl rfl (take_ofW HT_.out HW_.out (by kernel_rfl)) (fun _ _ _ h => h) (Or.inl ⟨by rfl, ?_⟩) hHeld ?_ ?_
   rotate_left
   ·intro w' s
    have s0 := pw_cell_below s g0
    have s1 := pw_cell_below s g1
    have s2 := pw_cell_below s x0
    have s3 := pw_cell_below s x1
    go_simp
    with_reducible rfl
   rotate_left
   ·simp only [Act.put, List.setIfInBounds_toArray, List.set_cons_zero, List.set_cons_succ, i64_w, i32_w]
    rfl
   refine take_ (i := 7) (N := some 20) (v := ?_) (a' := ?_) #[true, true, true, true, true, true, true, true, false, false, false, false, false, false, false, false] rfl rfl (take_ofW HT_.out HW_.out (by kernel_rfl)) (fun _ _ _ h => h) (Or.inl ⟨by rfl, ?_⟩) hHeld ?_ ?_
   rotate_left
   ·intro w' s
    go_simp
    with_reducible rfl
   rotate_left
   ·simp only [Act.put, List.setIfInBounds_toArray, List.set_cons_zero, List.set_cons_succ, i64_w, i32_w]
    rfl
   refine take_ (i := 8) (N := some 21) (v := ?_) (a' := ?_) #[true, true, true, true, true, true, true, true, true, false, false, false, false, false, false, false] rfl rfl (take_ofW HT_.out HW_.out (by kernel_rfl)) (fun _ _ _ h => h) (Or.inl ⟨by rfl, ?_⟩) hHeld ?_ ?_
   rotate_left
   ·intro w' s
    go_simp
    with_reducible rfl
   rotate_left
   ·simp only [Act.put, List.setIfInBounds_toArray, List.set_cons_zero, List.set_cons_succ, i64_w, i32_w]
    rfl
   refine take_ (i := 9) (N := some 22) (v := ?_) (a' := ?_) #[true, true, true, true, true, true, true, true, true, true, false, false, false, false, false, false] rfl rfl (take_ofW HT_.out HW_.out (by kernel_rfl)) (fun _ _ _ h => h) (Or.inl ⟨by rfl, ?_⟩) hHeld ?_ ?_
   rotate_left
   ·intro w' s
    go_simp
    with_reducible rfl
   rotate_left
   ·simp only [Act.put, List.setIfInBounds_toArray, List.set_cons_zero, List.set_cons_succ, i64_w, i32_w]
    rfl
   refine take_ (i := 10) (N := some 23) (v := ?_) (a' := ?_) #[true, true, true, true, true, true, true, true, true, true, true, false, false, false, false, false] rfl rfl (take_ofW HT_.out HW_.out (by kernel_rfl)) (fun _ _ _ h => h) (Or.inl ⟨by rfl, ?_⟩) hHeld ?_ ?_
   rotate_left
   ·intro w' s
    have s0 := pw_cell_below s g0
    have s1 := pw_cell_below s g1
    have s2 := pw_cell_below s x0
    have s3 := pw_cell_below s x1
    go_simp
    with_reducible rfl
   rotate_left
   ·simp only [Act.put, List.setIfInBounds_toArray, List.set_cons_zero, List.set_cons_succ, i64_w, i32_w]
    rfl
   refine take_ (i := 11) (N := some 24) (v := ?_) (a' := ?_) #[true, true, true, true, true, true, true, true, true, true, true, true, false, false, false, false] rfl rfl (take_ofW HT_.out HW_.out (by kernel_rfl)) (fun _ _ _ h => h) (Or.inl ⟨by rfl, ?_⟩) hHeld ?_ ?_
   rotate_left
   ·intro w' s
    go_simp
    with_reducible rfl
   rotate_left
   ·simp only [Act.put, List.setIfInBounds_toArray, List.set_cons_zero, List.set_cons_succ, i64_w, i32_w]
    rfl
   refine take_ (i := 12) (N := some 25) (v := ?_) (a' := ?_) #[true, true, true, true, true, true, true, true, true, true, true, true, true, false, false, false] rfl rfl (take_ofW HT_.out HW_.out (by kernel_rfl)) (fun _ _ _ h => h) (Or.inl ⟨by rfl, ?_⟩) hHeld ?_ ?_
   rotate_left
   ·intro w' s
    go_simp
    with_reducible rfl
   rotate_left
   ·simp only [Act.put, List.setIfInBounds_toArray, List.set_cons_zero, List.set_cons_succ, i64_w, i32_w]
    rfl
   refine take_ (i := 13) (N := some 26) (v := ?_) (a' := ?_) #[true, true, true, true, true, true, true, true, true, true, true, true, true, true, false, false] rfl rfl (take_ofW HT_.out HW_.out (by kernel_rfl)) (fun _ _ _ h => h) (Or.inl ⟨by rfl, ?_⟩) hHeld ?_ ?_
   rotate_left
   ·intro w' s
    have s0 := pw_cell_below s g0
    have s1 := pw_cell_below s g1
    have s2 := pw_cell_below s x0
    have s3 := pw_cell_below s x1
    go_simp
    with_reducible rfl
   rotate_left
   ·simp only [Act.put, List.setIfInBounds_toArray, List.set_cons_zero, List.set_cons_succ, i64_w, i32_w]
    rfl
   refine one_ (i := 14) (N := some 27) #[true, true, true, true, true, true, true, true, true, true, true, true, true, true, true, false] rfl rfl (one_of HT_.out (by kernel_rfl)) (by decide) (fun K hK => ?_)
   refine goes_ Tryz.func35 (by kernel_rfl) rfl #[.slice a xs.length k, .slice a' xs.length k'] (by rfl) rfl rfl (by (try simp only [List.map_toArray, List.map_cons, List.map_nil]); first | done | rfl | (simp only [List.length_drop, List.length_take]; rfl)) ?_
   refine (SM.out _ hHeld).mono ?_
   rintro en w8 ⟨rfl, hb⟩
   refine ⟨_, rfl, ?_⟩
   have hS8 := below_step hHeld hb
   refine hK.out _ _ hS8 (fun hHeld => ?_)
   clear hK K
   refine norm_ (a' := ?_) ?_ ?_
   rotate_left
   ·show Act.put _ (some 27) _ = _
    simp only [Act.put, List.setIfInBounds_toArray, List.set_cons_zero, List.set_cons_succ, i64_w, i32_w]
    rfl
   refine take_ (i := 15) (N := some 28) (v := ?_) (a' := ?_) #[true, true, true, true, true, true, true, true, true, true, true, true, true, true, true, true] rfl rfl (take_ofW HT_.out HW_.out (by kernel_rfl)) (fun _ _ _ h => h) (Or.inl ⟨by rfl, ?_⟩) hHeld ?_ ?_
   rotate_left
   ·intro w' s
    go_simp
    with_reducible rfl
   rotate_left
   ·simp only [Act.put, List.setIfInBounds_toArray, List.set_cons_zero, List.set_cons_succ, i64_w, i32_w]
    rfl
   refine done_ (done_of HT_.out (by kernel_rfl)) ?_
   have HBn := Aside0.mk (below_step HB.out hHeld)
   clear hHeld g0 g1 x0 x1
   go_wp2_with fail
   go_roundw
   case rel => exact ⟨i + 1, by omega, by go_num, HBn⟩
   case measure => simp [intOf]; omega
  ·obtain rfl : i = n := by omega
   have c1 : decide ((i : Int) < (i : Int)) = false := decide_eq_false (by omega)
   go_wp2_with fail
   go_ret
   exact ⟨rfl, HB.out⟩
set_option maxRecDepth 100000 in
set_option maxHeartbeats 4000000 in
theorem putTexts_calls (bk : Nat) (A : Option Addr) (c : Nat) (us : List Value) (xss : List (List ByteArray)) (base : Nat) (w : World) (h0 : w.cell? ⟨bk, 2, none⟩ = some (.slice A us.length c)) (hl : us.length ≤ 1000)
  (hA : Lists w A us) (hR : ∀ i, (h : i < us.length) → Kd.R Kd.string 9 w base (fun _ => True) us[i] (xss.getD i [])) (hsep : ∀ i j, (hi : i < us.length) → (hj : j < us.length) → i ≠ j → ∀ k, us[i].ownBlock = some k → us[j].ownBlock ≠ some k)
  (hbk : ∀ i, (h : i < us.length) → us[i].ownBlock ≠ some bk) (hrow : ∀ i, (h : i < us.length) → ∀ ad, A = some ad → us[i].ownBlock ≠ some ad.block) (hs : ∀ i, (xss.getD i []).length ≤ 1000000) :
  Calls Tryz.prog 52 #[.pointer (some ⟨bk, 0, none⟩)] w fun e w' => e = .returned (.tuple #[]) ∧ PutKeep us w w' ∧
   ∀ i, (h : i < us.length) → Kd.R Kd.string 9 w' base (fun _ => True) us[i] (marksOf mkTexts (i : Int) 0 (xss.getD i []).length) := by
 have H0 := Aside0.mk h0
 have HA := Aside0.mk hA
 have HR := Aside0.mk hR
 have HSEP := Aside0.mk hsep
 have HBK := Aside0.mk hbk
 have HROW := Aside0.mk hrow
 have HS := Aside0.mk hs
 have HL := Aside0.mk hl
 obtain ⟨n, hnn⟩ : ∃ n, us.length = n := ⟨_, rfl⟩
 have HNN := Aside0.mk hnn
 rw [hnn] at H0
 clear h0 hA hR hsep hbk hrow hs hl hnn
 go_enter Tryz.func52, Tryz.ntmps52
 go_wp2_with fail
 go_loopw [2] (fun iv wr => ∃ i : Nat, i ≤ n ∧ iv = .int .i64 i ∧ Aside0 (PutKeep us w wr) ∧ Aside0 (∀ j, (h : j < us.length) → Kd.R Kd.string 9 wr base (fun _ => True) us[j] (if j < i then marksOf mkTexts (j : Int) 0 (xss.getD j []).length else xss.getD j []))) (fun iv _ => n - (intOf iv).toNat)
 case atStart => exact ⟨0, Nat.zero_le _, rfl, ⟨PutKeep.refl _ _⟩, ⟨fun j h => by rw [if_neg (by omega)]; exact HR.out j h⟩⟩
 case round =>
  obtain ⟨i, hi, rfl, HP, HRr⟩ := hrel
  have g0 := HP.out.cell (a := ⟨bk, 2, none⟩) HBK.out H0.out
  by_cases hlt : i < n
  ·have hiu : i < us.length := by rw [HNN.out]; exact hlt
   have c1 : decide ((i : Int) < (n : Int)) = true := decide_eq_true (by omega)
   have c2 : decide (i < n) = true := decide_eq_true hlt
   have v1 : (0 ≤ (i : Int)) = True := eq_true (by omega)
   have v2 : ((i : Int) < (n : Int)) = True := eq_true (by omega)
   have v3 : IntKind.i64.wrap ((i : Int) + 1) = (i : Int) + 1 := IntWalk.i64_in _ (by have := HL.out; have := HNN.out; omega)
   obtain ⟨ad, hAe, x0⟩ := HA.out.at_ i hiu
   have hra : ∀ j, (h : j < us.length) → us[j].ownBlock ≠ some (ad.add i).block := by
    intro j h
    have : (ad.add i).block = ad.block := by unfold Addr.add; split <;> rfl
    rw [this]
    exact HROW.out j h ad hAe
   have HRA := Aside0.mk hra
   have HX0 := Aside0.mk x0
   have x0 := HP.out.cell (a := ad.add i) hra x0
   have hRi := HRr.out i hiu
   rw [if_neg (by omega)] at hRi
   obtain ⟨xs, hxs⟩ : ∃ q, xss.getD i [] = q := ⟨_, rfl⟩
   have hsm := HS.out i
   have HXS := Aside0.mk hxs
   rw [hxs] at hRi hsm
   obtain ⟨Ai, ci, hui⟩ := Kd.R_slice hRi
   have HUI := Aside0.mk hui
   rw [hui] at x0 hRi
   have HRi := Aside0.mk hRi
   obtain ⟨m, hm⟩ : ∃ m, xs.length = m := ⟨_, rfl⟩
   have HM := Aside0.mk hm
   rw [hm] at x0 hsm
   have MK := Aside0.mk (markTexts_calls i 0 m wr (by have := HL.out; have := HNN.out; omega) (by omega))
   have HSM := Aside0.mk hsm
   subst hAe
   clear hra hxs hui hRi hm hsm
   go_wp2_with fail
   refine MK.out.mono ?_
   rintro en w1 ⟨v3, rfl, hR3, hb1⟩
   obtain ⟨A3, c3, rfl⟩ := Kd.R_slice hR3
   rw [marks_len] at hR3
   have HR3 := Aside0.mk hR3
   have HB1 := Aside0.mk hb1
   rw [marks_len]
   clear hR3 hb1 MK g0 x0
   go_wp2_with fail
   have HU1 : Aside0 (Kd.R Kd.string 9 w1 base (fun _ => True) (.slice Ai m ci) (marksOf mkTexts (i : Int) 0 0 ++ xs.drop 0)) := ⟨by rw [show marksOf mkTexts (i : Int) 0 0 ++ xs.drop 0 = xs from rfl]; have h := HRi.out; rw [HM.out] at h; exact Kd.R_below h HB1.out⟩
   have HG1 : Aside0 (w1.grownBy w1 (Value.slice Ai m ci).ownBlock) := ⟨World.grownBy.refl _ _⟩
   have hown : (Value.slice Ai m ci).ownBlock = us[i].ownBlock := by rw [HUI.out, HM.out]
   have HOWN := Aside0.mk hown
   have HP1 := Aside0.mk (HP.out.below HB1.out)
   clear hown
   go_loopw [4] (fun iv wr => ∃ k : Nat, k ≤ m ∧ iv = .int .i64 k ∧ Aside0 (w1.grownBy wr (Value.slice Ai m ci).ownBlock) ∧ Aside0 (Kd.R Kd.string 9 wr base (fun _ => True) (.slice Ai m ci) (marksOf mkTexts (i : Int) 0 k ++ xs.drop k))) (fun iv _ => m - (intOf iv).toNat)
   case atStart => exact ⟨0, Nat.zero_le _, rfl, HG1, HU1⟩
   case round =>
    obtain ⟨k, hk, rfl, HG, HRk⟩ := hrel
    have HPk := Aside0.mk (HP1.out.grown i hiu (by rw [← HOWN.out]; exact HG.out))
    by_cases hkm : k < m
    ·have d1 : decide ((k : Int) < (m : Int)) = true := decide_eq_true (by omega)
     have d2 : decide (k < m) = true := decide_eq_true hkm
     have d3 : (0 ≤ (k : Int)) = True := eq_true (by omega)
     have d4 : ((k : Int) < (m : Int)) = True := eq_true (by omega)
     have d5 : IntKind.i64.wrap ((k : Int) + 1) = (k : Int) + 1 := IntWalk.i64_in _ (by have := HSM.out; omega)
     have g0 := HPk.out.cell (a := ⟨bk, 2, none⟩) HBK.out H0.out
     have x0 := HPk.out.cell (a := ad.add i) HRA.out HX0.out
     rw [HUI.out, HM.out] at x0
     obtain ⟨L, hL⟩ : ∃ L, marksOf mkTexts (i : Int) 0 k ++ xs.drop k = L := ⟨_, rfl⟩
     have hlen : L.length = m := by rw [← hL, List.length_append, marks_len, List.length_drop, HM.out]; omega
     have hset : L.set k (mkTexts (i : Int) k) = marksOf mkTexts (i : Int) 0 (k + 1) ++ xs.drop (k + 1) := by rw [← hL]; exact marks_set _ _ _ _ (by rw [HM.out]; exact hkm)
     have hRk := HRk.out
     rw [hL, ← hlen] at hRk
     obtain ⟨g, cg, hform, _⟩ := Kd.R_form hRk (by omega)
     have hAi : Ai = some ⟨g, 0, none⟩ := by injection hform
     clear hform cg
     rw [hAi] at hRk
     have hR3 := Kd.R_grown2 HR3.out rfl HG.out (fun q hq he => by
      have h1 := Kd.R_base HR3.out q he.symm
      have h2 := Kd.R_lt HRi.out q (by rw [HM.out]; exact hq)
      omega)
     obtain ⟨ad3, hA3, y0⟩ := flat_at1 flatTexts rfl rfl ByteArray.empty (Kd.R_reads' hR3).2.2 k (by rw [marks_len]; omega)
     rw [marks_rd _ _ _ _ _ hkm] at y0
     have HRK := Aside0.mk hRk
     have HSET := Aside0.mk hset
     have HLEN := Aside0.mk hlen
     have HAI := Aside0.mk hAi
     rw [hAi] at x0
     clear hL hset hlen hRk hR3 hAi
     subst hA3
     go_wp2_with fail
     refine start_ (n := 14) (S := fun w' => Below wr.heap.size wr w') (ds := [13]) #[false, false, false, false, false, false, false, false, false, false, false, false, false, false] (by kernel_rfl) rfl rfl (below_drew1 (Below.refl _ _)) (fun hHeld => ?_)
     refine with_tabW putTexts.tab7 putTexts.bits7 (fun HT_ HW_ => ?_)
     refine take_ (i := 0) (N := some 30) (v := ?_) (a' := ?_) #[true, false, false, false, false, false, false, false, false, false, false, false, false, false] rfl rfl (take_ofW HT_.out HW_.out (by kernel_rfl)) (fun _ _ _ h => h) (Or.inl ⟨by rfl, ?_⟩) hHeld ?_ ?_
     rotate_left
     ·intro w' s
      go_simp
      with_reducible rfl
     rotate_left
     ·simp only [Act.put, List.setIfInBounds_toArray, List.set_cons_zero, List.set_cons_succ, i64_w, i32_w]
      rfl
     refine take_ (i := 1) (N := some 31) (v := ?_) (a' := ?_) #[true, true, false, false, false, false, false, false, false, false, false, false, false, false] rfl rfl (take_ofW HT_.out HW_.out (by kernel_rfl)) (fun _ _ _ h => h) (Or.inl ⟨by rfl, ?_⟩) hHeld ?_ ?_
     rotate_left
     ·intro w' s
      go_simp
      with_reducible rfl
     rotate_left
     ·simp only [Act.put, List.setIfInBounds_toArray, List.set_cons_zero, List.set_cons_succ, i64_w, i32_w]
      rfl
     refine take_ (i := 2) (N := some 32) (v := ?_) (a' := ?_) #[true, true, true, false, false, false, false, false, false, false, false, false, false, false] rfl rfl (take_ofW HT_.out HW_.out (by kernel_rfl)) (fun _ _ _ h => h) (Or.inl ⟨by rfl, ?_⟩) hHeld ?_ ?_
     rotate_left
     ·intro w' s
      go_simp
      with_reducible rfl
     rotate_left
     ·simp only [Act.put, List.setIfInBounds_toArray, List.set_cons_zero, List.set_cons_succ, i64_w, i32_w]
      rfl
     refine take_ (i := 3) (N := some 33) (v := ?_) (a' := ?_) #[true, true, true, true, false, false, false, false, false, false, false, false, false, false] rfl rfl (take_ofW HT_.out HW_.out (by kernel_rfl)) (fun _ _ _ h => h) (Or.inl ⟨by rfl, ?_⟩) hHeld ?_ ?_
     rotate_left
     ·intro w' s
      have s0 := pw_cell_below s g0
      have s1 := pw_cell_below s x0
      have s2 := pw_cell_below s y0
      go_simp
      with_reducible rfl
     rotate_left
     ·simp only [Act.put, List.setIfInBounds_toArray, List.set_cons_zero, List.set_cons_succ, i64_w, i32_w]
      rfl
     refine take_ (i := 4) (N := some 34) (v := ?_) (a' := ?_) #[true, true, true, true, true, false, false, false, false, false, false, false, false, false] rfl rfl (take_ofW HT_.out HW_.out (by kernel_rfl)) (fun _ _ _ h => h) (Or.inl ⟨by rfl, ?_⟩) hHeld ?_ ?_
     rotate_left
     ·intro w' s
      go_simp
      with_reducible rfl
     rotate_left
     ·simp only [Act.put, List.setIfInBounds_toArray, List.set_cons_zero, List.set_cons_succ, i64_w, i32_w]
      rfl
     refine take_ (i := 5) (N := some 35) (v := ?_) (a' := ?_) #[true, true, true, true, true, true, false, false, false, false, false, false, false, false] rfl rfl (take_ofW HT_.out HW_.out (by kernel_rfl)) (fun _ _ _ h => h) (Or.inl ⟨by rfl, ?_⟩) hHeld ?_ ?_
     rotate_left
     ·intro w' s
      go_simp
      with_reducible rfl
     rotate_left
     ·simp only [Act.put, List.setIfInBounds_toArray, List.set_cons_zero, List.set_cons_succ, i64_w, i32_w]
      rfl
     refine take_ (i := 6) (N := some 36) (v := ?_) (a' := ?_) #[true, true, true, true, true, true, true, false, false, false, false, false, false, false] rfl rfl (take_ofW HT_.out HW_.out (by kernel_rfl)) (fun _ _ _ h => h) (Or.inl ⟨by rfl, ?_⟩) hHeld ?_ ?_
     rotate_left
     ·intro w' s
      have s0 := pw_cell_below s g0
      have s1 := pw_cell_below s x0
      have s2 := pw_cell_below s y0
      go_simp
      with_reducible rfl
     rotate_left
     ·simp only [Act.put, List.setIfInBounds_toArray, List.set_cons_zero, List.set_cons_succ, i64_w, i32_w]
      rfl
     refine take_ (i := 7) (N := some 37) (v := ?_) (a' := ?_) #[true, true, true, true, true, true, true, true, false, false, false, false, false, false] rfl rfl (take_ofW HT_.out HW_.out (by kernel_rfl)) (fun _ _ _ h => h) (Or.inl ⟨by rfl, ?_⟩) hHeld ?_ ?_
     rotate_left
     ·intro w' s
      go_simp
      with_reducible rfl
     rotate_left
     ·simp only [Act.put, List.setIfInBounds_toArray, List.set_cons_zero, List.set_cons_succ, i64_w, i32_w]
      rfl
     refine take_ (i := 8) (N := some 38) (v := ?_) (a' := ?_) #[true, true, true, true, true, true, true, true, true, false, false, false, false, false] rfl rfl (take_ofW HT_.out HW_.out (by kernel_rfl)) (fun _ _ _ h => h) (Or.inl ⟨by rfl, ?_⟩) hHeld ?_ ?_
     rotate_left
     ·intro w' s
      go_simp
      with_reducible rfl
     rotate_left
     ·simp only [Act.put, List.setIfInBounds_toArray, List.set_cons_zero, List.set_cons_succ, i64_w, i32_w]
      rfl
     refine take_ (i := 9) (N := some 39) (v := ?_) (a' := ?_) #[true, true, true, true, true, true, true, true, true, true, false, false, false, false] rfl rfl (take_ofW HT_.out HW_.out (by kernel_rfl)) (fun _ _ _ h => h) (Or.inl ⟨by rfl, ?_⟩) hHeld ?_ ?_
     rotate_left
     ·intro w' s
      go_simp
      with_reducible rfl
     rotate_left
     ·simp only [Act.put, List.setIfInBounds_toArray, List.set_cons_zero, List.set_cons_succ, i64_w, i32_w]
      rfl
     refine take_ (i := 10) (N := some 40) (v := ?_) (a' := ?_) #[true, true, true, true, true, true, true, true, true, true, true, false, false, false] rfl rfl (take_ofW HT_.out HW_.out (by kernel_rfl)) (fun _ _ _ h => h) (Or.inl ⟨by rfl, ?_⟩) hHeld ?_ ?_
     rotate_left
     ·intro w' s
      go_simp
      with_reducible rfl
     rotate_left
     ·simp only [Act.put, List.setIfInBounds_toArray, List.set_cons_zero, List.set_cons_succ, i64_w, i32_w]
      rfl
     refine take_ (i := 11) (N := some 41) (v := ?_) (a' := ?_) #[true, true, true, true, true, true, true, true, true, true, true, true, false, false] rfl rfl (take_ofW HT_.out HW_.out (by kernel_rfl)) (fun _ _ _ h => h) (Or.inl ⟨by rfl, ?_⟩) hHeld ?_ ?_
     rotate_left
     ·intro w' s
      have s0 := pw_cell_below s g0
      have s1 := pw_cell_below s x0
      have s2 := pw_cell_below s y0
      go_simp
      with_reducible rfl
     rotate_left
     ·simp only [Act.put, List.setIfInBounds_toArray, List.set_cons_zero, List.set_cons_succ, i64_w, i32_w]
      rfl
     refine take_ (i := 12) (N := some 42) (v := ?_) (a' := ?_) #[true, true, true, true, true, true, true, true, true, true, true, true, true, false] rfl rfl (take_ofW HT_.out HW_.out (by kernel_rfl)) (fun _ _ _ h => h) (Or.inl ⟨by rfl, ?_⟩) hHeld ?_ ?_
     rotate_left
     ·intro w' s
      go_simp
      with_reducible rfl
     rotate_left
     ·simp only [Act.put, List.setIfInBounds_toArray, List.set_cons_zero, List.set_cons_succ, i64_w, i32_w]
      rfl
     refine last_ (i := 13) (N := none) #[true, true, true, true, true, true, true, true, true, true, true, true, true, true] rfl rfl (one_of HT_.out (by kernel_rfl)) (by decide) (fun K hK => ?_)
     have hRd := Kd.R_below HRK.out hHeld
     obtain ⟨z0, z1⟩ := Kd.R_cell (ByteArray.empty) hRd (k : Int) (by omega) (by have := HLEN.out; omega)
     have hput := Kd.R_put hRd (k : Int) (mkTexts (i : Int) k)
     rw [Int.toNat_natCast] at z0 z1 hput
     have HBd := Aside0.mk hHeld
     obtain ⟨w2, hw2⟩ : ∃ x, World.setCell wr.drew ⟨g, k, none⟩ (.string (mkTexts (i : Int) k)) = x := ⟨_, rfl⟩
     refine skip_ (w1 := World.setCell wr.drew ⟨g, k, none⟩ (.string (mkTexts (i : Int) k))) (by rfl) rfl (by first | (go_simp; done) | (go_simp; rfl)) (hK.out _ _ ?_)
     rw [hw2] at hput ⊢
     have HR2 := Aside0.mk hput.1
     have HP2 := Aside0.mk hput.2
     clear hRd hput z0 z1 hw2 hHeld g0 x0 y0
     clear hK K
     refine done_ (done_of HT_.out (by kernel_rfl)) ?_
     have HGn : Aside0 (w1.grownBy w2 (Value.slice Ai m ci).ownBlock) := ⟨by rw [HAI.out]; rw [HAI.out] at HG; exact World.grownBy.trans HG.out (World.grownBy.trans (grown_of_below HBd.out _) HP2.out)⟩
     have HRn : Aside0 (Kd.R Kd.string 9 w2 base (fun _ => True) (.slice Ai m ci) (marksOf mkTexts (i : Int) 0 (k + 1) ++ xs.drop (k + 1))) := ⟨by rw [HAI.out, ← HLEN.out, ← HSET.out]; exact HR2.out⟩
     go_wp2_with fail
     go_roundw
     case rel => exact ⟨k + 1, by omega, by go_num, HGn, HRn⟩
     case measure => simp [intOf]; omega
    ·obtain rfl : k = m := by omega
     have d1 : decide ((k : Int) < (k : Int)) = false := decide_eq_false (by omega)
     have hfin : marksOf mkTexts (i : Int) 0 k ++ xs.drop k = marksOf mkTexts (i : Int) 0 k := by rw [List.drop_eq_nil_of_le (by rw [HM.out]; exact Nat.le_refl _), List.append_nil]
     have hRn : ∀ j, (h : j < us.length) → Kd.R Kd.string 9 wr base (fun _ => True) us[j] (if j < i + 1 then marksOf mkTexts (j : Int) 0 (xss.getD j []).length else xss.getD j []) := by
      intro j hj
      by_cases e : j = i
      ·subst e
       rw [if_pos (by omega), HXS.out, HM.out, HUI.out, HM.out, ← hfin]
       exact HRk.out
      ·have h1 := HRr.out j hj
       have h2 : Kd.R Kd.string 9 wr base (fun _ => True) us[j] (if j < i then marksOf mkTexts (j : Int) 0 (xss.getD j []).length else xss.getD j []) :=
        Kd.R_grown2 (Kd.R_below h1 HB1.out) rfl HG.out (fun q hq he => HSEP.out i j hiu hj (fun e' => e e'.symm) q (by rw [← HOWN.out]; exact hq) he.symm)
       by_cases e2 : j < i
       ·rw [if_pos (by omega)]; rw [if_pos e2] at h2; exact h2
       ·rw [if_neg (by omega)]; rw [if_neg e2] at h2; exact h2
     have HRN := Aside0.mk hRn
     clear hRn hfin
     go_wp2_with fail
     go_roundw
     case rel => exact ⟨i + 1, by omega, by go_num, HPk, HRN⟩
     case measure => simp [intOf]; omega
  ·obtain rfl : i = n := by omega
   have c1 : decide ((i : Int) < (i : Int)) = false := decide_eq_false (by omega)
   go_wp2_with fail
   go_end0
   refine ⟨rfl, HP.out, fun j h => ?_⟩
   have hj := HRr.out j h
   rw [if_pos (by rw [← HNN.out]; exact h)] at hj
   exact hj
end Go.Proofs.YtkcpkecaliegfaaGreat.P

end
section
set_option linter.unusedVariables false
set_option linter.unusedSimpArgs false
namespace Go.Proofs.YtkcpkecaliegfaaGreat.P
open Go.RowKit Go.Proofs.YtkcpkecaliegfaaGreatW.PrintWords Go.Proofs.YtkcpkecaliegfaaGreatW.PrintLast Go.Proofs.YtkcpkecaliegfaaGreatW.PrintMore

set_option maxRecDepth 100000 in
set_option maxHeartbeats 4000000 in
theorem growTexts_calls (bk : Nat) (A : Option Addr) (c : Nat) (us : List Value) (ms : List Nat) (base : Nat) (w : World) (h0 : w.cell? ⟨bk, 2, none⟩ = some (.slice A us.length c)) (hl : us.length ≤ 1000)
  (hA : Lists w A us) (hR : ∀ i, (h : i < us.length) → Kd.R Kd.string 9 w base (fun _ => True) us[i] (marksOf mkTexts (i : Int) 0 (ms.getD i 0))) (hsep : ∀ i j, (hi : i < us.length) → (hj : j < us.length) → i ≠ j → ∀ k, us[i].ownBlock = some k → us[j].ownBlock ≠ some k)
  (hbk : ∀ i, (h : i < us.length) → us[i].ownBlock ≠ some bk) (hrow : ∀ i, (h : i < us.length) → ∀ ad, A = some ad → us[i].ownBlock ≠ some ad.block) (hs : ∀ i, ms.getD i 0 ≤ 900000) (hbase : base ≤ w.heap.size) :
  Calls Tryz.prog 59 #[.pointer (some ⟨bk, 0, none⟩)] w fun e w' => ∃ (Ag : Option Addr) (cg : Nat) (gs : List Value), e = .returned (.slice Ag us.length cg) ∧ gs.length = us.length ∧ Kd.R (Kd.raw 1) 23 w' base (fun _ => True) (.slice Ag us.length cg) (gs.map fun v => [v]) ∧
   (∀ i, (h : i < gs.length) → Kd.R Kd.string 9 w' base (fun _ => True) gs[i] (marksOf mkTexts (i : Int) 0 (ms.getD i 0 + 72))) ∧ (∀ i, (h : i < us.length) → Kd.R Kd.string 9 w' base (fun _ => True) us[i] (marksOf mkTexts (i : Int) 0 (ms.getD i 0))) ∧ PutKeep us w w' := by
 have H0 := Aside0.mk h0
 have HA := Aside0.mk hA
 have HSEP := Aside0.mk hsep
 have HBK := Aside0.mk hbk
 have HROW := Aside0.mk hrow
 have HS := Aside0.mk hs
 have HL := Aside0.mk hl
 have HBASE := Aside0.mk hbase
 have HLT := Aside0.mk (fun i h => Kd.R_lt (hR i h))
 have HR0 := Aside0.mk hR
 obtain ⟨n, hnn⟩ : ∃ n, us.length = n := ⟨_, rfl⟩
 have HNN := Aside0.mk hnn
 rw [hnn] at H0
 have HOut0 : Aside0 (Kd.R (Kd.raw 1) 23 w w.heap.size (fun _ => True) (.slice none 0 0) (([] : List Value).map fun v => [v])) := ⟨Kd.R_nil _ _ _ _ _⟩
 clear h0 hA hR hsep hbk hrow hs hl hnn hbase
 go_enter Tryz.func59, Tryz.ntmps59
 go_wp2_with fail
 go_loopw [3, 4] (fun out iv wr => ∃ gs : List Value, gs.length ≤ n ∧ iv = .int .i64 gs.length ∧ Aside0 (PutKeep us w wr) ∧ Aside0 (Kd.R (Kd.raw 1) 23 wr w.heap.size (fun _ => True) out (gs.map fun v => [v])) ∧
  Aside0 (∀ j, (h : j < us.length) → Kd.R Kd.string 9 wr base (fun _ => True) us[j] (marksOf mkTexts (j : Int) 0 (ms.getD j 0))) ∧
  Aside0 (∀ j, (h : j < gs.length) → (hu : j < us.length) → Kd.R Kd.string 9 wr base (fun _ => True) gs[j] (marksOf mkTexts (j : Int) 0 (ms.getD j 0 + 72)) ∧ (gs[j].ownBlock = us[j].ownBlock ∨ ∃ b, gs[j].ownBlock = some b ∧ w.heap.size ≤ b))) (fun _ iv _ => n - (intOf iv).toNat)
 case atStart => exact ⟨[], Nat.zero_le _, rfl, ⟨PutKeep.refl _ _⟩, HOut0, ⟨HR0.out⟩, ⟨fun j h => absurd h (Nat.not_lt_zero _)⟩⟩
 case round =>
  obtain ⟨gs, hi, rfl, HP, HO, HU, HG⟩ := hrel
  obtain ⟨i, hgi⟩ : ∃ i, gs.length = i := ⟨_, rfl⟩
  have HGI := Aside0.mk hgi
  rw [hgi] at hi ⊢
  clear hgi
  have g0 := HP.out.cell (a := ⟨bk, 2, none⟩) HBK.out H0.out
  obtain ⟨Ao, co, ho⟩ := Kd.R_slice HO.out
  rw [List.length_map, HGI.out] at ho
  subst ho
  by_cases hlt : i < n
  ·have hiu : i < us.length := by rw [HNN.out]; exact hlt
   have c1 : decide ((i : Int) < (n : Int)) = true := decide_eq_true (by omega)
   have c2 : decide (i < n) = true := decide_eq_true hlt
   have v1 : (0 ≤ (i : Int)) = True := eq_true (by omega)
   have v2 : ((i : Int) < (n : Int)) = True := eq_true (by omega)
   have v3 : IntKind.i64.wrap ((i : Int) + 1) = (i : Int) + 1 := IntWalk.i64_in _ (by have := HL.out; have := HNN.out; omega)
   obtain ⟨ad, hAe, x0⟩ := HA.out.at_ i hiu
   have hra : ∀ j, (h : j < us.length) → us[j].ownBlock ≠ some (ad.add i).block := by
    intro j h
    have : (ad.add i).block = ad.block := by unfold Addr.add; split <;> rfl
    rw [this]
    exact HROW.out j h ad hAe
   have x0 := HP.out.cell (a := ad.add i) hra x0
   obtain ⟨u, hu⟩ : ∃ u, us[i] = u := ⟨_, rfl⟩
   have HUE := Aside0.mk hu
   obtain ⟨m, hm⟩ : ∃ m, ms.getD i 0 = m := ⟨_, rfl⟩
   have HME := Aside0.mk hm
   have hRu := HU.out i hiu
   rw [hu, hm] at hRu
   rw [hu] at x0
   have hsm := HS.out i
   rw [hm] at hsm
   have HSM := Aside0.mk hsm
   have G0 : Aside0 (Grows Kd.string 9 mkTexts wr wr base u u (i : Int) m (m + 0)) := ⟨Grows.start hRu (Nat.le_trans HBASE.out HP.out.size)⟩
   have HRU := Aside0.mk hRu
   subst hAe
   clear hra hu hm hRu hsm
   go_wp2_with fail
   clear g0 x0
   go_loopw [5, 6] (fun v iv wk => ∃ r : Nat, r ≤ 12 ∧ iv = .int .i64 r ∧ Aside0 (Grows Kd.string 9 mkTexts wr wk base u v (i : Int) m (m + r))) (fun _ iv _ => 12 - (intOf iv).toNat)
   case atStart => exact ⟨0, Nat.zero_le _, rfl, G0⟩
   case round =>
    obtain ⟨r, hr, rfl, HGr⟩ := hrel
    obtain ⟨Av, cv, hv⟩ := Kd.R_slice HGr.out.cur
    rw [marks_len] at hv
    subst hv
    by_cases hr12 : r < 12
    ·have d1 : decide ((r : Int) < 12) = true := decide_eq_true (by omega)
     have d2 : decide (r < 12) = true := decide_eq_true hr12
     have d5 : IntKind.i64.wrap ((r : Int) + 1) = (r : Int) + 1 := IntWalk.i64_in _ (by omega)
     have MK := Aside0.mk (markTexts_calls i (m + r) 1 wr (by have := HL.out; have := HNN.out; omega) (by have := HSM.out; omega))
     go_wp2_with fail
     refine MK.out.mono ?_
     rintro en w1 ⟨v3, rfl, hR3, hb1⟩
     obtain ⟨A3, c3, rfl⟩ := Kd.R_slice hR3
     rw [marks_len] at hR3
     rw [marks_len]
     have hC3 := (Kd.R_reads' hR3).2.2
     rw [marks_len] at hC3
     obtain ⟨v', W', hrun, hgr⟩ := Grows.append flatTexts Tryz.underlying23 infoTexts (by decide) (by decide) (by decide) (HGr.out.below hb1) 1 (by decide) (by have := HSM.out; omega) A3 c3 hC3 23
     have HRUN := Aside0.mk hrun
     have HGn := Aside0.mk hgr
     clear hR3 hC3 hb1 hrun hgr MK
     go_wp2_with (first
      | ((with_reducible refine gate_builtin (b := .append) (xs := #[.tmp 27, .tmp 31]) rfl ?_); (refine append_event rfl (.tmp 27) (.tmp 31) 23 rfl rfl rfl HRUN.out ?_)))
     go_roundw
     case rel => exact ⟨r + 1, by omega, by go_num, HGn⟩
     case measure => simp [intOf]; omega
    ·obtain rfl : r = 12 := by omega
     have d1 : decide (((12 : Nat) : Int) < 12) = false := by decide
     have MK := Aside0.mk (markTexts_calls i (m + 12) 60 wr (by have := HL.out; have := HNN.out; omega) (by have := HSM.out; omega))
     go_wp2_with fail
     refine MK.out.mono ?_
     rintro en w1 ⟨v3, rfl, hR3, hb1⟩
     obtain ⟨A3, c3, rfl⟩ := Kd.R_slice hR3
     rw [marks_len] at hR3
     rw [marks_len]
     have hC3 := (Kd.R_reads' hR3).2.2
     rw [marks_len] at hC3
     obtain ⟨v', W', hrun, hgr⟩ := Grows.append flatTexts Tryz.underlying23 infoTexts (by decide) (by decide) (by decide) (HGr.out.below hb1) 60 (by decide) (by have := HSM.out; omega) A3 c3 hC3 23
     obtain ⟨Aw, cw, hw⟩ := Kd.R_slice hgr.cur
     obtain ⟨nw, hnw⟩ : ∃ nw, (marksOf mkTexts (i : Int) 0 (m + 12 + 60)).length = nw := ⟨_, rfl⟩
     rw [hnw] at hw
     subst hw
     have HRUN := Aside0.mk hrun
     have HGn := Aside0.mk hgr
     clear hR3 hC3 hb1 hrun hgr MK hnw
     have hO2 := Kd.R_grown2 HO.out rfl HGn.out.keep (fun k e1 e2 => types_ne lneTexts HO.out HRU.out k e2.symm e1)
     have hpk : PutKeep us w W' := HP.out.grown i hiu (by rw [HUE.out]; exact HGn.out.keep)
     have HO2 := Aside0.mk hO2
     have HPK := Aside0.mk hpk
     clear hO2 hpk
     go_wp2_with (first
      | ((with_reducible refine gate_builtin (b := .append) (xs := #[.tmp 34, .tmp 38]) rfl ?_); (refine append_event rfl (.tmp 34) (.tmp 38) 23 rfl rfl rfl HRUN.out ?_))
      | ((with_reducible refine gate_builtin (b := .append) (xs := #[.tmp 33, .tmp 40]) rfl ?_); at_builtin; refine Kd.R_append (Kd.raw 1) (w0 := W') w.heap.size rfl (.tmp 33) (.tmp 40) 36 23 (.slice none 0 0) 24 rfl Tryz.underlying36 infoTextsL rfl Nat.one_pos (by decide) (.slice Ao i co) (gs.map fun v => [v]) [.slice Aw nw cw] [.slice Aw nw cw] (fun _ => True) (fun _ => False) rfl rfl ⟨rfl, rfl, fun u hu => by rw [List.mem_singleton.1 hu]; rfl⟩ (fun _ h => h.elim) (fun _ _ => trivial) HO2.out (Below.refl _ _) HPK.out.size (by rw [List.length_map, HGI.out]; have := HL.out; have := HNN.out; omega) ?_; intro out' w3 hOn hBn hGn hAtn; have HON := Aside0.mk hOn; have HGN := Aside0.mk hGn; clear hOn hBn hGn hAtn))
     have hstep : ∀ (x : Value) (L : List ByteArray), Kd.R Kd.string 9 _ base (fun _ => True) x L → (∀ k, u.ownBlock = some k → x.ownBlock = some k → False) → Kd.R Kd.string 9 w3 base (fun _ => True) x L := fun x L hx hne => by
      have h2 := Kd.R_grown2 hx rfl HGn.out.keep (fun k e1 e2 => hne k e1 e2.symm)
      exact Kd.R_grown2 h2 rfl HGN.out (fun k e1 e2 => types_ne lneTexts HO2.out h2 k e1 e2.symm)
     have hU3 : ∀ j, (h : j < us.length) → Kd.R Kd.string 9 w3 base (fun _ => True) us[j] (marksOf mkTexts (j : Int) 0 (ms.getD j 0)) := by
      intro j hj
      by_cases e : j = i
      ·subst e
       rw [HUE.out, HME.out]
       exact Kd.R_grown2 HGn.out.old rfl HGN.out (fun k e1 e2 => types_ne lneTexts HO2.out HGn.out.old k e1 e2.symm)
      ·exact hstep _ _ (HU.out j hj) (fun k e1 e2 => HSEP.out i j hiu hj (fun e' => e e'.symm) k (by rw [HUE.out]; exact e1) e2)
     have hG3 : ∀ j, (h : j < (gs ++ [Value.slice Aw nw cw]).length) → (hu : j < us.length) → Kd.R Kd.string 9 w3 base (fun _ => True) (gs ++ [Value.slice Aw nw cw])[j] (marksOf mkTexts (j : Int) 0 (ms.getD j 0 + 72)) ∧ ((gs ++ [Value.slice Aw nw cw])[j].ownBlock = us[j].ownBlock ∨ ∃ b, (gs ++ [Value.slice Aw nw cw])[j].ownBlock = some b ∧ w.heap.size ≤ b) := by
      intro j hj hju
      by_cases hjg : j < gs.length
      ·rw [List.getElem_append_left hjg]
       obtain ⟨h1, h2⟩ := HG.out j hjg hju
       refine ⟨hstep _ _ h1 (fun k e1 e2 => ?_), h2⟩
       rcases h2 with h2 | ⟨b, h2, hle⟩
       ·exact HSEP.out i j hiu hju (by have := HGI.out; omega) k (by rw [HUE.out]; exact e1) (by rw [← h2]; exact e2)
       ·rw [h2] at e2
        injection e2 with e2
        have := HLT.out i hiu k (by rw [HUE.out]; exact e1)
        omega
      ·have hji : j = i := by rw [List.length_append, List.length_singleton] at hj; have := HGI.out; omega
       have hjl : j = gs.length := by have := HGI.out; omega
       have hget : (gs ++ [Value.slice Aw nw cw])[j] = Value.slice Aw nw cw := by
        rw [List.getElem_append_right (by omega)]
        simp
       rw [hget]
       have hms : ms.getD j 0 = m := by rw [hji]; exact HME.out
       have husj : us[j] = u := by
        have h1 := HUE.out
        subst hji
        exact h1
       refine ⟨?_, ?_⟩
       ·rw [hms, hji]
        exact Kd.R_grown2 HGn.out.cur rfl HGN.out (fun k e1 e2 => types_ne lneTexts HO2.out HGn.out.cur k e1 e2.symm)
       ·rw [husj]
        rcases HGn.out.at_ with ⟨A1, n1, c1, n1', e1, e2⟩ | ⟨b, hb, hle⟩
        ·left
         rw [e1, e2]
         cases A1 <;> rfl
        ·exact Or.inr ⟨b, hb, Nat.le_trans HP.out.size hle⟩
     have hO3 : Kd.R (Kd.raw 1) 23 w3 w.heap.size (fun _ => True) out' ((gs ++ [Value.slice Aw nw cw]).map fun v => [v]) := by
      rw [List.map_append]
      exact HON.out
     have hP3 : PutKeep us w w3 := HPK.out.own HGN.out (fun k hk => Kd.R_base HO2.out k hk)
     have HU3 := Aside0.mk hU3
     have HG3 := Aside0.mk hG3
     have HO3 := Aside0.mk hO3
     have HP3 := Aside0.mk hP3
     have hlen3 : (gs ++ [Value.slice Aw nw cw]).length = i + 1 := by rw [List.length_append, HGI.out]; rfl
     have HLEN3 := Aside0.mk hlen3
     clear hstep hU3 hG3 hO3 hP3 hlen3
     go_roundw
     case rel => exact ⟨gs ++ [Value.slice Aw nw cw], by have := HLEN3.out; omega, by rw [HLEN3.out]; rfl, HP3, HO3, HU3, HG3⟩
     case measure => simp [intOf]; omega
  ·obtain rfl : i = n := by omega
   have c1 : decide ((i : Int) < (i : Int)) = false := decide_eq_false (by omega)
   go_wp2_with fail
   go_ret
   exact ⟨Ao, co, gs, by rw [HNN.out]; rfl, by rw [HNN.out]; exact HGI.out, by rw [HNN.out]; exact Kd.R_lower HO.out HBASE.out, fun j h => (HG.out j h (by rw [HNN.out]; have := HGI.out; omega)).1, fun j h => HU.out j h, HP.out⟩
end Go.Proofs.YtkcpkecaliegfaaGreat.P

end
section
set_option linter.unusedVariables false
set_option linter.unusedSimpArgs false
namespace Go.Proofs.YtkcpkecaliegfaaGreat.P
open Go.RowKit Go.Proofs.YtkcpkecaliegfaaGreatW.PrintWords Go.Proofs.YtkcpkecaliegfaaGreatW.PrintLast Go.Proofs.YtkcpkecaliegfaaGreatW.PrintMore

def addTexts.T2 : Bool × List (List Nat × List Nat) := (true, [([], []), ([], []), ([1], [1]), ([2], [2]), ([3], [3]), ([], []), ([5], [5]), ([6], [6]), ([4, 7, 6], [4, 7]), ([0, 0, 1, 2, 3, 4, 5, 6, 7, 8], [0]), ([9, 0, 1, 2, 3, 4, 5, 6, 7, 8], [9]), ([10, 8, 8, 0, 1, 2, 3, 4, 5, 6, 7, 8], [8, 10])])
def addTexts.B2 : List Nat := [0, 0, 2, 6, 14, 0, 32, 96, 254, 511, 1023, 2047]
theorem addTexts.tab2 : rtab .any (opsOf Tryz.f28 2) = addTexts.T2 := by kernel_rfl
theorem addTexts.bits2 : waitsOk addTexts.T2.2 addTexts.B2 = true := by kernel_rfl
set_option maxRecDepth 100000 in
set_option maxHeartbeats 4000000 in
theorem addTexts_calls (bk base : Nat) (e0 e1 o0 o1 : Value) (rest us us' : List Value) (a : Option Addr) (k : Nat) (xs : List ByteArray) (w : World) (hblk : w.heap[bk]? = some (.cells (e0 :: e1 :: o0 :: o1 :: rest).toArray 44 (0, 0)))
  (h0 : Kd.R (Kd.raw 1) 23 w base (fun _ => True) o0 (us.map fun v => [v])) (h1 : Kd.R (Kd.raw 1) 23 w base (fun _ => True) o1 (us'.map fun v => [v])) (hsep : ∀ q, o0.ownBlock = some q → o1.ownBlock ≠ some q) (hu : Kd.R Kd.string 9 w base (fun _ => True) (.slice a xs.length k) xs)
  (hn : us.length < 250) (hn' : us'.length < 250) (hbase : base ≤ w.heap.size) (hbk : base ≤ bk) (hxl : xs.length ≤ 900000) :
  Calls Tryz.prog 28 #[.pointer (some ⟨bk, 0, none⟩), .slice a xs.length k] w fun e w' => ∃ (p0 p1 u' : Value), e = .returned (.tuple #[]) ∧ w'.heap[bk]? = some (.cells (e0 :: e1 :: p0 :: p1 :: rest).toArray 44 (0, 0)) ∧
   Kd.R (Kd.raw 1) 23 w' base (fun _ => True) p0 ((us ++ [Value.slice a xs.length k]).map fun v => [v]) ∧ Kd.R (Kd.raw 1) 23 w' base (fun _ => True) p1 ((us' ++ [u']).map fun v => [v]) ∧ (∀ q, p0.ownBlock = some q → p1.ownBlock ≠ some q) ∧
   Kd.R Kd.string 9 w' w.heap.size (fun _ => True) u' xs ∧ AddKeep bk o0 o1 w w' := by
 have HBLK := Aside0.mk hblk
 have H0 := Aside0.mk h0
 have H1 := Aside0.mk h1
 have HSEP := Aside0.mk hsep
 have HBASE := Aside0.mk hbase
 have HN := Aside0.mk hn
 have HN' := Aside0.mk hn'
 have HU := Aside0.mk hu
 have CP := Aside0.mk (fun w' (hC : Kd.C Kd.string w' a xs.length xs) => copyTexts_calls a k xs w' hC (Kd.R_reads' hu).2.1 hxl)
 obtain ⟨Ao, co, rfl⟩ := Kd.R_slice h0
 rw [List.length_map] at hblk H0 HBLK h0 HSEP ⊢
 have e0 : (Value.slice Ao us.length co).ownBlock ≠ some bk := block_ne (by decide) h0 hblk
 have e1 : o1.ownBlock ≠ some bk := block_ne (by decide) h1 hblk
 have E0 := Aside0.mk e0
 have E1 := Aside0.mk e1
 have c0 : w.cell? ⟨bk, 2, none⟩ = some (.slice Ao us.length co) := (blk_cell hblk 2).trans rfl
 have d1 : decide ((us.length : Int) < 250) = true := decide_eq_true (by omega)
 have d2 : decide (us.length < 250) = true := decide_eq_true hn
 clear hblk h0 h1 hsep hbase hn hn' hu e0 e1
 go_enter Tryz.func28, Tryz.ntmps28
 go_wp2_with (first
  | ((with_reducible refine gate_builtin (b := .append) (xs := #[.tmp 14, .tmp 16]) rfl ?_); at_builtin; refine Kd.R_append (Kd.raw 1) (w0 := w) base rfl (.tmp 14) (.tmp 16) 36 23 (.slice none 0 0) 24 rfl Tryz.underlying36 infoTextsL rfl Nat.one_pos (by decide) (.slice Ao us.length co) (us.map fun v => [v]) [.slice a xs.length k] [.slice a xs.length k] (fun _ => True) (fun _ => False) rfl rfl ⟨rfl, rfl, fun u hu => by rw [List.mem_singleton.1 hu]; rfl⟩ (fun _ h => h.elim) (fun _ _ => trivial) H0.out (Below.refl _ _) HBASE.out (by rw [List.length_map]; have := HN.out; omega) ?_; intro p0 w1 hOn hBn hGn hAtn; obtain ⟨A0', c0', hp0⟩ := Kd.R_slice hOn; obtain ⟨n0', hn0⟩ : ∃ q, (us.map (fun v => [v]) ++ [[Value.slice a xs.length k]]).length = q := ⟨_, rfl⟩; rw [hn0] at hp0; subst hp0; have HON := Aside0.mk hOn; have HGN := Aside0.mk hGn; have HAT := Aside0.mk hAtn; have hb1 := blk_grown HBLK.out hGn E0.out.symm; have HB1 := Aside0.mk hb1; have z0 : w1.cell? ⟨bk, 2, none⟩ = some (.slice Ao us.length co) := (blk_cell hb1 2).trans rfl; have z1 := blk_frozen hb1 2; clear hOn hBn hGn hAtn hb1 hn0))
 obtain ⟨w2, hw2⟩ : ∃ x, w1.setCell ⟨bk, 2, none⟩ (.slice A0' n0' c0') = x := ⟨_, rfl⟩
 have hblk2 : w2.heap[bk]? = some (.cells (e0 :: e1 :: Value.slice A0' n0' c0' :: o1 :: rest).toArray 44 (0, 0)) := by rw [← hw2]; exact blk_set HB1.out 2 _
 have hP0 : Kd.R (Kd.raw 1) 23 w2 base (fun _ => True) (.slice A0' n0' c0') (us.map (fun v => [v]) ++ [[Value.slice a xs.length k]]) := by rw [← hw2]; exact Kd.R_set HON.out HB1.out (by intro q hq; rw [show q = 23 by simpa [Kd.raw] using hq]; decide) 2 _
 have h1a := Kd.R_grown2 H1.out rfl HGN.out (fun q e1 e2 => HSEP.out q e1 e2.symm)
 have hP1 : Kd.R (Kd.raw 1) 23 w2 base (fun _ => True) o1 (us'.map fun v => [v]) := by rw [← hw2]; exact Kd.R_set h1a HB1.out (by intro q hq; rw [show q = 23 by simpa [Kd.raw] using hq]; decide) 2 _
 have hUa := Kd.R_grown2 HU.out rfl HGN.out (fun q e1 e2 => types_ne lneTexts H0.out HU.out q e1 e2.symm)
 have hU2 : Kd.R Kd.string 9 w2 base (fun _ => True) (.slice a xs.length k) xs := by rw [← hw2]; exact Kd.R_set hUa HB1.out (by intro q hq; rw [flatTexts.E] at hq; rw [List.mem_singleton.1 hq]; decide) 2 _
 have hK2 : AddKeep bk (.slice Ao us.length co) o1 w w2 := by
  rw [← hw2]
  exact ⟨HGN.out.os, HGN.out.tape, HGN.out.output, by simpa [World.setCell] using HGN.out.size, fun q hq e1 e2 e3 => (Below.heap_setCell w1 ⟨bk, 2, none⟩ _ q e1).trans (HGN.out.block q hq (fun e => e2 e.symm))⟩
 have hsz2 : w2.heap.size = w1.heap.size := by rw [← hw2]; simp [World.setCell]
 have hS2 : w2.cell? ⟨bk, 3, none⟩ = some o1 := (blk_cell hblk2 3).trans rfl
 have HBLK2 := Aside0.mk hblk2
 have HP0 := Aside0.mk hP0
 have HP1 := Aside0.mk hP1
 have HU2 := Aside0.mk hU2
 have HK2 := Aside0.mk hK2
 have HSZ2 := Aside0.mk hsz2
 rw [hw2]
 clear hw2 hblk2 hP0 h1a hP1 hUa hU2 hK2 hsz2 z0 z1 c0
 refine start_ (n := 12) (S := fun w' => w'.cell? ⟨bk, 3, none⟩ = some o1) (ds := [11]) #[false, false, false, false, false, false, false, false, false, false, false, false] (by kernel_rfl) rfl rfl hS2 (fun hHeld => ?_)
 refine with_tabW addTexts.tab2 addTexts.bits2 (fun HT_ HW_ => ?_)
 refine take_ (i := 0) (N := some 20) (v := ?_) (a' := ?_) #[true, false, false, false, false, false, false, false, false, false, false, false] rfl rfl (take_ofW HT_.out HW_.out (by kernel_rfl)) (fun _ _ _ h => h) (Or.inl ⟨by rfl, ?_⟩) hHeld ?_ ?_
 rotate_left
 ·intro w' s
  go_simp
  with_reducible rfl
 rotate_left
 ·simp only [Act.put, List.setIfInBounds_toArray, List.set_cons_zero, List.set_cons_succ, i64_w, i32_w]
  rfl
 refine take_ (i := 1) (N := some 21) (v := ?_) (a' := ?_) #[true, true, false, false, false, false, false, false, false, false, false, false] rfl rfl (take_ofW HT_.out HW_.out (by kernel_rfl)) (fun _ _ _ h => h) (Or.inl ⟨by rfl, ?_⟩) hHeld ?_ ?_
 rotate_left
 ·intro w' s
  go_simp
  with_reducible rfl
 rotate_left
 ·simp only [Act.put, List.setIfInBounds_toArray, List.set_cons_zero, List.set_cons_succ, i64_w, i32_w]
  rfl
 refine take_ (i := 2) (N := some 22) (v := ?_) (a' := ?_) #[true, true, true, false, false, false, false, false, false, false, false, false] rfl rfl (take_ofW HT_.out HW_.out (by kernel_rfl)) (fun _ _ _ h => h) (Or.inl ⟨by rfl, ?_⟩) hHeld ?_ ?_
 rotate_left
 ·intro w' s
  go_simp
  with_reducible rfl
 rotate_left
 ·simp only [Act.put, List.setIfInBounds_toArray, List.set_cons_zero, List.set_cons_succ, i64_w, i32_w]
  rfl
 refine take_ (i := 3) (N := some 23) (v := ?_) (a' := ?_) #[true, true, true, true, false, false, false, false, false, false, false, false] rfl rfl (take_ofW HT_.out HW_.out (by kernel_rfl)) (fun _ _ _ h => h) (Or.inl ⟨by rfl, ?_⟩) hHeld ?_ ?_
 rotate_left
 ·intro w' s
  go_simp
  with_reducible rfl
 rotate_left
 ·simp only [Act.put, List.setIfInBounds_toArray, List.set_cons_zero, List.set_cons_succ, i64_w, i32_w]
  rfl
 refine take_ (i := 4) (N := some 24) (v := ?_) (a' := ?_) #[true, true, true, true, true, false, false, false, false, false, false, false] rfl rfl (take_ofW HT_.out HW_.out (by kernel_rfl)) (fun _ _ _ h => h) (Or.inl ⟨by rfl, ?_⟩) hHeld ?_ ?_
 rotate_left
 ·intro w' s
  go_simp
  with_reducible rfl
 rotate_left
 ·simp only [Act.put, List.setIfInBounds_toArray, List.set_cons_zero, List.set_cons_succ, i64_w, i32_w]
  rfl
 refine take_ (i := 5) (N := some 25) (v := ?_) (a' := ?_) #[true, true, true, true, true, true, false, false, false, false, false, false] rfl rfl (take_ofW HT_.out HW_.out (by kernel_rfl)) (fun _ _ _ h => h) (Or.inl ⟨by rfl, ?_⟩) hHeld ?_ ?_
 rotate_left
 ·intro w' s
  go_simp
  with_reducible rfl
 rotate_left
 ·simp only [Act.put, List.setIfInBounds_toArray, List.set_cons_zero, List.set_cons_succ, i64_w, i32_w]
  rfl
 refine one_ (i := 6) (N := some 26) #[true, true, true, true, true, true, true, false, false, false, false, false] rfl rfl (one_of HT_.out (by kernel_rfl)) (by decide) (fun K hK => ?_)
 refine goes_ Tryz.func79 (by kernel_rfl) rfl #[.slice a xs.length k] (by rfl) rfl rfl (by (try simp only [List.map_toArray, List.map_cons, List.map_nil]); first | done | rfl | (simp only [List.length_drop, List.length_take]; rfl)) ?_
 refine (CP.out _ (Kd.R_reads' (Kd.R_drew HU2.out)).2.2).mono ?_
 rintro en w3 ⟨u', rfl, hRu, hb⟩
 refine ⟨_, rfl, ?_⟩
 obtain ⟨A3, c3, rfl⟩ := Kd.R_slice hRu
 have HB23 := Aside0.mk (show Below w2.heap.size w2 w3 from below_step (below_drew1 (Below.refl _ _)) hb)
 have HRU := Aside0.mk hRu
 refine hK.out _ _ (pw_cell_below hb hHeld) (fun hHeld => ?_)
 clear hRu hb
 clear hK K
 refine norm_ (a' := ?_) ?_ ?_
 rotate_left
 ·show Act.put _ (some 26) _ = _
  simp only [Act.put, List.setIfInBounds_toArray, List.set_cons_zero, List.set_cons_succ, i64_w, i32_w]
  rfl
 refine one_ (i := 7) (N := some 27) #[true, true, true, true, true, true, true, true, false, false, false, false] rfl rfl (one_of HT_.out (by kernel_rfl)) (by decide) (fun K hK => ?_)
 refine value_ (v := .slice (some ⟨w3.heap.size, 0, none⟩) 1 1) (w1 := w3.alloc (.cells #[.slice A3 xs.length c3] 23)) (by rfl) rfl (by first | (go_simp; done) | (go_simp; rfl)) (hK.out _ _ (pw_cell_below (below_alloc (Below.refl _ _) _) hHeld) (fun hHeld => ?_))
 clear hK K
 refine norm_ (a' := ?_) ?_ ?_
 rotate_left
 ·show Act.put _ (some 27) _ = _
  simp only [Act.put, List.setIfInBounds_toArray, List.set_cons_zero, List.set_cons_succ, i64_w, i32_w]
  rfl
 refine one_ (i := 8) (N := some 28) #[true, true, true, true, true, true, true, true, true, false, false, false] rfl rfl (one_of HT_.out (by kernel_rfl)) (by decide) (fun K hK => ?_)
 refine Kd.R_append_step (Kd.raw 1) (w0 := w3) base (by rfl) (.tmp 24) (.tmp 27) 36 23 (.slice none 0 0) 24 rfl Tryz.underlying36 infoTextsL rfl Nat.one_pos (by decide) o1 (us'.map fun v => [v]) [.slice A3 xs.length c3] [.slice A3 xs.length c3] (fun _ => True) (fun _ => False) rfl rfl ⟨rfl, rfl, fun u hu => by rw [List.mem_singleton.1 hu]; rfl⟩ (fun _ h => h.elim) (fun _ _ => trivial) (Kd.R_below HP1.out HB23.out) (Below.refl _ _) (Nat.le_trans HBASE.out (Nat.le_trans HK2.out.size HB23.out.size)) (by rw [List.length_map]; have := HN'.out; omega) ?_
 intro p1 w4 hO4 hB4 hG4 hA4
 obtain ⟨A1', c1', hp1⟩ := Kd.R_slice hO4
 obtain ⟨n1', hn1⟩ : ∃ q, (us'.map (fun v => [v]) ++ [[Value.slice A3 xs.length c3]]).length = q := ⟨_, rfl⟩
 rw [hn1] at hp1
 subst hp1
 have HO4 := Aside0.mk hO4
 have HG4 := Aside0.mk hG4
 have HA4 := Aside0.mk hA4
 have hb4 := blk_grown (blk_below HBLK2.out HB23.out) hG4 E1.out.symm
 have HB4 := Aside0.mk hb4
 refine hK.out _ _ ((blk_cell hb4 3).trans rfl) (fun hHeld => ?_)
 clear hO4 hB4 hG4 hA4 hb4 hn1
 clear hK K
 refine norm_ (a' := ?_) ?_ ?_
 rotate_left
 ·show Act.put _ (some 28) _ = _
  simp only [Act.put, List.setIfInBounds_toArray, List.set_cons_zero, List.set_cons_succ, i64_w, i32_w]
  rfl
 refine take_ (i := 9) (N := some 29) (v := ?_) (a' := ?_) #[true, true, true, true, true, true, true, true, true, true, false, false] rfl rfl (take_ofW HT_.out HW_.out (by kernel_rfl)) (fun _ _ _ h => h) (Or.inl ⟨by rfl, ?_⟩) hHeld ?_ ?_
 rotate_left
 ·intro w' s
  go_simp
  with_reducible rfl
 rotate_left
 ·simp only [Act.put, List.setIfInBounds_toArray, List.set_cons_zero, List.set_cons_succ, i64_w, i32_w]
  rfl
 refine take_ (i := 10) (N := some 30) (v := ?_) (a' := ?_) #[true, true, true, true, true, true, true, true, true, true, true, false] rfl rfl (take_ofW HT_.out HW_.out (by kernel_rfl)) (fun _ _ _ h => h) (Or.inl ⟨by rfl, ?_⟩) hHeld ?_ ?_
 rotate_left
 ·intro w' s
  go_simp
  with_reducible rfl
 rotate_left
 ·simp only [Act.put, List.setIfInBounds_toArray, List.set_cons_zero, List.set_cons_succ, i64_w, i32_w]
  rfl
 refine last_ (i := 11) (N := none) #[true, true, true, true, true, true, true, true, true, true, true, true] rfl rfl (one_of HT_.out (by kernel_rfl)) (by decide) (fun K hK => ?_)
 have z0 : w4.cell? ⟨bk, 3, none⟩ = some o1 := (blk_cell HB4.out 3).trans rfl
 have z1 := blk_frozen HB4.out 3
 obtain ⟨w5, hw5⟩ : ∃ x, w4.setCell ⟨bk, 3, none⟩ (.slice A1' n1' c1') = x := ⟨_, rfl⟩
 refine skip_ (w1 := w4.setCell ⟨bk, 3, none⟩ (.slice A1' n1' c1')) (by rfl) rfl (by first | (go_simp; done) | (go_simp; rfl)) (hK.out _ _ ?_)
 rw [hw5]
 have HW5 := Aside0.mk hw5
 clear hw5 z0 z1 hHeld
 clear hK K
 refine done_ (done_of HT_.out (by kernel_rfl)) ?_
 clear hHeld
 go_end0
 have hs0 : ∀ q, (Value.slice A0' n0' c0').ownBlock = some q → o1.ownBlock = some q → False := by
  intro q e1 e2
  rcases HAT.out with h | ⟨b, h, hle⟩
  ·exact HSEP.out q (by rw [← h]; exact e1) e2
  ·rw [h] at e1
   injection e1 with e1
   have := Kd.R_lt H1.out q e2
   omega
 have hP0a := Kd.R_below HP0.out HB23.out
 have hP0b := Kd.R_grown2 hP0a rfl HG4.out (fun q e1 e2 => hs0 q e2.symm e1)
 have hUb := Kd.R_grown2 HRU.out rfl HG4.out (fun q e1 e2 => types_ne lneTexts (Kd.R_below HP1.out HB23.out) HRU.out q e1 e2.symm)
 have hw2le : w.heap.size ≤ w2.heap.size := HK2.out.size
 refine ⟨.slice A0' n0' c0', .slice A1' n1' c1', .slice A3 xs.length c3, rfl, ?_, ?_, ?_, ?_, ?_, ?_⟩
 ·rw [← HW5.out]
  exact blk_set HB4.out 3 _
 ·rw [List.map_append, ← HW5.out]
  exact Kd.R_set hP0b HB4.out (by intro q hq; rw [show q = 23 by simpa [Kd.raw] using hq]; decide) 3 _
 ·rw [List.map_append, ← HW5.out]
  exact Kd.R_set HO4.out HB4.out (by intro q hq; rw [show q = 23 by simpa [Kd.raw] using hq]; decide) 3 _
 ·intro q e1 e2
  rcases HA4.out with h | ⟨b, h, hle⟩
  ·exact hs0 q e1 (by rw [← h]; exact e2)
  ·rw [h] at e2
   injection e2 with e2
   have := Kd.R_lt hP0a q e1
   omega
 ·rw [← HW5.out]
  exact Kd.R_lower (Kd.R_set hUb HB4.out (by intro q hq; rw [flatTexts.E] at hq; rw [List.mem_singleton.1 hq]; decide) 3 _) hw2le
 ·rw [← HW5.out]
  refine ⟨?_, ?_, ?_, ?_, fun q hq e1 e2 e3 => ?_⟩
  ·exact HG4.out.os.trans (HB23.out.os.trans HK2.out.os)
  ·exact HG4.out.tape.trans (HB23.out.tape.trans HK2.out.tape)
  ·exact HG4.out.output.trans (HB23.out.output.trans HK2.out.output)
  ·have h1 : w3.heap.size ≤ w4.heap.size := HG4.out.size
   have h2 : w2.heap.size ≤ w3.heap.size := HB23.out.size
   have h3 : (w4.setCell ⟨bk, 3, none⟩ (.slice A1' n1' c1')).heap.size = w4.heap.size := by simp [World.setCell]
   omega
  ·have h2 : w2.heap.size ≤ w3.heap.size := HB23.out.size
   rw [Below.heap_setCell w4 ⟨bk, 3, none⟩ _ q e1, HG4.out.block q (by omega) (fun e => e3 e.symm), HB23.out.block q (by omega)]
   exact HK2.out.far q hq e1 e2 e3
end Go.Proofs.YtkcpkecaliegfaaGreat.P

end
section
set_option linter.unusedVariables false
set_option linter.unusedSimpArgs false
namespace Go.Proofs.YtkcpkecaliegfaaGreat.P
open Go.RowKit Go.Proofs.YtkcpkecaliegfaaGreatW.PrintWords Go.Proofs.YtkcpkecaliegfaaGreatW.PrintLast Go.Proofs.YtkcpkecaliegfaaGreatW.PrintMore

def markedTexts.T4 : Bool × List (List Nat × List Nat) := (true, [([], []), ([], []), ([0, 1], [0, 1]), ([2], [2]), ([], []), ([], []), ([], []), ([5, 6], [5, 6]), ([7], [7]), ([8], [8]), ([4, 9], [4, 9]), ([3, 10, 10], [3, 10]), ([11], [11])])
def markedTexts.B4 : List Nat := [0, 0, 3, 7, 0, 0, 0, 96, 224, 480, 1008, 2047, 4095]
theorem markedTexts.tab4 : rtab .any (opsOf Tryz.f67 4) = markedTexts.T4 := by kernel_rfl
theorem markedTexts.bits4 : waitsOk markedTexts.T4.2 markedTexts.B4 = true := by kernel_rfl
set_option maxRecDepth 100000 in
set_option maxHeartbeats 4000000 in
theorem markedTexts_calls (base : Nat) (A : Option Addr) (n c : Nat) (us : List Value) (ms : Nat → Nat) (w : World) (h : Kd.R (Kd.raw 1) 23 w base (fun _ => True) (.slice A n c) (us.map fun v => [v])) (hr : ∀ i, (h : i < us.length) → Kd.R Kd.string 9 w base (fun _ => True) us[i] (marksOf mkTexts (i : Int) 0 (ms i)))
  (hl : us.length ≤ 1000) (hm : ∀ i, ms i ≤ 1000000) :
  Calls Tryz.prog 67 #[.slice A n c] w fun e w' => e = .returned (.bool true) ∧ Below w.heap.size w w' := by
 obtain ⟨hn, hc, hL⟩ := lists_of_raw h
 have HA := Aside0.mk hL
 have HR := Aside0.mk hr
 have HS := Aside0.mk hm
 have HL := Aside0.mk hl
 have HNN := Aside0.mk hn.symm
 clear h hr hm hl hL hn hc
 go_enter Tryz.func67, Tryz.ntmps67
 go_wp2_with fail
 go_loopw [3] (fun iv wr => ∃ i : Nat, i ≤ n ∧ iv = .int .i64 i ∧ Aside0 (Below w.heap.size w wr)) (fun iv _ => n - (intOf iv).toNat)
 case atStart => exact ⟨0, Nat.zero_le _, rfl, ⟨Below.refl _ _⟩⟩
 case round =>
  obtain ⟨i, hi, rfl, HB⟩ := hrel
  by_cases hlt : i < n
  ·have c1 : decide ((i : Int) < (n : Int)) = true := decide_eq_true (by omega)
   have c2 : decide (i < n) = true := decide_eq_true hlt
   have v1 : (0 ≤ (i : Int)) = True := eq_true (by omega)
   have v2 : ((i : Int) < (n : Int)) = True := eq_true (by omega)
   have v3 : IntKind.i64.wrap ((i : Int) + 1) = (i : Int) + 1 := IntWalk.i64_in _ (by have := HL.out; have := HNN.out; omega)
   obtain ⟨ad, hAe, x0⟩ := (HA.out.below HB.out).at_ i (by rw [HNN.out]; exact hlt)
   obtain ⟨a, k, hu, hk, hC⟩ := (readsD_of_R (HR.out i (by rw [HNN.out]; exact hlt))).below HB.out
   rw [hu, marks_len] at x0
   have hsm := HS.out i
   obtain ⟨mm, hmm⟩ : ∃ q, ms i = q := ⟨_, rfl⟩
   rw [hmm] at x0 hk hC hsm
   rw [marks_len] at hk hC
   have HC := Aside0.mk hC
   have HMM := Aside0.mk hsm
   have HK := Aside0.mk hk
   have MK := Aside0.mk (fun w' => markTexts_calls i 0 mm w' (by have := HL.out; have := HNN.out; omega) (by have := HMM.out; omega))
   subst hAe
   clear hu hC hk hmm hsm
   go_wp2_with fail
   refine start_ (n := 13) (S := fun w' => Below wr.heap.size wr w') (ds := []) #[false, false, false, false, false, false, false, false, false, false, false, false, false] (by kernel_rfl) rfl rfl (below_drew1 (Below.refl _ _)) (fun hHeld => ?_)
   refine with_tabW markedTexts.tab4 markedTexts.bits4 (fun HT_ HW_ => ?_)
   refine take_ (i := 0) (N := some 10) (v := ?_) (a' := ?_) #[true, false, false, false, false, false, false, false, false, false, false, false, false] rfl rfl (take_ofW HT_.out HW_.out (by kernel_rfl)) (fun _ _ _ h => h) (Or.inl ⟨by rfl, ?_⟩) hHeld ?_ ?_
   rotate_left
   ·intro w' s
    go_simp
    with_reducible rfl
   rotate_left
   ·simp only [Act.put, List.setIfInBounds_toArray, List.set_cons_zero, List.set_cons_succ, i64_w, i32_w]
    rfl
   refine take_ (i := 1) (N := some 11) (v := ?_) (a' := ?_) #[true, true, false, false, false, false, false, false, false, false, false, false, false] rfl rfl (take_ofW HT_.out HW_.out (by kernel_rfl)) (fun _ _ _ h => h) (Or.inl ⟨by rfl, ?_⟩) hHeld ?_ ?_
   rotate_left
   ·intro w' s
    go_simp
    with_reducible rfl
   rotate_left
   ·simp only [Act.put, List.setIfInBounds_toArray, List.set_cons_zero, List.set_cons_succ, i64_w, i32_w]
    rfl
   refine take_ (i := 2) (N := some 12) (v := ?_) (a' := ?_) #[true, true, true, false, false, false, false, false, false, false, false, false, false] rfl rfl (take_ofW HT_.out HW_.out (by kernel_rfl)) (fun _ _ _ h => h) (Or.inl ⟨by rfl, ?_⟩) hHeld ?_ ?_
   rotate_left
   ·intro w' s
    go_simp
    with_reducible rfl
   rotate_left
   ·simp only [Act.put, List.setIfInBounds_toArray, List.set_cons_zero, List.set_cons_succ, i64_w, i32_w]
    rfl
   refine take_ (i := 3) (N := some 13) (v := ?_) (a' := ?_) #[true, true, true, true, false, false, false, false, false, false, false, false, false] rfl rfl (take_ofW HT_.out HW_.out (by kernel_rfl)) (fun _ _ _ h => h) (Or.inl ⟨by rfl, ?_⟩) hHeld ?_ ?_
   rotate_left
   ·intro w' s
    have s0 := pw_cell_below s x0
    go_simp
    with_reducible rfl
   rotate_left
   ·simp only [Act.put, List.setIfInBounds_toArray, List.set_cons_zero, List.set_cons_succ, i64_w, i32_w]
    rfl
   refine take_ (i := 4) (N := some 14) (v := ?_) (a' := ?_) #[true, true, true, true, true, false, false, false, false, false, false, false, false] rfl rfl (take_ofW HT_.out HW_.out (by kernel_rfl)) (fun _ _ _ h => h) (Or.inl ⟨by rfl, ?_⟩) hHeld ?_ ?_
   rotate_left
   ·intro w' s
    go_simp
    with_reducible rfl
   rotate_left
   ·simp only [Act.put, List.setIfInBounds_toArray, List.set_cons_zero, List.set_cons_succ, i64_w, i32_w]
    rfl
   refine take_ (i := 5) (N := some 15) (v := ?_) (a' := ?_) #[true, true, true, true, true, true, false, false, false, false, false, false, false] rfl rfl (take_ofW HT_.out HW_.out (by kernel_rfl)) (fun _ _ _ h => h) (Or.inl ⟨by rfl, ?_⟩) hHeld ?_ ?_
   rotate_left
   ·intro w' s
    go_simp
    with_reducible rfl
   rotate_left
   ·simp only [Act.put, List.setIfInBounds_toArray, List.set_cons_zero, List.set_cons_succ, i64_w, i32_w]
    rfl
   refine take_ (i := 6) (N := some 16) (v := ?_) (a' := ?_) #[true, true, true, true, true, true, true, false, false, false, false, false, false] rfl rfl (take_ofW HT_.out HW_.out (by kernel_rfl)) (fun _ _ _ h => h) (Or.inl ⟨by rfl, ?_⟩) hHeld ?_ ?_
   rotate_left
   ·intro w' s
    go_simp
    with_reducible rfl
   rotate_left
   ·simp only [Act.put, List.setIfInBounds_toArray, List.set_cons_zero, List.set_cons_succ, i64_w, i32_w]
    rfl
   refine take_ (i := 7) (N := some 17) (v := ?_) (a' := ?_) #[true, true, true, true, true, true, true, true, false, false, false, false, false] rfl rfl (take_ofW HT_.out HW_.out (by kernel_rfl)) (fun _ _ _ h => h) (Or.inl ⟨by rfl, ?_⟩) hHeld ?_ ?_
   rotate_left
   ·intro w' s
    go_simp
    with_reducible rfl
   rotate_left
   ·simp only [Act.put, List.setIfInBounds_toArray, List.set_cons_zero, List.set_cons_succ, i64_w, i32_w]
    rfl
   refine take_ (i := 8) (N := some 18) (v := ?_) (a' := ?_) #[true, true, true, true, true, true, true, true, true, false, false, false, false] rfl rfl (take_ofW HT_.out HW_.out (by kernel_rfl)) (fun _ _ _ h => h) (Or.inl ⟨by rfl, ?_⟩) hHeld ?_ ?_
   rotate_left
   ·intro w' s
    have s0 := pw_cell_below s x0
    go_simp
    with_reducible rfl
   rotate_left
   ·simp only [Act.put, List.setIfInBounds_toArray, List.set_cons_zero, List.set_cons_succ, i64_w, i32_w]
    rfl
   refine take_ (i := 9) (N := some 19) (v := ?_) (a' := ?_) #[true, true, true, true, true, true, true, true, true, true, false, false, false] rfl rfl (take_ofW HT_.out HW_.out (by kernel_rfl)) (fun _ _ _ h => h) (Or.inl ⟨by rfl, ?_⟩) hHeld ?_ ?_
   rotate_left
   ·intro w' s
    go_simp
    with_reducible rfl
   rotate_left
   ·simp only [Act.put, List.setIfInBounds_toArray, List.set_cons_zero, List.set_cons_succ, i64_w, i32_w]
    rfl
   refine one_ (i := 10) (N := some 20) #[true, true, true, true, true, true, true, true, true, true, true, false, false] rfl rfl (one_of HT_.out (by kernel_rfl)) (by decide) (fun K hK => ?_)
   refine goes_ Tryz.func91 (by kernel_rfl) rfl #[.int .i64 i, .int .i64 0, .int .i64 mm] (by rfl) rfl rfl (by (try simp only [List.map_toArray, List.map_cons, List.map_nil]); first | done | rfl | (simp only [List.length_drop, List.length_take]; rfl)) ?_
   refine (MK.out _).mono ?_
   rintro en w8 ⟨mv, rfl, hRm, hb⟩
   refine ⟨_, rfl, ?_⟩
   obtain ⟨Am, cm, hm⟩ := Kd.R_slice hRm
   rw [marks_len] at hm
   subst hm
   have HRM := Aside0.mk hRm
   refine hK.out _ _ (below_step hHeld hb) (fun hHeld => ?_)
   clear hRm hb
   clear hK K
   refine norm_ (a' := ?_) ?_ ?_
   rotate_left
   ·show Act.put _ (some 20) _ = _
    simp only [Act.put, List.setIfInBounds_toArray, List.set_cons_zero, List.set_cons_succ, i64_w, i32_w]
    rfl
   refine one_ (i := 11) (N := some 21) #[true, true, true, true, true, true, true, true, true, true, true, true, false] rfl rfl (one_of HT_.out (by kernel_rfl)) (by decide) (fun K hK => ?_)
   have SM := sameTexts_calls a Am k cm (marksOf mkTexts (i : Int) 0 mm) w8 (by rw [marks_len]; exact Kd.C_below HC.out hHeld) ((Kd.R_reads' HRM.out).2.2) (by rw [marks_len]; exact HK.out) (by have h := (Kd.R_reads' HRM.out).2.1; rw [marks_len]; exact h) (by rw [marks_len]; exact HMM.out)
   rw [marks_len] at SM
   refine goes_ Tryz.func35 (by kernel_rfl) rfl #[.slice a mm k, .slice Am mm cm] (by rfl) rfl rfl (by (try simp only [List.map_toArray, List.map_cons, List.map_nil]); first | done | rfl | (simp only [List.length_drop, List.length_take]; rfl)) ?_
   refine SM.mono ?_
   rintro en w9 ⟨rfl, hb⟩
   refine ⟨_, rfl, ?_⟩
   refine hK.out _ _ (below_step hHeld hb) (fun hHeld => ?_)
   clear hb SM
   clear hK K
   refine norm_ (a' := ?_) ?_ ?_
   rotate_left
   ·show Act.put _ (some 21) _ = _
    simp only [Act.put, List.setIfInBounds_toArray, List.set_cons_zero, List.set_cons_succ, i64_w, i32_w]
    rfl
   refine take_ (i := 12) (N := some 22) (v := ?_) (a' := ?_) #[true, true, true, true, true, true, true, true, true, true, true, true, true] rfl rfl (take_ofW HT_.out HW_.out (by kernel_rfl)) (fun _ _ _ h => h) (Or.inl ⟨by rfl, ?_⟩) hHeld ?_ ?_
   rotate_left
   ·intro w' s
    go_simp
    with_reducible rfl
   rotate_left
   ·simp only [Act.put, List.setIfInBounds_toArray, List.set_cons_zero, List.set_cons_succ, i64_w, i32_w]
    rfl
   refine done_ (done_of HT_.out (by kernel_rfl)) ?_
   have HBn := Aside0.mk (below_step HB.out hHeld)
   clear hHeld x0
   go_wp2_with fail
   go_roundw
   case rel => exact ⟨i + 1, by omega, by go_num, HBn⟩
   case measure => simp [intOf]; omega
  ·obtain rfl : i = n := by omega
   have c1 : decide ((i : Int) < (i : Int)) = false := decide_eq_false (by omega)
   go_wp2_with fail
   go_ret
   exact ⟨rfl, HB.out⟩
end Go.Proofs.YtkcpkecaliegfaaGreat.P

end
section
set_option linter.unusedVariables false
set_option linter.unusedSimpArgs false
namespace Go.Proofs.YtkcpkecaliegfaaGreat.P
open Go.RowKit Go.Proofs.YtkcpkecaliegfaaGreatW.PrintWords Go.Proofs.YtkcpkecaliegfaaGreatW.PrintLast Go.Proofs.YtkcpkecaliegfaaGreatW.PrintMore

theorem stillTexts_st {bk base : Nat} {A A' : Option Addr} {n n' c c' : Nat} {us us' : List Value} {xss : List (List ByteArray)} {w : World} (s : Stat us us' xss) (h : StA Kd.string 9 23 base (.slice A n c) (.slice A' n' c') us us' xss w) (h0 : w.cell? ⟨bk, 2, none⟩ = some (.slice A n c)) (h1 : w.cell? ⟨bk, 3, none⟩ = some (.slice A' n' c')) :
  Calls Tryz.prog 43 #[.pointer (some ⟨bk, 0, none⟩)] w fun e w' => e = .returned (.bool true) ∧ Below w.heap.size w w' := by
 obtain ⟨hn, _, hL⟩ := lists_of_raw h.row
 obtain ⟨hn', _, hL'⟩ := lists_of_raw h.row'
 rw [hn] at h0
 rw [hn', s.n] at h1
 exact stillTexts_calls bk A A' c c' us us' xss w h0 h1 s.l hL hL' s.n s.x (fun i hi => readsD_of_R (h.own i hi)) h.cop (fun i => by have := s.s i; omega)
theorem putTexts_st {bk base : Nat} {A : Option Addr} {n c : Nat} {us us' : List Value} {xss : List (List ByteArray)} {w : World} {cs : Array Value} (s : Stat us us' xss) (h : StB Kd.string 9 23 base (.slice A n c) us (fun i => xss.getD i []) w) (hblk : w.heap[bk]? = some (.cells cs 44 (0, 0))) (h0 : w.cell? ⟨bk, 2, none⟩ = some (.slice A n c)) (hb : base ≤ w.heap.size) :
  Calls Tryz.prog 52 #[.pointer (some ⟨bk, 0, none⟩)] w fun e w' => e = .returned (.tuple #[]) ∧ KeepT 9 w w' ∧ Below base w w' ∧ StB Kd.string 9 23 base (.slice A n c) us (fun i => marksOf mkTexts (i : Int) 0 (xss.getD i []).length) w' := by
 obtain ⟨hn, _, hL⟩ := lists_of_raw h.row
 rw [hn] at h0
 refine (putTexts_calls bk A c us xss base w h0 s.l hL h.own s.sep (fun i hi => block_ne (by decide) (h.own i hi) hblk) (StB.rowNe lneTexts h) (fun i => by have := s.s i; omega)).mono ?_
 rintro e w' ⟨rfl, hp, hR⟩
 have hk := hp.typed h.own
 exact ⟨rfl, hk, hp.under (fun i hi k e => Kd.R_base (h.own i hi) k e) hb, hk.R rfl lneTexts h.row, hR⟩
theorem growTexts_st {bk base : Nat} {A : Option Addr} {n c : Nat} {us us' : List Value} {xss : List (List ByteArray)} {w : World} {cs : Array Value} (s : Stat us us' xss) (h : StB Kd.string 9 23 base (.slice A n c) us (fun i => marksOf mkTexts (i : Int) 0 (xss.getD i []).length) w) (hblk : w.heap[bk]? = some (.cells cs 44 (0, 0))) (h0 : w.cell? ⟨bk, 2, none⟩ = some (.slice A n c)) (hb : base ≤ w.heap.size) :
  Calls Tryz.prog 59 #[.pointer (some ⟨bk, 0, none⟩)] w fun e w' => ∃ (Ag : Option Addr) (ng cg : Nat) (gs : List Value), e = .returned (.slice Ag ng cg) ∧ gs.length = us.length ∧ KeepT 9 w w' ∧ Below base w w' ∧
   StB Kd.string 9 23 base (.slice Ag ng cg) gs (fun i => marksOf mkTexts (i : Int) 0 ((xss.getD i []).length + 72)) w' ∧ StB Kd.string 9 23 base (.slice A n c) us (fun i => marksOf mkTexts (i : Int) 0 (xss.getD i []).length) w' := by
 obtain ⟨hn, _, hL⟩ := lists_of_raw h.row
 rw [hn] at h0
 refine (growTexts_calls bk A c us (xss.map List.length) base w h0 s.l hL (fun i hi => by rw [getD_len]; exact h.own i hi) s.sep (fun i hi => block_ne (by decide) (h.own i hi) hblk) (StB.rowNe lneTexts h) (fun i => by rw [getD_len]; exact s.s i) hb).mono ?_
 rintro e w' ⟨Ag, cg, gs, rfl, hgl, hgr, hg, hu, hp⟩
 have hk := hp.typed h.own
 refine ⟨Ag, us.length, cg, gs, rfl, hgl, hk, hp.under (fun i hi k e => Kd.R_base (h.own i hi) k e) hb, ⟨hgr, fun i hi => ?_⟩, ⟨hk.R rfl lneTexts h.row, fun i hi => ?_⟩⟩
 ·have := hg i hi
  rw [getD_len] at this
  exact this
 ·have := hu i hi
  rw [getD_len] at this
  exact this
theorem markedTexts_st {base : Nat} {A : Option Addr} {n c : Nat} {us us0 us' : List Value} {xss : List (List ByteArray)} {w : World} {q : Nat} (s : Stat us0 us' xss) (hl : us.length = us0.length) (hq : q ≤ 72) (h : StB Kd.string 9 23 base (.slice A n c) us (fun i => marksOf mkTexts (i : Int) 0 ((xss.getD i []).length + q)) w) :
  Calls Tryz.prog 67 #[.slice A n c] w fun e w' => e = .returned (.bool true) ∧ Below w.heap.size w w' :=
 markedTexts_calls base A n c us (fun i => (xss.getD i []).length + q) w h.row h.own (by rw [hl]; exact s.l) (fun i => by have := s.s i; omega)
end Go.Proofs.YtkcpkecaliegfaaGreat.P

end
section
set_option linter.unusedVariables false
set_option linter.unusedSimpArgs false
namespace Go.Proofs.YtkcpkecaliegfaaGreat.Bk
open Go.RowKit Go.Proofs.YtkcpkecaliegfaaGreatW.PrintWords Go.Proofs.YtkcpkecaliegfaaGreatW.PrintLast Go.Proofs.YtkcpkecaliegfaaGreatW.PrintMore

theorem stillInts_none (bk : Nat) (w : World) (h0 : w.cell? ⟨bk, 0, none⟩ = some (.slice none 0 0)) :
  Calls Tryz.prog 42 #[.pointer (some ⟨bk, 0, none⟩)] w fun e w' => e = .returned (.bool true) ∧ w' = w := by
 go_enter Tryz.func42, Tryz.ntmps42
 go_wp2_with fail
 go_loopw [3] (fun i wr => i = .int .i64 0 ∧ wr = w) (fun _ _ => 0)
 case atStart => exact ⟨rfl, rfl⟩
 case round =>
  obtain ⟨rfl, rfl⟩ := hrel
  go_wp2_with fail
  go_ret
  exact ⟨rfl, rfl⟩
theorem putInts_none (bk : Nat) (w : World) (h0 : w.cell? ⟨bk, 0, none⟩ = some (.slice none 0 0)) :
  Calls Tryz.prog 51 #[.pointer (some ⟨bk, 0, none⟩)] w fun e w' => e = .returned (.tuple #[]) ∧ w' = w := by
 go_enter Tryz.func51, Tryz.ntmps51
 go_wp2_with fail
 go_loopw [2] (fun i wr => i = .int .i64 0 ∧ wr = w) (fun _ _ => 0)
 case atStart => exact ⟨rfl, rfl⟩
 case round =>
  obtain ⟨rfl, rfl⟩ := hrel
  go_wp2_with fail

  go_end0
  exact ⟨rfl, rfl⟩
theorem growInts_none (bk : Nat) (w : World) (h0 : w.cell? ⟨bk, 0, none⟩ = some (.slice none 0 0)) :
  Calls Tryz.prog 58 #[.pointer (some ⟨bk, 0, none⟩)] w fun e w' => e = .returned (.slice none 0 0) ∧ w' = w := by
 go_enter Tryz.func58, Tryz.ntmps58
 go_wp2_with fail
 go_loopw [3, 4] (fun o i wr => o = .slice none 0 0 ∧ i = .int .i64 0 ∧ wr = w) (fun _ _ _ => 0)
 case atStart => exact ⟨rfl, rfl, rfl⟩
 case round =>
  obtain ⟨rfl, rfl, rfl⟩ := hrel
  go_wp2_with fail
  go_ret
  exact ⟨rfl, rfl⟩
theorem markedInts_none (w : World) :
  Calls Tryz.prog 66 #[.slice none 0 0] w fun e w' => e = .returned (.bool true) ∧ w' = w := by
 go_enter Tryz.func66, Tryz.ntmps66
 go_wp2_with fail
 go_loopw [3] (fun i wr => i = .int .i64 0 ∧ wr = w) (fun _ _ => 0)
 case atStart => exact ⟨rfl, rfl⟩
 case round =>
  obtain ⟨rfl, rfl⟩ := hrel
  go_wp2_with fail
  go_ret
  exact ⟨rfl, rfl⟩
theorem stillTexts_none (bk : Nat) (w : World) (h0 : w.cell? ⟨bk, 2, none⟩ = some (.slice none 0 0)) :
  Calls Tryz.prog 43 #[.pointer (some ⟨bk, 0, none⟩)] w fun e w' => e = .returned (.bool true) ∧ w' = w := by
 go_enter Tryz.func43, Tryz.ntmps43
 go_wp2_with fail
 go_loopw [3] (fun i wr => i = .int .i64 0 ∧ wr = w) (fun _ _ => 0)
 case atStart => exact ⟨rfl, rfl⟩
 case round =>
  obtain ⟨rfl, rfl⟩ := hrel
  go_wp2_with fail
  go_ret
  exact ⟨rfl, rfl⟩
theorem putTexts_none (bk : Nat) (w : World) (h0 : w.cell? ⟨bk, 2, none⟩ = some (.slice none 0 0)) :
  Calls Tryz.prog 52 #[.pointer (some ⟨bk, 0, none⟩)] w fun e w' => e = .returned (.tuple #[]) ∧ w' = w := by
 go_enter Tryz.func52, Tryz.ntmps52
 go_wp2_with fail
 go_loopw [2] (fun i wr => i = .int .i64 0 ∧ wr = w) (fun _ _ => 0)
 case atStart => exact ⟨rfl, rfl⟩
 case round =>
  obtain ⟨rfl, rfl⟩ := hrel
  go_wp2_with fail

  go_end0
  exact ⟨rfl, rfl⟩
theorem growTexts_none (bk : Nat) (w : World) (h0 : w.cell? ⟨bk, 2, none⟩ = some (.slice none 0 0)) :
  Calls Tryz.prog 59 #[.pointer (some ⟨bk, 0, none⟩)] w fun e w' => e = .returned (.slice none 0 0) ∧ w' = w := by
 go_enter Tryz.func59, Tryz.ntmps59
 go_wp2_with fail
 go_loopw [3, 4] (fun o i wr => o = .slice none 0 0 ∧ i = .int .i64 0 ∧ wr = w) (fun _ _ _ => 0)
 case atStart => exact ⟨rfl, rfl, rfl⟩
 case round =>
  obtain ⟨rfl, rfl, rfl⟩ := hrel
  go_wp2_with fail
  go_ret
  exact ⟨rfl, rfl⟩
theorem markedTexts_none (w : World) :
  Calls Tryz.prog 67 #[.slice none 0 0] w fun e w' => e = .returned (.bool true) ∧ w' = w := by
 go_enter Tryz.func67, Tryz.ntmps67
 go_wp2_with fail
 go_loopw [3] (fun i wr => i = .int .i64 0 ∧ wr = w) (fun _ _ => 0)
 case atStart => exact ⟨rfl, rfl⟩
 case round =>
  obtain ⟨rfl, rfl⟩ := hrel
  go_wp2_with fail
  go_ret
  exact ⟨rfl, rfl⟩
theorem stillRows_none (bk : Nat) (w : World) (h0 : w.cell? ⟨bk, 4, none⟩ = some (.slice none 0 0)) :
  Calls Tryz.prog 44 #[.pointer (some ⟨bk, 0, none⟩)] w fun e w' => e = .returned (.bool true) ∧ w' = w := by
 go_enter Tryz.func44, Tryz.ntmps44
 go_wp2_with fail
 go_loopw [3] (fun i wr => i = .int .i64 0 ∧ wr = w) (fun _ _ => 0)
 case atStart => exact ⟨rfl, rfl⟩
 case round =>
  obtain ⟨rfl, rfl⟩ := hrel
  go_wp2_with fail
  go_ret
  exact ⟨rfl, rfl⟩
theorem putRows_none (bk : Nat) (w : World) (h0 : w.cell? ⟨bk, 4, none⟩ = some (.slice none 0 0)) :
  Calls Tryz.prog 53 #[.pointer (some ⟨bk, 0, none⟩)] w fun e w' => e = .returned (.tuple #[]) ∧ w' = w := by
 go_enter Tryz.func53, Tryz.ntmps53
 go_wp2_with fail
 go_loopw [2] (fun i wr => i = .int .i64 0 ∧ wr = w) (fun _ _ => 0)
 case atStart => exact ⟨rfl, rfl⟩
 case round =>
  obtain ⟨rfl, rfl⟩ := hrel
  go_wp2_with fail

  go_end0
  exact ⟨rfl, rfl⟩
theorem growRows_none (bk : Nat) (w : World) (h0 : w.cell? ⟨bk, 4, none⟩ = some (.slice none 0 0)) :
  Calls Tryz.prog 60 #[.pointer (some ⟨bk, 0, none⟩)] w fun e w' => e = .returned (.slice none 0 0) ∧ w' = w := by
 go_enter Tryz.func60, Tryz.ntmps60
 go_wp2_with fail
 go_loopw [3, 4] (fun o i wr => o = .slice none 0 0 ∧ i = .int .i64 0 ∧ wr = w) (fun _ _ _ => 0)
 case atStart => exact ⟨rfl, rfl, rfl⟩
 case round =>
  obtain ⟨rfl, rfl, rfl⟩ := hrel
  go_wp2_with fail
  go_ret
  exact ⟨rfl, rfl⟩
theorem markedRows_none (w : World) :
  Calls Tryz.prog 68 #[.slice none 0 0] w fun e w' => e = .returned (.bool true) ∧ w' = w := by
 go_enter Tryz.func68, Tryz.ntmps68
 go_wp2_with fail
 go_loopw [3] (fun i wr => i = .int .i64 0 ∧ wr = w) (fun _ _ => 0)
 case atStart => exact ⟨rfl, rfl⟩
 case round =>
  obtain ⟨rfl, rfl⟩ := hrel
  go_wp2_with fail
  go_ret
  exact ⟨rfl, rfl⟩
theorem stillSpots_none (bk : Nat) (w : World) (h0 : w.cell? ⟨bk, 6, none⟩ = some (.slice none 0 0)) :
  Calls Tryz.prog 45 #[.pointer (some ⟨bk, 0, none⟩)] w fun e w' => e = .returned (.bool true) ∧ w' = w := by
 go_enter Tryz.func45, Tryz.ntmps45
 go_wp2_with fail
 go_loopw [3] (fun i wr => i = .int .i64 0 ∧ wr = w) (fun _ _ => 0)
 case atStart => exact ⟨rfl, rfl⟩
 case round =>
  obtain ⟨rfl, rfl⟩ := hrel
  go_wp2_with fail
  go_ret
  exact ⟨rfl, rfl⟩
theorem putSpots_none (bk : Nat) (w : World) (h0 : w.cell? ⟨bk, 6, none⟩ = some (.slice none 0 0)) :
  Calls Tryz.prog 54 #[.pointer (some ⟨bk, 0, none⟩)] w fun e w' => e = .returned (.tuple #[]) ∧ w' = w := by
 go_enter Tryz.func54, Tryz.ntmps54
 go_wp2_with fail
 go_loopw [2] (fun i wr => i = .int .i64 0 ∧ wr = w) (fun _ _ => 0)
 case atStart => exact ⟨rfl, rfl⟩
 case round =>
  obtain ⟨rfl, rfl⟩ := hrel
  go_wp2_with fail

  go_end0
  exact ⟨rfl, rfl⟩
theorem growSpots_none (bk : Nat) (w : World) (h0 : w.cell? ⟨bk, 6, none⟩ = some (.slice none 0 0)) :
  Calls Tryz.prog 61 #[.pointer (some ⟨bk, 0, none⟩)] w fun e w' => e = .returned (.slice none 0 0) ∧ w' = w := by
 go_enter Tryz.func61, Tryz.ntmps61
 go_wp2_with fail
 go_loopw [3, 4] (fun o i wr => o = .slice none 0 0 ∧ i = .int .i64 0 ∧ wr = w) (fun _ _ _ => 0)
 case atStart => exact ⟨rfl, rfl, rfl⟩
 case round =>
  obtain ⟨rfl, rfl, rfl⟩ := hrel
  go_wp2_with fail
  go_ret
  exact ⟨rfl, rfl⟩
theorem markedSpots_none (w : World) :
  Calls Tryz.prog 69 #[.slice none 0 0] w fun e w' => e = .returned (.bool true) ∧ w' = w := by
 go_enter Tryz.func69, Tryz.ntmps69
 go_wp2_with fail
 go_loopw [3] (fun i wr => i = .int .i64 0 ∧ wr = w) (fun _ _ => 0)
 case atStart => exact ⟨rfl, rfl⟩
 case round =>
  obtain ⟨rfl, rfl⟩ := hrel
  go_wp2_with fail
  go_ret
  exact ⟨rfl, rfl⟩
theorem stillDocs_none (bk : Nat) (w : World) (h0 : w.cell? ⟨bk, 8, none⟩ = some (.slice none 0 0)) :
  Calls Tryz.prog 46 #[.pointer (some ⟨bk, 0, none⟩)] w fun e w' => e = .returned (.bool true) ∧ w' = w := by
 go_enter Tryz.func46, Tryz.ntmps46
 go_wp2_with fail
 go_loopw [3] (fun i wr => i = .int .i64 0 ∧ wr = w) (fun _ _ => 0)
 case atStart => exact ⟨rfl, rfl⟩
 case round =>
  obtain ⟨rfl, rfl⟩ := hrel
  go_wp2_with fail
  go_ret
  exact ⟨rfl, rfl⟩
theorem putDocs_none (bk : Nat) (w : World) (h0 : w.cell? ⟨bk, 8, none⟩ = some (.slice none 0 0)) :
  Calls Tryz.prog 55 #[.pointer (some ⟨bk, 0, none⟩)] w fun e w' => e = .returned (.tuple #[]) ∧ w' = w := by
 go_enter Tryz.func55, Tryz.ntmps55
 go_wp2_with fail
 go_loopw [2] (fun i wr => i = .int .i64 0 ∧ wr = w) (fun _ _ => 0)
 case atStart => exact ⟨rfl, rfl⟩
 case round =>
  obtain ⟨rfl, rfl⟩ := hrel
  go_wp2_with fail

  go_end0
  exact ⟨rfl, rfl⟩
theorem growDocs_none (bk : Nat) (w : World) (h0 : w.cell? ⟨bk, 8, none⟩ = some (.slice none 0 0)) :
  Calls Tryz.prog 62 #[.pointer (some ⟨bk, 0, none⟩)] w fun e w' => e = .returned (.slice none 0 0) ∧ w' = w := by
 go_enter Tryz.func62, Tryz.ntmps62
 go_wp2_with fail
 go_loopw [3, 4] (fun o i wr => o = .slice none 0 0 ∧ i = .int .i64 0 ∧ wr = w) (fun _ _ _ => 0)
 case atStart => exact ⟨rfl, rfl, rfl⟩
 case round =>
  obtain ⟨rfl, rfl, rfl⟩ := hrel
  go_wp2_with fail
  go_ret
  exact ⟨rfl, rfl⟩
theorem markedDocs_none (w : World) :
  Calls Tryz.prog 70 #[.slice none 0 0] w fun e w' => e = .returned (.bool true) ∧ w' = w := by
 go_enter Tryz.func70, Tryz.ntmps70
 go_wp2_with fail
 go_loopw [3] (fun i wr => i = .int .i64 0 ∧ wr = w) (fun _ _ => 0)
 case atStart => exact ⟨rfl, rfl⟩
 case round =>
  obtain ⟨rfl, rfl⟩ := hrel
  go_wp2_with fail
  go_ret
  exact ⟨rfl, rfl⟩
theorem stillPoints_none (bk : Nat) (w : World) (h0 : w.cell? ⟨bk, 10, none⟩ = some (.slice none 0 0)) :
  Calls Tryz.prog 47 #[.pointer (some ⟨bk, 0, none⟩)] w fun e w' => e = .returned (.bool true) ∧ w' = w := by
 go_enter Tryz.func47, Tryz.ntmps47
 go_wp2_with fail
 go_loopw [3] (fun i wr => i = .int .i64 0 ∧ wr = w) (fun _ _ => 0)
 case atStart => exact ⟨rfl, rfl⟩
 case round =>
  obtain ⟨rfl, rfl⟩ := hrel
  go_wp2_with fail
  go_ret
  exact ⟨rfl, rfl⟩
theorem putPoints_none (bk : Nat) (w : World) (h0 : w.cell? ⟨bk, 10, none⟩ = some (.slice none 0 0)) :
  Calls Tryz.prog 56 #[.pointer (some ⟨bk, 0, none⟩)] w fun e w' => e = .returned (.tuple #[]) ∧ w' = w := by
 go_enter Tryz.func56, Tryz.ntmps56
 go_wp2_with fail
 go_loopw [2] (fun i wr => i = .int .i64 0 ∧ wr = w) (fun _ _ => 0)
 case atStart => exact ⟨rfl, rfl⟩
 case round =>
  obtain ⟨rfl, rfl⟩ := hrel
  go_wp2_with fail

  go_end0
  exact ⟨rfl, rfl⟩
theorem growPoints_none (bk : Nat) (w : World) (h0 : w.cell? ⟨bk, 10, none⟩ = some (.slice none 0 0)) :
  Calls Tryz.prog 63 #[.pointer (some ⟨bk, 0, none⟩)] w fun e w' => e = .returned (.slice none 0 0) ∧ w' = w := by
 go_enter Tryz.func63, Tryz.ntmps63
 go_wp2_with fail
 go_loopw [3, 4] (fun o i wr => o = .slice none 0 0 ∧ i = .int .i64 0 ∧ wr = w) (fun _ _ _ => 0)
 case atStart => exact ⟨rfl, rfl, rfl⟩
 case round =>
  obtain ⟨rfl, rfl, rfl⟩ := hrel
  go_wp2_with fail
  go_ret
  exact ⟨rfl, rfl⟩
theorem markedPoints_none (w : World) :
  Calls Tryz.prog 71 #[.slice none 0 0] w fun e w' => e = .returned (.bool true) ∧ w' = w := by
 go_enter Tryz.func71, Tryz.ntmps71
 go_wp2_with fail
 go_loopw [3] (fun i wr => i = .int .i64 0 ∧ wr = w) (fun _ _ => 0)
 case atStart => exact ⟨rfl, rfl⟩
 case round =>
  obtain ⟨rfl, rfl⟩ := hrel
  go_wp2_with fail
  go_ret
  exact ⟨rfl, rfl⟩
theorem stillBools_none (bk : Nat) (w : World) (h0 : w.cell? ⟨bk, 12, none⟩ = some (.slice none 0 0)) :
  Calls Tryz.prog 48 #[.pointer (some ⟨bk, 0, none⟩)] w fun e w' => e = .returned (.bool true) ∧ w' = w := by
 go_enter Tryz.func48, Tryz.ntmps48
 go_wp2_with fail
 go_loopw [3] (fun i wr => i = .int .i64 0 ∧ wr = w) (fun _ _ => 0)
 case atStart => exact ⟨rfl, rfl⟩
 case round =>
  obtain ⟨rfl, rfl⟩ := hrel
  go_wp2_with fail
  go_ret
  exact ⟨rfl, rfl⟩
theorem putBools_none (bk : Nat) (w : World) (h0 : w.cell? ⟨bk, 12, none⟩ = some (.slice none 0 0)) :
  Calls Tryz.prog 57 #[.pointer (some ⟨bk, 0, none⟩)] w fun e w' => e = .returned (.tuple #[]) ∧ w' = w := by
 go_enter Tryz.func57, Tryz.ntmps57
 go_wp2_with fail
 go_loopw [2] (fun i wr => i = .int .i64 0 ∧ wr = w) (fun _ _ => 0)
 case atStart => exact ⟨rfl, rfl⟩
 case round =>
  obtain ⟨rfl, rfl⟩ := hrel
  go_wp2_with fail

  go_end0
  exact ⟨rfl, rfl⟩
theorem growBools_none (bk : Nat) (w : World) (h0 : w.cell? ⟨bk, 12, none⟩ = some (.slice none 0 0)) :
  Calls Tryz.prog 64 #[.pointer (some ⟨bk, 0, none⟩)] w fun e w' => e = .returned (.slice none 0 0) ∧ w' = w := by
 go_enter Tryz.func64, Tryz.ntmps64
 go_wp2_with fail
 go_loopw [3, 4] (fun o i wr => o = .slice none 0 0 ∧ i = .int .i64 0 ∧ wr = w) (fun _ _ _ => 0)
 case atStart => exact ⟨rfl, rfl, rfl⟩
 case round =>
  obtain ⟨rfl, rfl, rfl⟩ := hrel
  go_wp2_with fail
  go_ret
  exact ⟨rfl, rfl⟩
theorem markedBools_none (w : World) :
  Calls Tryz.prog 72 #[.slice none 0 0] w fun e w' => e = .returned (.bool true) ∧ w' = w := by
 go_enter Tryz.func72, Tryz.ntmps72
 go_wp2_with fail
 go_loopw [3] (fun i wr => i = .int .i64 0 ∧ wr = w) (fun _ _ => 0)
 case atStart => exact ⟨rfl, rfl⟩
 case round =>
  obtain ⟨rfl, rfl⟩ := hrel
  go_wp2_with fail
  go_ret
  exact ⟨rfl, rfl⟩
theorem stillEvents_none (bk : Nat) (w : World) (h0 : w.cell? ⟨bk, 14, none⟩ = some (.slice none 0 0)) :
  Calls Tryz.prog 49 #[.pointer (some ⟨bk, 0, none⟩)] w fun e w' => e = .returned (.bool true) ∧ w' = w := by
 go_enter Tryz.func49, Tryz.ntmps49
 go_wp2_with fail
 go_loopw [3] (fun i wr => i = .int .i64 0 ∧ wr = w) (fun _ _ => 0)
 case atStart => exact ⟨rfl, rfl⟩
 case round =>
  obtain ⟨rfl, rfl⟩ := hrel
  go_wp2_with fail
  go_ret
  exact ⟨rfl, rfl⟩
theorem putEvents_none (bk : Nat) (w : World) (h0 : w.cell? ⟨bk, 14, none⟩ = some (.slice none 0 0)) :
  Calls Tryz.prog 50 #[.pointer (some ⟨bk, 0, none⟩)] w fun e w' => e = .returned (.tuple #[]) ∧ w' = w := by
 go_enter Tryz.func50, Tryz.ntmps50
 go_wp2_with fail
 go_loopw [2] (fun i wr => i = .int .i64 0 ∧ wr = w) (fun _ _ => 0)
 case atStart => exact ⟨rfl, rfl⟩
 case round =>
  obtain ⟨rfl, rfl⟩ := hrel
  go_wp2_with fail

  go_end0
  exact ⟨rfl, rfl⟩
theorem growEvents_none (bk : Nat) (w : World) (h0 : w.cell? ⟨bk, 14, none⟩ = some (.slice none 0 0)) :
  Calls Tryz.prog 65 #[.pointer (some ⟨bk, 0, none⟩)] w fun e w' => e = .returned (.slice none 0 0) ∧ w' = w := by
 go_enter Tryz.func65, Tryz.ntmps65
 go_wp2_with fail
 go_loopw [3, 4] (fun o i wr => o = .slice none 0 0 ∧ i = .int .i64 0 ∧ wr = w) (fun _ _ _ => 0)
 case atStart => exact ⟨rfl, rfl, rfl⟩
 case round =>
  obtain ⟨rfl, rfl, rfl⟩ := hrel
  go_wp2_with fail
  go_ret
  exact ⟨rfl, rfl⟩
theorem markedEvents_none (w : World) :
  Calls Tryz.prog 73 #[.slice none 0 0] w fun e w' => e = .returned (.bool true) ∧ w' = w := by
 go_enter Tryz.func73, Tryz.ntmps73
 go_wp2_with fail
 go_loopw [3] (fun i wr => i = .int .i64 0 ∧ wr = w) (fun _ _ => 0)
 case atStart => exact ⟨rfl, rfl⟩
 case round =>
  obtain ⟨rfl, rfl⟩ := hrel
  go_wp2_with fail
  go_ret
  exact ⟨rfl, rfl⟩
end Go.Proofs.YtkcpkecaliegfaaGreat.Bk

end
section
set_option linter.unusedVariables false
set_option linter.unusedSimpArgs false
namespace Go.Proofs.YtkcpkecaliegfaaGreat.P
open Go.RowKit Go.Proofs.YtkcpkecaliegfaaGreatW.PrintWords Go.Proofs.YtkcpkecaliegfaaGreatW.PrintLast Go.Proofs.YtkcpkecaliegfaaGreatW.PrintMore

set_option maxRecDepth 100000 in
set_option maxHeartbeats 4000000 in
theorem apartIT_calls (bk base : Nat) (oInts pInts : Value) (usInts vsInts : List Value) (xsInts : List (List Int)) (oTexts pTexts : Value) (usTexts vsTexts : List Value) (xsTexts : List (List ByteArray)) (w : World) (hblk : w.heap[bk]? = some (.cells [oInts, pInts, oTexts, pTexts, nilL, nilL, nilL, nilL, nilL, nilL, nilL, nilL, nilL, nilL, nilL, nilL].toArray 44 (0, 0))) (hbase : base ≤ w.heap.size)
  (tInts : Stat usInts vsInts xsInts) (hInts : StA (Kd.int .i64) 3 22 base oInts pInts usInts vsInts xsInts w)
  (tTexts : Stat usTexts vsTexts xsTexts) (hTexts : StA Kd.string 9 23 base oTexts pTexts usTexts vsTexts xsTexts w) :
  Calls Tryz.prog 18 #[.pointer (some ⟨bk, 0, none⟩)] w fun e w' => e = .returned (.bool true) ∧ Below base w w' := by
 obtain ⟨AInts, nInts, cInts, rfl⟩ : ∃ A n c, oInts = .slice A n c := by obtain ⟨A, c, e⟩ := Kd.R_slice hInts.row; exact ⟨A, _, c, e⟩
 obtain ⟨BInts, mInts, dInts, rfl⟩ : ∃ A n c, pInts = .slice A n c := by obtain ⟨A, c, e⟩ := Kd.R_slice hInts.row'; exact ⟨A, _, c, e⟩
 have SInts := Aside0.mk tInts
 have HInts := Aside0.mk hInts
 clear tInts hInts
 obtain ⟨ATexts, nTexts, cTexts, rfl⟩ : ∃ A n c, oTexts = .slice A n c := by obtain ⟨A, c, e⟩ := Kd.R_slice hTexts.row; exact ⟨A, _, c, e⟩
 obtain ⟨BTexts, mTexts, dTexts, rfl⟩ : ∃ A n c, pTexts = .slice A n c := by obtain ⟨A, c, e⟩ := Kd.R_slice hTexts.row'; exact ⟨A, _, c, e⟩
 have STexts := Aside0.mk tTexts
 have HTexts := Aside0.mk hTexts
 clear tTexts hTexts
 have HBLK := Aside0.mk hblk
 have HBASE := Aside0.mk hbase
 have HB := Aside0.mk (Below.refl base w)
 clear hblk hbase
 go_enter Tryz.func18, Tryz.ntmps18
 go_wp2_with fail
 refine (stillInts_st SInts.out HInts.out ((blk_cell HBLK.out 0).trans rfl) ((blk_cell HBLK.out 1).trans rfl)).mono ?_
 rintro en w1 ⟨rfl, hb⟩
 replace HBLK := Aside0.mk (blk_below HBLK.out hb)
 replace HInts := Aside0.mk (HInts.out.below hb)
 replace HTexts := Aside0.mk (HTexts.out.below hb)
 replace HB := Aside0.mk (HB.out.trans (hb.mono (Nat.le_trans HBASE.out HB.out.size)))
 clear hb
 go_wp2_with fail
 refine (stillTexts_st STexts.out HTexts.out ((blk_cell HBLK.out 2).trans rfl) ((blk_cell HBLK.out 3).trans rfl)).mono ?_
 rintro en w2 ⟨rfl, hb⟩
 replace HBLK := Aside0.mk (blk_below HBLK.out hb)
 replace HInts := Aside0.mk (HInts.out.below hb)
 replace HTexts := Aside0.mk (HTexts.out.below hb)
 replace HB := Aside0.mk (HB.out.trans (hb.mono (Nat.le_trans HBASE.out HB.out.size)))
 clear hb
 go_wp2_with fail
 refine (Bk.stillRows_none bk w2 ((blk_cell HBLK.out 4).trans rfl)).mono ?_
 rintro en wx ⟨rfl, hwx⟩
 rw [hwx]
 clear hwx
 go_wp2_with fail
 refine (Bk.stillSpots_none bk w2 ((blk_cell HBLK.out 6).trans rfl)).mono ?_
 rintro en wx ⟨rfl, hwx⟩
 rw [hwx]
 clear hwx
 go_wp2_with fail
 refine (Bk.stillDocs_none bk w2 ((blk_cell HBLK.out 8).trans rfl)).mono ?_
 rintro en wx ⟨rfl, hwx⟩
 rw [hwx]
 clear hwx
 go_wp2_with fail
 refine (Bk.stillPoints_none bk w2 ((blk_cell HBLK.out 10).trans rfl)).mono ?_
 rintro en wx ⟨rfl, hwx⟩
 rw [hwx]
 clear hwx
 go_wp2_with fail
 refine (Bk.stillBools_none bk w2 ((blk_cell HBLK.out 12).trans rfl)).mono ?_
 rintro en wx ⟨rfl, hwx⟩
 rw [hwx]
 clear hwx
 go_wp2_with fail
 refine (Bk.stillEvents_none bk w2 ((blk_cell HBLK.out 14).trans rfl)).mono ?_
 rintro en wx ⟨rfl, hwx⟩
 rw [hwx]
 clear hwx
 replace HInts := Aside0.mk (HInts.out.b)
 replace HTexts := Aside0.mk (HTexts.out.b)
 go_wp2_with fail
 refine (Bk.putEvents_none bk w2 ((blk_cell HBLK.out 14).trans rfl)).mono ?_
 rintro en wx ⟨rfl, hwx⟩
 rw [hwx]
 clear hwx
 go_wp2_with fail
 refine (putInts_st SInts.out HInts.out HBLK.out ((blk_cell HBLK.out 0).trans rfl) (Nat.le_trans HBASE.out HB.out.size)).mono ?_
 rintro en w3 ⟨rfl, hk, hu, hs⟩
 replace HBLK := Aside0.mk (hk.blk (by decide) HBLK.out)
 replace HTexts := Aside0.mk (StB.keep flatTexts.E (by decide) (by decide) HTexts.out hk)
 replace HB := Aside0.mk (HB.out.trans hu)
 replace HInts := Aside0.mk hs
 clear hk hu hs
 go_wp2_with fail
 refine (putTexts_st STexts.out HTexts.out HBLK.out ((blk_cell HBLK.out 2).trans rfl) (Nat.le_trans HBASE.out HB.out.size)).mono ?_
 rintro en w4 ⟨rfl, hk, hu, hs⟩
 replace HBLK := Aside0.mk (hk.blk (by decide) HBLK.out)
 replace HInts := Aside0.mk (StB.keep flatInts.E (by decide) (by decide) HInts.out hk)
 replace HB := Aside0.mk (HB.out.trans hu)
 replace HTexts := Aside0.mk hs
 clear hk hu hs
 go_wp2_with fail
 refine (Bk.putRows_none bk w4 ((blk_cell HBLK.out 4).trans rfl)).mono ?_
 rintro en wx ⟨rfl, hwx⟩
 rw [hwx]
 clear hwx
 go_wp2_with fail
 refine (Bk.putSpots_none bk w4 ((blk_cell HBLK.out 6).trans rfl)).mono ?_
 rintro en wx ⟨rfl, hwx⟩
 rw [hwx]
 clear hwx
 go_wp2_with fail
 refine (Bk.putDocs_none bk w4 ((blk_cell HBLK.out 8).trans rfl)).mono ?_
 rintro en wx ⟨rfl, hwx⟩
 rw [hwx]
 clear hwx
 go_wp2_with fail
 refine (Bk.putPoints_none bk w4 ((blk_cell HBLK.out 10).trans rfl)).mono ?_
 rintro en wx ⟨rfl, hwx⟩
 rw [hwx]
 clear hwx
 go_wp2_with fail
 refine (Bk.putBools_none bk w4 ((blk_cell HBLK.out 12).trans rfl)).mono ?_
 rintro en wx ⟨rfl, hwx⟩
 rw [hwx]
 clear hwx
 go_wp2_with fail
 refine (growInts_st SInts.out HInts.out HBLK.out ((blk_cell HBLK.out 0).trans rfl) (Nat.le_trans HBASE.out HB.out.size)).mono ?_
 rintro en w5 ⟨AgInts, ngInts, cgInts, gsInts, rfl, hgl, hk, hu, hg, hs⟩
 replace HBLK := Aside0.mk (hk.blk (by decide) HBLK.out)
 replace HTexts := Aside0.mk (StB.keep flatTexts.E (by decide) (by decide) HTexts.out hk)
 replace HB := Aside0.mk (HB.out.trans hu)
 replace HInts := Aside0.mk hs
 have GInts := Aside0.mk hg
 have EInts := Aside0.mk hgl
 clear hk hu hs hg hgl
 go_wp2_with fail
 refine (growTexts_st STexts.out HTexts.out HBLK.out ((blk_cell HBLK.out 2).trans rfl) (Nat.le_trans HBASE.out HB.out.size)).mono ?_
 rintro en w6 ⟨AgTexts, ngTexts, cgTexts, gsTexts, rfl, hgl, hk, hu, hg, hs⟩
 replace HBLK := Aside0.mk (hk.blk (by decide) HBLK.out)
 replace HInts := Aside0.mk (StB.keep flatInts.E (by decide) (by decide) HInts.out hk)
 replace GInts := Aside0.mk (StB.keep flatInts.E (by decide) (by decide) GInts.out hk)
 replace HB := Aside0.mk (HB.out.trans hu)
 replace HTexts := Aside0.mk hs
 have GTexts := Aside0.mk hg
 have ETexts := Aside0.mk hgl
 clear hk hu hs hg hgl
 go_wp2_with fail
 refine (Bk.growRows_none bk w6 ((blk_cell HBLK.out 4).trans rfl)).mono ?_
 rintro en wx ⟨rfl, hwx⟩
 rw [hwx]
 clear hwx
 go_wp2_with fail
 refine (Bk.growSpots_none bk w6 ((blk_cell HBLK.out 6).trans rfl)).mono ?_
 rintro en wx ⟨rfl, hwx⟩
 rw [hwx]
 clear hwx
 go_wp2_with fail
 refine (Bk.growDocs_none bk w6 ((blk_cell HBLK.out 8).trans rfl)).mono ?_
 rintro en wx ⟨rfl, hwx⟩
 rw [hwx]
 clear hwx
 go_wp2_with fail
 refine (Bk.growPoints_none bk w6 ((blk_cell HBLK.out 10).trans rfl)).mono ?_
 rintro en wx ⟨rfl, hwx⟩
 rw [hwx]
 clear hwx
 go_wp2_with fail
 refine (Bk.growBools_none bk w6 ((blk_cell HBLK.out 12).trans rfl)).mono ?_
 rintro en wx ⟨rfl, hwx⟩
 rw [hwx]
 clear hwx
 go_wp2_with fail
 refine (Bk.growEvents_none bk w6 ((blk_cell HBLK.out 14).trans rfl)).mono ?_
 rintro en wx ⟨rfl, hwx⟩
 rw [hwx]
 clear hwx
 go_wp2_with fail
 refine (markedInts_st SInts.out EInts.out (Nat.le_refl 72) GInts.out).mono ?_
 rintro en w7 ⟨rfl, hb⟩
 replace HBLK := Aside0.mk (blk_below HBLK.out hb)
 replace HInts := Aside0.mk (HInts.out.below hb)
 replace HTexts := Aside0.mk (HTexts.out.below hb)
 replace GInts := Aside0.mk (GInts.out.below hb)
 replace GTexts := Aside0.mk (GTexts.out.below hb)
 replace HB := Aside0.mk (HB.out.trans (hb.mono (Nat.le_trans HBASE.out HB.out.size)))
 clear hb
 have y0 : w7.cell? ⟨bk, 0, none⟩ = some (.slice AInts nInts cInts) := ((blk_cell HBLK.out 0).trans rfl)
 go_wp2_with fail
 refine (markedInts_st (q := 0) SInts.out rfl (Nat.zero_le _) HInts.out).mono ?_
 rintro en w8 ⟨rfl, hb⟩
 clear y0
 replace HBLK := Aside0.mk (blk_below HBLK.out hb)
 replace HInts := Aside0.mk (HInts.out.below hb)
 replace HTexts := Aside0.mk (HTexts.out.below hb)
 replace GInts := Aside0.mk (GInts.out.below hb)
 replace GTexts := Aside0.mk (GTexts.out.below hb)
 replace HB := Aside0.mk (HB.out.trans (hb.mono (Nat.le_trans HBASE.out HB.out.size)))
 clear hb
 go_wp2_with fail
 refine (markedTexts_st STexts.out ETexts.out (Nat.le_refl 72) GTexts.out).mono ?_
 rintro en w9 ⟨rfl, hb⟩
 replace HBLK := Aside0.mk (blk_below HBLK.out hb)
 replace HInts := Aside0.mk (HInts.out.below hb)
 replace HTexts := Aside0.mk (HTexts.out.below hb)
 replace GInts := Aside0.mk (GInts.out.below hb)
 replace GTexts := Aside0.mk (GTexts.out.below hb)
 replace HB := Aside0.mk (HB.out.trans (hb.mono (Nat.le_trans HBASE.out HB.out.size)))
 clear hb
 have y0 : w9.cell? ⟨bk, 2, none⟩ = some (.slice ATexts nTexts cTexts) := ((blk_cell HBLK.out 2).trans rfl)
 go_wp2_with fail
 refine (markedTexts_st (q := 0) STexts.out rfl (Nat.zero_le _) HTexts.out).mono ?_
 rintro en w10 ⟨rfl, hb⟩
 clear y0
 replace HBLK := Aside0.mk (blk_below HBLK.out hb)
 replace HInts := Aside0.mk (HInts.out.below hb)
 replace HTexts := Aside0.mk (HTexts.out.below hb)
 replace GInts := Aside0.mk (GInts.out.below hb)
 replace GTexts := Aside0.mk (GTexts.out.below hb)
 replace HB := Aside0.mk (HB.out.trans (hb.mono (Nat.le_trans HBASE.out HB.out.size)))
 clear hb
 go_wp2_with fail
 refine (Bk.markedRows_none w10).mono ?_
 rintro en wx ⟨rfl, hwx⟩
 rw [hwx]
 clear hwx
 have y0 : w10.cell? ⟨bk, 4, none⟩ = some (.slice none 0 0) := ((blk_cell HBLK.out 4).trans rfl)
 go_wp2_with fail
 refine (Bk.markedRows_none w10).mono ?_
 rintro en wx ⟨rfl, hwx⟩
 rw [hwx]
 clear hwx y0
 go_wp2_with fail
 refine (Bk.markedSpots_none w10).mono ?_
 rintro en wx ⟨rfl, hwx⟩
 rw [hwx]
 clear hwx
 have y0 : w10.cell? ⟨bk, 6, none⟩ = some (.slice none 0 0) := ((blk_cell HBLK.out 6).trans rfl)
 go_wp2_with fail
 refine (Bk.markedSpots_none w10).mono ?_
 rintro en wx ⟨rfl, hwx⟩
 rw [hwx]
 clear hwx y0
 go_wp2_with fail
 refine (Bk.markedDocs_none w10).mono ?_
 rintro en wx ⟨rfl, hwx⟩
 rw [hwx]
 clear hwx
 have y0 : w10.cell? ⟨bk, 8, none⟩ = some (.slice none 0 0) := ((blk_cell HBLK.out 8).trans rfl)
 go_wp2_with fail
 refine (Bk.markedDocs_none w10).mono ?_
 rintro en wx ⟨rfl, hwx⟩
 rw [hwx]
 clear hwx y0
 go_wp2_with fail
 refine (Bk.markedPoints_none w10).mono ?_
 rintro en wx ⟨rfl, hwx⟩
 rw [hwx]
 clear hwx
 have y0 : w10.cell? ⟨bk, 10, none⟩ = some (.slice none 0 0) := ((blk_cell HBLK.out 10).trans rfl)
 go_wp2_with fail
 refine (Bk.markedPoints_none w10).mono ?_
 rintro en wx ⟨rfl, hwx⟩
 rw [hwx]
 clear hwx y0
 go_wp2_with fail
 refine (Bk.markedBools_none w10).mono ?_
 rintro en wx ⟨rfl, hwx⟩
 rw [hwx]
 clear hwx
 have y0 : w10.cell? ⟨bk, 12, none⟩ = some (.slice none 0 0) := ((blk_cell HBLK.out 12).trans rfl)
 go_wp2_with fail
 refine (Bk.markedBools_none w10).mono ?_
 rintro en wx ⟨rfl, hwx⟩
 rw [hwx]
 clear hwx y0
 go_wp2_with fail
 refine (Bk.markedEvents_none w10).mono ?_
 rintro en wx ⟨rfl, hwx⟩
 rw [hwx]
 clear hwx
 have y0 : w10.cell? ⟨bk, 14, none⟩ = some (.slice none 0 0) := ((blk_cell HBLK.out 14).trans rfl)
 go_wp2_with fail
 refine (Bk.markedEvents_none w10).mono ?_
 rintro en wx ⟨rfl, hwx⟩
 rw [hwx]
 clear hwx y0
 go_wp2_with fail
 go_ret
 exact ⟨rfl, HB.out⟩
end Go.Proofs.YtkcpkecaliegfaaGreat.P

end
