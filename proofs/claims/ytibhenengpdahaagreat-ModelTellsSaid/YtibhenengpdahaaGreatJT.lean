/- Are lists of one kind (Docs) marked as they must be? Conditions: the lists are few and small. (Printed by genk.py.) -/
import Derived.Test.YtibhenengpdahaaGreatJR
import Derived.Test.YtibhenengpdahaaGreatJS
section
set_option linter.unusedVariables false
set_option linter.unusedSimpArgs false
namespace Go.Proofs.YtibhenengpdahaaGreat.P
open Go.RowKit Go.Proofs.YtibhenengpdahaaGreatW.PrintWords Go.Proofs.YtibhenengpdahaaGreatW.PrintLast Go.Proofs.YtibhenengpdahaaGreatW.PrintMore

def markedDocs.T4 : Bool × List (List Nat × List Nat) := (true, [([], []), ([], []), ([0, 1], [0, 1]), ([2], [2]), ([], []), ([], []), ([], []), ([5, 6], [5, 6]), ([7], [7]), ([8], [8]), ([4, 9], [4, 9]), ([3, 10, 10], [3, 10]), ([11], [11])])
def markedDocs.B4 : List Nat := [0, 0, 3, 7, 0, 0, 0, 96, 224, 480, 1008, 2047, 4095]
theorem markedDocs.tab4 : rtab .any (opsOf Tryz.f65 4) = markedDocs.T4 := by kernel_rfl
theorem markedDocs.bits4 : waitsOk markedDocs.T4.2 markedDocs.B4 = true := by kernel_rfl
set_option maxRecDepth 100000 in
set_option maxHeartbeats 4000000 in
theorem markedDocs_calls (base : Nat) (A : Option Addr) (n c : Nat) (us : List Value) (ms : Nat → Nat) (w : World) (h : Kd.R (Kd.raw 1) 22 w base (fun _ => True) (.slice A n c) (us.map fun v => [v])) (hr : ∀ i, (h : i < us.length) → Kd.R k27 27 w base (fun _ => True) us[i] (marksOf mkDocs (i : Int) 0 (ms i)))
  (hl : us.length ≤ 1000) (hm : ∀ i, ms i ≤ 1000000) :
  Calls Tryz.prog 65 #[.slice A n c] w fun e w' => e = .returned (.bool true) ∧ Below w.heap.size w w' := by
 obtain ⟨hn, hc, hL⟩ := lists_of_raw h
 have HA := Aside0.mk hL
 have HR := Aside0.mk hr
 have HS := Aside0.mk hm
 have HL := Aside0.mk hl
 have HNN := Aside0.mk hn.symm
 clear h hr hm hl hL hn hc
 go_enter Tryz.func65, Tryz.ntmps65
 go_wp2_with fail
 go_loopw [3] (fun iv wr => ∃ i : Nat, i ≤ n ∧ iv = .int .i64 i ∧ Aside0 (Below w.heap.size w wr)) (fun iv _ => n - (intOf iv).toNat)
 case atStart => exact ⟨0, Nat.zero_le _, rfl, ⟨Below.refl _ _⟩⟩
 case round =>
  obtain ⟨i, hi, rfl, HB⟩ := hrel
  by_cases hlt : i < n
  ·have c1 : decide ((i : Int) < (n : Int)) = true := decide_eq_true (by omega)
   have c2 : decide (i < n) = true := decide_eq_true hlt
   have v1 : (0 ≤ (i : Int)) = True := eq_true (by omega)
   have v2 : ((i : Int) < (n : Int)) = True := eq_true (by omega)
   have v3 : IntKind.i64.wrap ((i : Int) + 1) = (i : Int) + 1 := IntWalk.i64_in _ (by have := HL.out; have := HNN.out; omega)
   obtain ⟨ad, hAe, x0⟩ := (HA.out.below HB.out).at_ i (by rw [HNN.out]; exact hlt)
   obtain ⟨a, k, hu, hk, hC⟩ := (readsD_of_R (HR.out i (by rw [HNN.out]; exact hlt))).below HB.out
   rw [hu, marks_len] at x0
   have hsm := HS.out i
   obtain ⟨mm, hmm⟩ : ∃ q, ms i = q := ⟨_, rfl⟩
   rw [hmm] at x0 hk hC hsm
   rw [marks_len] at hk hC
   have HC := Aside0.mk hC
   have HMM := Aside0.mk hsm
   have HK := Aside0.mk hk
   have MK := Aside0.mk (fun w' => markDocs_calls i 0 mm w' (by have := HL.out; have := HNN.out; omega) (by have := HMM.out; omega))
   subst hAe
   clear hu hC hk hmm hsm
   go_wp2_with fail
   refine start_ (n := 13) (S := fun w' => Below wr.heap.size wr w') (ds := []) (bs 13 0) (by kernel_rfl) rfl rfl (below_drew1 (Below.refl _ _)) (fun hHeld => ?_)
   refine with_tabW markedDocs.tab4 markedDocs.bits4 (fun HT_ HW_ => ?_)
   iterate 3
    refine tk_ (N := some _) (v := ?_) (a' := ?_) rfl rfl (take_ofW HT_.out HW_.out (by kernel_rfl)) (fun _ _ _ h => h) (Or.inl ⟨by rfl, ?_⟩) hHeld ?_ ?_
    rotate_left
    ·intro w' s
     go_simp
     with_reducible rfl
    rotate_left
    ·simp only [Act.put, List.setIfInBounds_toArray, List.set_cons_zero, List.set_cons_succ, i64_w, i32_w]
     rfl
   refine take_ (i := 3) (N := some 13) (v := ?_) (a' := ?_) (bs 13 15) rfl rfl (take_ofW HT_.out HW_.out (by kernel_rfl)) (fun _ _ _ h => h) (Or.inl ⟨by rfl, ?_⟩) hHeld ?_ ?_
   rotate_left
   ·intro w' s
    have s0 := pw_cell_below s x0
    go_simp
    with_reducible rfl
   rotate_left
   ·simp only [Act.put, List.setIfInBounds_toArray, List.set_cons_zero, List.set_cons_succ, i64_w, i32_w]
    rfl
   iterate 4
    refine tk_ (N := some _) (v := ?_) (a' := ?_) rfl rfl (take_ofW HT_.out HW_.out (by kernel_rfl)) (fun _ _ _ h => h) (Or.inl ⟨by rfl, ?_⟩) hHeld ?_ ?_
    rotate_left
    ·intro w' s
     go_simp
     with_reducible rfl
    rotate_left
    ·simp only [Act.put, List.setIfInBounds_toArray, List.set_cons_zero, List.set_cons_succ, i64_w, i32_w]
     rfl
   refine take_ (i := 8) (N := some 18) (v := ?_) (a' := ?_) (bs 13 511) rfl rfl (take_ofW HT_.out HW_.out (by kernel_rfl)) (fun _ _ _ h => h) (Or.inl ⟨by rfl, ?_⟩) hHeld ?_ ?_
   rotate_left
   ·intro w' s
    have s0 := pw_cell_below s x0
    go_simp
    with_reducible rfl
   rotate_left
   ·simp only [Act.put, List.setIfInBounds_toArray, List.set_cons_zero, List.set_cons_succ, i64_w, i32_w]
    rfl
   refine take_ (i := 9) (N := some 19) (v := ?_) (a' := ?_) (bs 13 1023) rfl rfl (take_ofW HT_.out HW_.out (by kernel_rfl)) (fun _ _ _ h => h) (Or.inl ⟨by rfl, ?_⟩) hHeld ?_ ?_
   rotate_left
   ·intro w' s
    go_simp
    with_reducible rfl
   rotate_left
   ·simp only [Act.put, List.setIfInBounds_toArray, List.set_cons_zero, List.set_cons_succ, i64_w, i32_w]
    rfl
   refine one_ (i := 10) (N := some 20) (bs 13 2047) rfl rfl (one_of HT_.out (by kernel_rfl)) (by decide) (fun K hK => ?_)
   refine goes_ Tryz.func94 (by kernel_rfl) rfl #[.int .i64 i, .int .i64 0, .int .i64 mm] (by rfl) rfl rfl (by (try simp only [List.map_toArray, List.map_cons, List.map_nil]); first | done | rfl | (simp only [List.length_drop, List.length_take]; rfl)) ?_
   refine (MK.out _).mono ?_
   rintro en w8 ⟨mv, rfl, hRm, hb⟩
   refine ⟨_, rfl, ?_⟩
   obtain ⟨Am, cm, hm⟩ := Kd.R_slice hRm
   rw [marks_len] at hm
   subst hm
   have HRM := Aside0.mk hRm
   refine hK.out _ _ (below_step hHeld hb) (fun hHeld => ?_)
   clear hRm hb
   clear hK K
   refine norm_ (a' := ?_) ?_ ?_
   rotate_left
   ·show Act.put _ (some 20) _ = _
    simp only [Act.put, List.setIfInBounds_toArray, List.set_cons_zero, List.set_cons_succ, i64_w, i32_w]
    rfl
   refine one_ (i := 11) (N := some 21) (bs 13 4095) rfl rfl (one_of HT_.out (by kernel_rfl)) (by decide) (fun K hK => ?_)
   have SM := sameDocs_calls a Am k cm (marksOf mkDocs (i : Int) 0 mm) w8 (by rw [marks_len]; exact Kd.C_below HC.out hHeld) ((Kd.R_reads' HRM.out).2.2) (by rw [marks_len]; exact HK.out) (by have h := (Kd.R_reads' HRM.out).2.1; rw [marks_len]; exact h) (by rw [marks_len]; exact HMM.out)
   rw [marks_len] at SM
   refine goes_ Tryz.func15 (by kernel_rfl) rfl #[.slice a mm k, .slice Am mm cm] (by rfl) rfl rfl (by (try simp only [List.map_toArray, List.map_cons, List.map_nil]); first | done | rfl | (simp only [List.length_drop, List.length_take]; rfl)) ?_
   refine SM.mono ?_
   rintro en w9 ⟨rfl, hb⟩
   refine ⟨_, rfl, ?_⟩
   refine hK.out _ _ (below_step hHeld hb) (fun hHeld => ?_)
   clear hb SM
   clear hK K
   refine norm_ (a' := ?_) ?_ ?_
   rotate_left
   ·show Act.put _ (some 21) _ = _
    simp only [Act.put, List.setIfInBounds_toArray, List.set_cons_zero, List.set_cons_succ, i64_w, i32_w]
    rfl
   refine take_ (i := 12) (N := some 22) (v := ?_) (a' := ?_) (bs 13 8191) rfl rfl (take_ofW HT_.out HW_.out (by kernel_rfl)) (fun _ _ _ h => h) (Or.inl ⟨by rfl, ?_⟩) hHeld ?_ ?_
   rotate_left
   ·intro w' s
    go_simp
    with_reducible rfl
   rotate_left
   ·simp only [Act.put, List.setIfInBounds_toArray, List.set_cons_zero, List.set_cons_succ, i64_w, i32_w]
    rfl
   refine done_ (done_of HT_.out (by kernel_rfl)) ?_
   have HBn := Aside0.mk (below_step HB.out hHeld)
   clear hHeld x0
   go_wp2_with fail
   go_roundw
   case rel => exact ⟨i + 1, by omega, by go_num, HBn⟩
   case measure => simp [intOf]; omega
  ·obtain rfl : i = n := by omega
   have c1 : decide ((i : Int) < (i : Int)) = false := decide_eq_false (by omega)
   go_wp2_with fail
   go_ret
   exact ⟨rfl, HB.out⟩
end Go.Proofs.YtibhenengpdahaaGreat.P

end
section
set_option linter.unusedVariables false
set_option linter.unusedSimpArgs false
namespace Go.Proofs.YtibhenengpdahaaGreat.P
open Go.RowKit Go.Proofs.YtibhenengpdahaaGreatW.PrintWords Go.Proofs.YtibhenengpdahaaGreatW.PrintLast Go.Proofs.YtibhenengpdahaaGreatW.PrintMore

theorem stillDocs_st {bk base : Nat} {A A' : Option Addr} {n n' c c' : Nat} {us us' : List Value} {xss : List (List S27)} {w : World} (s : Stat us us' xss) (h : StA k27 27 22 base (.slice A n c) (.slice A' n' c') us us' xss w) (h0 : w.cell? ⟨bk, 8, none⟩ = some (.slice A n c)) (h1 : w.cell? ⟨bk, 9, none⟩ = some (.slice A' n' c')) :
  Calls Tryz.prog 41 #[.pointer (some ⟨bk, 0, none⟩)] w fun e w' => e = .returned (.bool true) ∧ Below w.heap.size w w' := by
 obtain ⟨hn, _, hL⟩ := lists_of_raw h.row
 obtain ⟨hn', _, hL'⟩ := lists_of_raw h.row'
 rw [hn] at h0
 rw [hn', s.n] at h1
 exact stillDocs_calls bk A A' c c' us us' xss w h0 h1 s.l hL hL' s.n s.x (fun i hi => readsD_of_R (h.own i hi)) h.cop (fun i => by have := s.s i; omega)
theorem putDocs_st {bk base : Nat} {A : Option Addr} {n c : Nat} {us us' : List Value} {xss : List (List S27)} {w : World} {cs : Array Value} (s : Stat us us' xss) (h : StB k27 27 22 base (.slice A n c) us (fun i => xss.getD i []) w) (hblk : w.heap[bk]? = some (.cells cs 48 (0, 0))) (h0 : w.cell? ⟨bk, 8, none⟩ = some (.slice A n c)) (hb : base ≤ w.heap.size) :
  Calls Tryz.prog 50 #[.pointer (some ⟨bk, 0, none⟩)] w fun e w' => e = .returned (.tuple #[]) ∧ KeepT 27 w w' ∧ Below base w w' ∧ StB k27 27 22 base (.slice A n c) us (fun i => marksOf mkDocs (i : Int) 0 (xss.getD i []).length) w' := by
 obtain ⟨hn, _, hL⟩ := lists_of_raw h.row
 rw [hn] at h0
 refine (putDocs_calls bk A c us xss base w h0 s.l hL h.own s.sep (fun i hi => block_ne (by decide) (h.own i hi) hblk) (StB.rowNe lneDocs h) (fun i => by have := s.s i; omega)).mono ?_
 rintro e w' ⟨rfl, hp, hR⟩
 have hk := hp.typed h.own
 exact ⟨rfl, hk, hp.under (fun i hi k e => Kd.R_base (h.own i hi) k e) hb, hk.R rfl lneDocs h.row, hR⟩
theorem growDocs_st {bk base : Nat} {A : Option Addr} {n c : Nat} {us us' : List Value} {xss : List (List S27)} {w : World} {cs : Array Value} (s : Stat us us' xss) (h : StB k27 27 22 base (.slice A n c) us (fun i => marksOf mkDocs (i : Int) 0 (xss.getD i []).length) w) (hblk : w.heap[bk]? = some (.cells cs 48 (0, 0))) (h0 : w.cell? ⟨bk, 8, none⟩ = some (.slice A n c)) (hb : base ≤ w.heap.size) :
  Calls Tryz.prog 57 #[.pointer (some ⟨bk, 0, none⟩)] w fun e w' => ∃ (Ag : Option Addr) (ng cg : Nat) (gs : List Value), e = .returned (.slice Ag ng cg) ∧ gs.length = us.length ∧ KeepT 27 w w' ∧ Below base w w' ∧
   StB k27 27 22 base (.slice Ag ng cg) gs (fun i => marksOf mkDocs (i : Int) 0 ((xss.getD i []).length + 72)) w' ∧ StB k27 27 22 base (.slice A n c) us (fun i => marksOf mkDocs (i : Int) 0 (xss.getD i []).length) w' := by
 obtain ⟨hn, _, hL⟩ := lists_of_raw h.row
 rw [hn] at h0
 refine (growDocs_calls bk A c us (xss.map List.length) base w h0 s.l hL (fun i hi => by rw [getD_len]; exact h.own i hi) s.sep (fun i hi => block_ne (by decide) (h.own i hi) hblk) (StB.rowNe lneDocs h) (fun i => by rw [getD_len]; exact s.s i) hb).mono ?_
 rintro e w' ⟨Ag, cg, gs, rfl, hgl, hgr, hg, hu, hp⟩
 have hk := hp.typed h.own
 refine ⟨Ag, us.length, cg, gs, rfl, hgl, hk, hp.under (fun i hi k e => Kd.R_base (h.own i hi) k e) hb, ⟨hgr, fun i hi => ?_⟩, ⟨hk.R rfl lneDocs h.row, fun i hi => ?_⟩⟩
 ·have := hg i hi
  rw [getD_len] at this
  exact this
 ·have := hu i hi
  rw [getD_len] at this
  exact this
theorem markedDocs_st {base : Nat} {A : Option Addr} {n c : Nat} {us us0 us' : List Value} {xss : List (List S27)} {w : World} {q : Nat} (s : Stat us0 us' xss) (hl : us.length = us0.length) (hq : q ≤ 72) (h : StB k27 27 22 base (.slice A n c) us (fun i => marksOf mkDocs (i : Int) 0 ((xss.getD i []).length + q)) w) :
  Calls Tryz.prog 65 #[.slice A n c] w fun e w' => e = .returned (.bool true) ∧ Below w.heap.size w w' :=
 markedDocs_calls base A n c us (fun i => (xss.getD i []).length + q) w h.row h.own (by rw [hl]; exact s.l) (fun i => by have := s.s i; omega)
end Go.Proofs.YtibhenengpdahaaGreat.P

end
