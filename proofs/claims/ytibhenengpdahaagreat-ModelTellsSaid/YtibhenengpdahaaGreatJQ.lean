/- Are lists of one kind (Spots) marked as they must be? Conditions: the lists are few and small. (Printed by genk.py.) -/
import Derived.Test.YtibhenengpdahaaGreatJO
import Derived.Test.YtibhenengpdahaaGreatJP
import Derived.Test.YtibhenengpdahaaGreatJA
section
set_option linter.unusedVariables false
set_option linter.unusedSimpArgs false
namespace Go.Proofs.YtibhenengpdahaaGreat.P
open Go.RowKit Go.Proofs.YtibhenengpdahaaGreatW.PrintWords Go.Proofs.YtibhenengpdahaaGreatW.PrintLast Go.Proofs.YtibhenengpdahaaGreatW.PrintMore

def markedSpots.T4 : Bool × List (List Nat × List Nat) := (true, [([], []), ([], []), ([0, 1], [0, 1]), ([2], [2]), ([], []), ([], []), ([], []), ([5, 6], [5, 6]), ([7], [7]), ([8], [8]), ([4, 9], [4, 9]), ([3, 10, 10], [3, 10]), ([11], [11])])
def markedSpots.B4 : List Nat := [0, 0, 3, 7, 0, 0, 0, 96, 224, 480, 1008, 2047, 4095]
theorem markedSpots.tab4 : rtab .any (opsOf Tryz.f64 4) = markedSpots.T4 := by kernel_rfl
theorem markedSpots.bits4 : waitsOk markedSpots.T4.2 markedSpots.B4 = true := by kernel_rfl
set_option maxRecDepth 100000 in
set_option maxHeartbeats 4000000 in
theorem markedSpots_calls (base : Nat) (A : Option Addr) (n c : Nat) (us : List Value) (ms : Nat → Nat) (w : World) (h : Kd.R (Kd.raw 1) 30 w base (fun _ => True) (.slice A n c) (us.map fun v => [v])) (hr : ∀ i, (h : i < us.length) → Kd.R k61 61 w base (fun _ => True) us[i] (marksOf mkSpots (i : Int) 0 (ms i)))
  (hl : us.length ≤ 1000) (hm : ∀ i, ms i ≤ 1000000) :
  Calls Tryz.prog 64 #[.slice A n c] w fun e w' => e = .returned (.bool true) ∧ Below w.heap.size w w' := by
 obtain ⟨hn, hc, hL⟩ := lists_of_raw h
 have HA := Aside0.mk hL
 have HR := Aside0.mk hr
 have HS := Aside0.mk hm
 have HL := Aside0.mk hl
 have HNN := Aside0.mk hn.symm
 clear h hr hm hl hL hn hc
 go_enter Tryz.func64, Tryz.ntmps64
 go_wp2_with fail
 go_loopw [3] (fun iv wr => ∃ i : Nat, i ≤ n ∧ iv = .int .i64 i ∧ Aside0 (Below w.heap.size w wr)) (fun iv _ => n - (intOf iv).toNat)
 case atStart => exact ⟨0, Nat.zero_le _, rfl, ⟨Below.refl _ _⟩⟩
 case round =>
  obtain ⟨i, hi, rfl, HB⟩ := hrel
  by_cases hlt : i < n
  ·have c1 : decide ((i : Int) < (n : Int)) = true := decide_eq_true (by omega)
   have c2 : decide (i < n) = true := decide_eq_true hlt
   have v1 : (0 ≤ (i : Int)) = True := eq_true (by omega)
   have v2 : ((i : Int) < (n : Int)) = True := eq_true (by omega)
   have v3 : IntKind.i64.wrap ((i : Int) + 1) = (i : Int) + 1 := IntWalk.i64_in _ (by have := HL.out; have := HNN.out; omega)
   obtain ⟨ad, hAe, x0⟩ := (HA.out.below HB.out).at_ i (by rw [HNN.out]; exact hlt)
   obtain ⟨a, k, hu, hk, hC⟩ := (readsD_of_R (HR.out i (by rw [HNN.out]; exact hlt))).below HB.out
   rw [hu, marks_len] at x0
   have hsm := HS.out i
   obtain ⟨mm, hmm⟩ : ∃ q, ms i = q := ⟨_, rfl⟩
   rw [hmm] at x0 hk hC hsm
   rw [marks_len] at hk hC
   have HC := Aside0.mk hC
   have HMM := Aside0.mk hsm
   have HK := Aside0.mk hk
   have MK := Aside0.mk (fun w' => markSpots_calls i 0 mm w' (by have := HL.out; have := HNN.out; omega) (by have := HMM.out; omega))
   subst hAe
   clear hu hC hk hmm hsm
   go_wp2_with fail
   refine start_ (n := 13) (S := fun w' => Below wr.heap.size wr w') (ds := []) (bs 13 0) (by kernel_rfl) rfl rfl (below_drew1 (Below.refl _ _)) (fun hHeld => ?_)
   refine with_tabW markedSpots.tab4 markedSpots.bits4 (fun HT_ HW_ => ?_)
   iterate 3
    refine tk_ (N := some _) (v := ?_) (a' := ?_) rfl rfl (take_ofW HT_.out HW_.out (by kernel_rfl)) (fun _ _ _ h => h) (Or.inl ⟨by rfl, ?_⟩) hHeld ?_ ?_
    rotate_left
    ·intro w' s
     go_simp
     with_reducible rfl
    rotate_left
    ·simp only [Act.put, List.setIfInBounds_toArray, List.set_cons_zero, List.set_cons_succ, i64_w, i32_w]
     rfl
   refine take_ (i := 3) (N := some 13) (v := ?_) (a' := ?_) (bs 13 15) rfl rfl (take_ofW HT_.out HW_.out (by kernel_rfl)) (fun _ _ _ h => h) (Or.inl ⟨by rfl, ?_⟩) hHeld ?_ ?_
   rotate_left
   ·intro w' s
    have s0 := pw_cell_below s x0
    go_simp
    with_reducible rfl
   rotate_left
   ·simp only [Act.put, List.setIfInBounds_toArray, List.set_cons_zero, List.set_cons_succ, i64_w, i32_w]
    rfl
   iterate 4
    refine tk_ (N := some _) (v := ?_) (a' := ?_) rfl rfl (take_ofW HT_.out HW_.out (by kernel_rfl)) (fun _ _ _ h => h) (Or.inl ⟨by rfl, ?_⟩) hHeld ?_ ?_
    rotate_left
    ·intro w' s
     go_simp
     with_reducible rfl
    rotate_left
    ·simp only [Act.put, List.setIfInBounds_toArray, List.set_cons_zero, List.set_cons_succ, i64_w, i32_w]
     rfl
   refine take_ (i := 8) (N := some 18) (v := ?_) (a' := ?_) (bs 13 511) rfl rfl (take_ofW HT_.out HW_.out (by kernel_rfl)) (fun _ _ _ h => h) (Or.inl ⟨by rfl, ?_⟩) hHeld ?_ ?_
   rotate_left
   ·intro w' s
    have s0 := pw_cell_below s x0
    go_simp
    with_reducible rfl
   rotate_left
   ·simp only [Act.put, List.setIfInBounds_toArray, List.set_cons_zero, List.set_cons_succ, i64_w, i32_w]
    rfl
   refine take_ (i := 9) (N := some 19) (v := ?_) (a' := ?_) (bs 13 1023) rfl rfl (take_ofW HT_.out HW_.out (by kernel_rfl)) (fun _ _ _ h => h) (Or.inl ⟨by rfl, ?_⟩) hHeld ?_ ?_
   rotate_left
   ·intro w' s
    go_simp
    with_reducible rfl
   rotate_left
   ·simp only [Act.put, List.setIfInBounds_toArray, List.set_cons_zero, List.set_cons_succ, i64_w, i32_w]
    rfl
   refine one_ (i := 10) (N := some 20) (bs 13 2047) rfl rfl (one_of HT_.out (by kernel_rfl)) (by decide) (fun K hK => ?_)
   refine goes_ Tryz.func93 (by kernel_rfl) rfl #[.int .i64 i, .int .i64 0, .int .i64 mm] (by rfl) rfl rfl (by (try simp only [List.map_toArray, List.map_cons, List.map_nil]); first | done | rfl | (simp only [List.length_drop, List.length_take]; rfl)) ?_
   refine (MK.out _).mono ?_
   rintro en w8 ⟨mv, rfl, hRm, hb⟩
   refine ⟨_, rfl, ?_⟩
   obtain ⟨Am, cm, hm⟩ := Kd.R_slice hRm
   rw [marks_len] at hm
   subst hm
   have HRM := Aside0.mk hRm
   refine hK.out _ _ (below_step hHeld hb) (fun hHeld => ?_)
   clear hRm hb
   clear hK K
   refine norm_ (a' := ?_) ?_ ?_
   rotate_left
   ·show Act.put _ (some 20) _ = _
    simp only [Act.put, List.setIfInBounds_toArray, List.set_cons_zero, List.set_cons_succ, i64_w, i32_w]
    rfl
   refine one_ (i := 11) (N := some 21) (bs 13 4095) rfl rfl (one_of HT_.out (by kernel_rfl)) (by decide) (fun K hK => ?_)
   have SM := sameSpots_calls a Am k cm (marksOf mkSpots (i : Int) 0 mm) w8 (by rw [marks_len]; exact Kd.C_below HC.out hHeld) ((Kd.R_reads' HRM.out).2.2) (by rw [marks_len]; exact HK.out) (by have h := (Kd.R_reads' HRM.out).2.1; rw [marks_len]; exact h) (by rw [marks_len]; exact HMM.out)
   rw [marks_len] at SM
   refine goes_ Tryz.func85 (by kernel_rfl) rfl #[.slice a mm k, .slice Am mm cm] (by rfl) rfl rfl (by (try simp only [List.map_toArray, List.map_cons, List.map_nil]); first | done | rfl | (simp only [List.length_drop, List.length_take]; rfl)) ?_
   refine SM.mono ?_
   rintro en w9 ⟨rfl, hb⟩
   refine ⟨_, rfl, ?_⟩
   refine hK.out _ _ (below_step hHeld hb) (fun hHeld => ?_)
   clear hb SM
   clear hK K
   refine norm_ (a' := ?_) ?_ ?_
   rotate_left
   ·show Act.put _ (some 21) _ = _
    simp only [Act.put, List.setIfInBounds_toArray, List.set_cons_zero, List.set_cons_succ, i64_w, i32_w]
    rfl
   refine take_ (i := 12) (N := some 22) (v := ?_) (a' := ?_) (bs 13 8191) rfl rfl (take_ofW HT_.out HW_.out (by kernel_rfl)) (fun _ _ _ h => h) (Or.inl ⟨by rfl, ?_⟩) hHeld ?_ ?_
   rotate_left
   ·intro w' s
    go_simp
    with_reducible rfl
   rotate_left
   ·simp only [Act.put, List.setIfInBounds_toArray, List.set_cons_zero, List.set_cons_succ, i64_w, i32_w]
    rfl
   refine done_ (done_of HT_.out (by kernel_rfl)) ?_
   have HBn := Aside0.mk (below_step HB.out hHeld)
   clear hHeld x0
   go_wp2_with fail
   go_roundw
   case rel => exact ⟨i + 1, by omega, by go_num, HBn⟩
   case measure => simp [intOf]; omega
  ·obtain rfl : i = n := by omega
   have c1 : decide ((i : Int) < (i : Int)) = false := decide_eq_false (by omega)
   go_wp2_with fail
   go_ret
   exact ⟨rfl, HB.out⟩
end Go.Proofs.YtibhenengpdahaaGreat.P

end
section
set_option linter.unusedVariables false
set_option linter.unusedSimpArgs false
namespace Go.Proofs.YtibhenengpdahaaGreat.P
open Go.RowKit Go.Proofs.YtibhenengpdahaaGreatW.PrintWords Go.Proofs.YtibhenengpdahaaGreatW.PrintLast Go.Proofs.YtibhenengpdahaaGreatW.PrintMore

theorem stillSpots_st {bk base : Nat} {A A' : Option Addr} {n n' c c' : Nat} {us us' : List Value} {xss : List (List S61)} {w : World} (s : Stat us us' xss) (h : StA k61 61 30 base (.slice A n c) (.slice A' n' c') us us' xss w) (h0 : w.cell? ⟨bk, 6, none⟩ = some (.slice A n c)) (h1 : w.cell? ⟨bk, 7, none⟩ = some (.slice A' n' c')) :
  Calls Tryz.prog 40 #[.pointer (some ⟨bk, 0, none⟩)] w fun e w' => e = .returned (.bool true) ∧ Below w.heap.size w w' := by
 obtain ⟨hn, _, hL⟩ := lists_of_raw h.row
 obtain ⟨hn', _, hL'⟩ := lists_of_raw h.row'
 rw [hn] at h0
 rw [hn', s.n] at h1
 exact stillSpots_calls bk A A' c c' us us' xss w h0 h1 s.l hL hL' s.n s.x (fun i hi => readsD_of_R (h.own i hi)) h.cop (fun i => by have := s.s i; omega)
theorem putSpots_st {bk base : Nat} {A : Option Addr} {n c : Nat} {us us' : List Value} {xss : List (List S61)} {w : World} {cs : Array Value} (s : Stat us us' xss) (h : StB k61 61 30 base (.slice A n c) us (fun i => xss.getD i []) w) (hblk : w.heap[bk]? = some (.cells cs 48 (0, 0))) (h0 : w.cell? ⟨bk, 6, none⟩ = some (.slice A n c)) (hb : base ≤ w.heap.size) :
  Calls Tryz.prog 49 #[.pointer (some ⟨bk, 0, none⟩)] w fun e w' => e = .returned (.tuple #[]) ∧ KeepT 61 w w' ∧ Below base w w' ∧ StB k61 61 30 base (.slice A n c) us (fun i => marksOf mkSpots (i : Int) 0 (xss.getD i []).length) w' := by
 obtain ⟨hn, _, hL⟩ := lists_of_raw h.row
 rw [hn] at h0
 refine (putSpots_calls bk A c us xss base w h0 s.l hL h.own s.sep (fun i hi => block_ne (by decide) (h.own i hi) hblk) (StB.rowNe lneSpots h) (fun i => by have := s.s i; omega)).mono ?_
 rintro e w' ⟨rfl, hp, hR⟩
 have hk := hp.typed h.own
 exact ⟨rfl, hk, hp.under (fun i hi k e => Kd.R_base (h.own i hi) k e) hb, hk.R rfl lneSpots h.row, hR⟩
theorem growSpots_st {bk base : Nat} {A : Option Addr} {n c : Nat} {us us' : List Value} {xss : List (List S61)} {w : World} {cs : Array Value} (s : Stat us us' xss) (h : StB k61 61 30 base (.slice A n c) us (fun i => marksOf mkSpots (i : Int) 0 (xss.getD i []).length) w) (hblk : w.heap[bk]? = some (.cells cs 48 (0, 0))) (h0 : w.cell? ⟨bk, 6, none⟩ = some (.slice A n c)) (hb : base ≤ w.heap.size) :
  Calls Tryz.prog 56 #[.pointer (some ⟨bk, 0, none⟩)] w fun e w' => ∃ (Ag : Option Addr) (ng cg : Nat) (gs : List Value), e = .returned (.slice Ag ng cg) ∧ gs.length = us.length ∧ KeepT 61 w w' ∧ Below base w w' ∧
   StB k61 61 30 base (.slice Ag ng cg) gs (fun i => marksOf mkSpots (i : Int) 0 ((xss.getD i []).length + 72)) w' ∧ StB k61 61 30 base (.slice A n c) us (fun i => marksOf mkSpots (i : Int) 0 (xss.getD i []).length) w' := by
 obtain ⟨hn, _, hL⟩ := lists_of_raw h.row
 rw [hn] at h0
 refine (growSpots_calls bk A c us (xss.map List.length) base w h0 s.l hL (fun i hi => by rw [getD_len]; exact h.own i hi) s.sep (fun i hi => block_ne (by decide) (h.own i hi) hblk) (StB.rowNe lneSpots h) (fun i => by rw [getD_len]; exact s.s i) hb).mono ?_
 rintro e w' ⟨Ag, cg, gs, rfl, hgl, hgr, hg, hu, hp⟩
 have hk := hp.typed h.own
 refine ⟨Ag, us.length, cg, gs, rfl, hgl, hk, hp.under (fun i hi k e => Kd.R_base (h.own i hi) k e) hb, ⟨hgr, fun i hi => ?_⟩, ⟨hk.R rfl lneSpots h.row, fun i hi => ?_⟩⟩
 ·have := hg i hi
  rw [getD_len] at this
  exact this
 ·have := hu i hi
  rw [getD_len] at this
  exact this
theorem markedSpots_st {base : Nat} {A : Option Addr} {n c : Nat} {us us0 us' : List Value} {xss : List (List S61)} {w : World} {q : Nat} (s : Stat us0 us' xss) (hl : us.length = us0.length) (hq : q ≤ 72) (h : StB k61 61 30 base (.slice A n c) us (fun i => marksOf mkSpots (i : Int) 0 ((xss.getD i []).length + q)) w) :
  Calls Tryz.prog 64 #[.slice A n c] w fun e w' => e = .returned (.bool true) ∧ Below w.heap.size w w' :=
 markedSpots_calls base A n c us (fun i => (xss.getD i []).length + q) w h.row h.own (by rw [hl]; exact s.l) (fun i => by have := s.s i; omega)
end Go.Proofs.YtibhenengpdahaaGreat.P

end
section
namespace Go.Proofs.YtibhenengpdahaaGreat.P
open Go.RowKit Go.Proofs.YtibhenengpdahaaGreatW.PrintWords Go.Proofs.YtibhenengpdahaaGreatW.PrintLast Go.Proofs.YtibhenengpdahaaGreatW.PrintMore
set_option linter.unusedVariables false
set_option linter.unusedSimpArgs false

/-! ### scriniumbook_markDocs: function 94 -/
def scriniumbook_markDocs.l0 : Nat → Int → Int → Int → List (S27) → Int → Option ((List (S27)))
 | 0, _, _, _, _, _ => none
 | k + 1, x0, x1, x2, x7, x8 => if x8 < (wrap64 (x1 + x2)) then (if x7.length < 5864062014805 then (scriniumbook_markDocs.l0 k x0 x1 x2 (x7 ++ [(⟨wrap64 ((wrap64 ((wrap64 ((-1000) * x0)) - x8)) - 1), (⟨#[]⟩ : ByteArray)⟩ : S27)]) (wrap64 (x8 + 1))) else (none)) else (some x7)
def scriniumbook_markDocs.f (k : Nat) (a0 : Int) (a1 : Int) (a2 : Int) : Option ((List (S27))) := scriniumbook_markDocs.l0 k a0 a1 a2 ([] : List (S27)) a1
theorem scriniumbook_markDocs.mono_l : ∀ k, (∀ y0 y1 y2 y3 y4, LeO (scriniumbook_markDocs.l0 k y0 y1 y2 y3 y4) (scriniumbook_markDocs.l0 (k + 1) y0 y1 y2 y3 y4))
 | 0 => fun _ _ _ _ _ r h => by simp [scriniumbook_markDocs.l0] at h
 | k + 1 => by
  have ih0 := scriniumbook_markDocs.mono_l k
  ·intro y0 y1 y2 y3 y4
   unfold scriniumbook_markDocs.l0
   repeat' first
   | (with_reducible exact ih0 _ _ _ _ _)
   | (with_reducible exact LeO.refl _)
   | (with_reducible exact LeO.none _)
   | (with_reducible refine LeO.ite ?_ ?_)
   | (with_reducible refine LeO.bind ?_ (fun _ => ?_))
   | exact ih0 _ _ _ _ _
   | exact LeO.none _
   | refine LeO.ite ?_ ?_
   | refine LeO.bind ?_ (fun _ => ?_)
theorem scriniumbook_markDocs.mono : ∀ a0 a1 a2 k, LeO (scriniumbook_markDocs.f k a0 a1 a2) (scriniumbook_markDocs.f (k + 1) a0 a1 a2) := by
 intro a0 a1 a2 k
 have ih0 := scriniumbook_markDocs.mono_l k
 unfold scriniumbook_markDocs.f
 repeat' first
   | (with_reducible exact ih0 _ _ _ _ _)
   | (with_reducible exact LeO.refl _)
   | (with_reducible exact LeO.none _)
   | (with_reducible refine LeO.ite ?_ ?_)
   | (with_reducible refine LeO.bind ?_ (fun _ => ?_))
   | exact ih0 _ _ _ _ _
   | exact LeO.none _
   | refine LeO.ite ?_ ?_
   | refine LeO.bind ?_ (fun _ => ?_)
set_option maxHeartbeats 8000000 in
set_option maxRecDepth 100000 in
theorem scriniumbook_markDocs.calls (k : Nat) (a0 : Int) (a1 : Int) (a2 : Int) (r : List (S27)) (w : World) (h : scriniumbook_markDocs.f k a0 a1 a2 = some r) :
  Calls Tryz.prog 94 #[.int .i64 a0, .int .i64 a1, .int .i64 a2] w fun e w' => ∃ v0_ : Value, e = .returned (v0_) ∧ Kd.R k27 27 w' w.heap.size (fun _ => True) v0_ r ∧ Below w.heap.size w w' := by
 have hu27 := Tryz.underlying27
 have HB := Aside0.mk (Below.refl w.heap.size w)
 have H : (scriniumbook_markDocs.l0 k a0 a1 a2 ([] : List (S27)) a1) = some r := h
 clear h
 have H' := Aside0.mk H
 clear H
 go_enter Tryz.func94, Tryz.ntmps94
 go_wp2
 go_loopg [7, 8] k (fun kq v7 v8 w' => ∃ (x7_1 : List (S27)) (x8_1 : Int), v8 = .int .i64 x8_1 ∧ Aside0 (scriniumbook_markDocs.l0 kq a0 a1 a2 x7_1 x8_1 = some r) ∧ Aside0 (kq ≤ k) ∧ Aside0 (Kd.R k27 27 w' w.heap.size (fun _ => True) v7 x7_1) ∧ Aside0 (Below w.heap.size w w'))
 case atStart => exact ⟨(([] : List (S27))), (a1), (by first | rfl | (simp; done) | (simp [*]; done)), H', ⟨Nat.le_refl _⟩, ⟨by first | exact Kd.R_nil _ _ _ _ _ | exact Kd.N_nil _ _ _ _ _ | exact Kd.V_nil _ _ _ _ _ | exact Kd.Q_nil _ _ _ _ _ | exact Kd.S_nil _ _ _ _ _⟩, ⟨by repeat (first | (with_reducible first | exact HB.out | apply below_alloc | apply pw_below_drewN | apply below_drew1) | exact HB.out)⟩⟩
 case round =>
  clear H'
  try clear p2
  obtain ⟨x7_1, x8_1, rfl, HA, HK1, HO_7, HB⟩ := hrel
  cases gk with
  | zero => exact absurd HA.out (by simp [scriniumbook_markDocs.l0])
  | succ k1 =>
   have H := HA.out
   clear HA
   simp only [scriniumbook_markDocs.l0] at H
   by_cases c4 : x8_1 < (wrap64 (a1 + a2))
   ·rw [if_pos c4] at H
    have c4b0 : decide (x8_1 < (wrap64 (a1 + a2))) = true := decide_eq_true c4
    clear c4
    by_cases c5 : x7_1.length < 5864062014805
    ·rw [if_pos c5] at H
     have LMc5 := Aside0.mk c5
     clear c5
     obtain ⟨y188, hy188⟩ : ∃ y_ : List (S27), y_ = (x7_1 ++ [(⟨wrap64 ((wrap64 ((wrap64 ((-1000) * a0)) - x8_1)) - 1), (⟨#[]⟩ : ByteArray)⟩ : S27)]) := ⟨_, rfl⟩
     replace H : (scriniumbook_markDocs.l0 k1 a0 a1 a2 y188 (wrap64 (x8_1 + 1))) = some r := by first | (rw [hy188]; with_reducible exact H) | (have H2_ := (Option.bind_some _ _).symm.trans H; rw [hy188]; with_reducible exact H2_) | (have H2_ := (Option.bind_some _ _).symm.trans H; with_reducible exact H2_) | with_reducible exact H | (rw [hy188]; exact H) | exact H
     have Ny188 := Aside0.mk hy188
     clear hy188
     have H' := Aside0.mk H
     clear H
     go_wp2_with (first | ((with_reducible refine gate_builtin (b := .append) (xs := #[.tmp 17, .tmp 24]) rfl ?_); at_builtin; refine Kd.R_append k27 (w0 := w) w.heap.size rfl (.tmp 17) (.tmp 24) 22 27 (.agg #[(.int .i64 0), (.string ⟨#[]⟩)]) 24 rfl Tryz.underlying22 info27 rfl (by decide) (by omega) u7 x7_1 (⟨wrap64 ((wrap64 ((wrap64 ((-1000) * a0)) - x8_1)) - 1), (⟨#[]⟩ : ByteArray)⟩ : S27) [.int .i64 (wrap64 ((wrap64 ((wrap64 ((-1000) * a0)) - x8_1)) - 1)), .string (⟨#[]⟩ : ByteArray)] (fun _ => True) (fun _ => False) rfl rfl ?aP (fun _ hk => hk.elim) ?aF ?aO ?aB ?aS ?aL ?_; (case aP => exact k27_mkM _ _ _ (⟨wrap64 ((wrap64 ((wrap64 ((-1000) * a0)) - x8_1)) - 1), (⟨#[]⟩ : ByteArray)⟩ : S27)); (case aB => exact (by repeat (first | (with_reducible first | exact HB.out | apply below_alloc | apply pw_below_drewN | apply below_drew1) | exact HB.out))); (case aF => exact (fun _ _ => trivial)); (case aO => exact (by (with_reducible repeat (first | apply Kd.R_alloc | apply Kd.R_drewN | apply Kd.R_drew)); exact HO_7.out)); (case aS => exact (below_size (by repeat (first | (with_reducible first | exact HB.out | apply below_alloc | apply pw_below_drewN | apply below_drew1) | exact HB.out)))); (case aL => have := LMc5.out; omega); intro v189 w6 ho hb hg hat; rw [← Ny188.out] at ho; have n0_ := Aside0.mk (hb); have n1_ := Aside0.mk (ho); clear HB; clear HO_7; have HB := n0_; have HO190 := n1_; clear n0_ n1_; clear ho hb hg hat))
     go_roundg k1
     case measure => have := HK1.out; omega
     case rel => exact ⟨(y188), (wrap64 (x8_1 + 1)), (by first | rfl | (simp; done) | (simp [*]; done)), H', ⟨by have := HK1.out; omega⟩, ⟨by (with_reducible repeat (first | apply Kd.R_alloc | apply Kd.R_drewN | apply Kd.R_drew)); exact HO190.out⟩, ⟨by repeat (first | (with_reducible first | exact HB.out | apply below_alloc | apply pw_below_drewN | apply below_drew1) | exact HB.out)⟩⟩
    ·rw [if_neg c5] at H
     exact absurd H (by simp)
   ·rw [if_neg c4] at H
    have c4b0 : decide (x8_1 < (wrap64 (a1 + a2))) = false := decide_eq_false c4
    clear c4
    obtain rfl := Option.some.inj H
    go_wp2
    go_ret
    exact ⟨_, by first | rfl | (simp [errW_none, errW_some] <;> rfl) | (simp [*, errW_none, errW_some] <;> rfl), by (with_reducible repeat (first | apply Kd.R_alloc | apply Kd.R_drewN | apply Kd.R_drew)); exact HO_7.out, by repeat (first | (with_reducible first | exact HB.out | apply below_alloc | apply pw_below_drewN | apply below_drew1) | exact HB.out)⟩

end Go.Proofs.YtibhenengpdahaaGreat.P

end
