-- Printed by myprint.py (a program of this session's, over the kit's print): P
import Derived.Test.YtibhenengpdahaaGreatJA
import Derived.Test.YtibhenengpdahaaGreatBkC
section
namespace Go.Proofs.YtibhenengpdahaaGreat.P
open Go.RowKit Go.Proofs.YtibhenengpdahaaGreatW.PrintWords Go.Proofs.YtibhenengpdahaaGreatW.PrintLast Go.Proofs.YtibhenengpdahaaGreatW.PrintMore
set_option linter.unusedVariables false
set_option linter.unusedSimpArgs false

/-! ### scriniumbook_SameInts: function 82 -/
def scriniumbook_SameInts.l0 : Nat → List Int → List Int → Int → Option (Bool)
 | 0, _, _, _ => none
 | k + 1, x0, x1, x5 => if x5 < (x0.length : Int) then (if 0 ≤ x5 then (if x5 < (x1.length : Int) then (if ((rd x0 x5) = (rd x1 x5)) then (scriniumbook_SameInts.l0 k x0 x1 (wrap64 (x5 + 1))) else (some false)) else (none)) else (none)) else (some true)
def scriniumbook_SameInts.f (k : Nat) (l0 : List Int) (l1 : List Int) : Option (Bool) := if (l0.length : Int) = (l1.length : Int) then (scriniumbook_SameInts.l0 k l0 l1 0) else (some false)
theorem scriniumbook_SameInts.mono_l : ∀ k, (∀ y0 y1 y2, LeO (scriniumbook_SameInts.l0 k y0 y1 y2) (scriniumbook_SameInts.l0 (k + 1) y0 y1 y2))
 | 0 => fun _ _ _ r h => by simp [scriniumbook_SameInts.l0] at h
 | k + 1 => by
  have ih0 := scriniumbook_SameInts.mono_l k
  ·intro y0 y1 y2
   unfold scriniumbook_SameInts.l0
   repeat' first
   | (with_reducible exact ih0 _ _ _)
   | (with_reducible exact LeO.refl _)
   | (with_reducible exact LeO.none _)
   | (with_reducible refine LeO.ite ?_ ?_)
   | (with_reducible refine LeO.bind ?_ (fun _ => ?_))
   | exact ih0 _ _ _
   | exact LeO.none _
   | refine LeO.ite ?_ ?_
   | refine LeO.bind ?_ (fun _ => ?_)
theorem scriniumbook_SameInts.mono : ∀ a0 a1 k, LeO (scriniumbook_SameInts.f k a0 a1) (scriniumbook_SameInts.f (k + 1) a0 a1) := by
 intro a0 a1 k
 have ih0 := scriniumbook_SameInts.mono_l k
 unfold scriniumbook_SameInts.f
 repeat' first
   | (with_reducible exact ih0 _ _ _)
   | (with_reducible exact LeO.refl _)
   | (with_reducible exact LeO.none _)
   | (with_reducible refine LeO.ite ?_ ?_)
   | (with_reducible refine LeO.bind ?_ (fun _ => ?_))
   | exact ih0 _ _ _
   | exact LeO.none _
   | refine LeO.ite ?_ ?_
   | refine LeO.bind ?_ (fun _ => ?_)
set_option maxHeartbeats 8000000 in
set_option maxRecDepth 100000 in
theorem scriniumbook_SameInts.calls (k : Nat) (A0 : Option Addr) (c0 : Nat) (l0 : List Int) (A1 : Option Addr) (c1 : Nat) (l1 : List Int) (r : Bool) (w : World) (hr0 : Kd.C (Kd.int .i64) w A0 l0.length l0) (hc0 : l0.length ≤ c0) (hr1 : Kd.C (Kd.int .i64) w A1 l1.length l1) (hc1 : l1.length ≤ c1) (h : scriniumbook_SameInts.f k l0 l1 = some r) :
  Calls Tryz.prog 82 #[.slice A0 l0.length c0, .slice A1 l1.length c1] w fun e w' => e = .returned (.bool r) ∧ Drawn0 w w' := by
 have HR0 := Aside0.mk hr0
 have HC0 := Aside0.mk hc0
 clear hr0 hc0
 have HR1 := Aside0.mk hr1
 have HC1 := Aside0.mk hc1
 clear hr1 hc1
 have H : (if (l0.length : Int) = (l1.length : Int) then (scriniumbook_SameInts.l0 k l0 l1 0) else (some false)) = some r := h
 clear h
 by_cases c3 : (l0.length : Int) = (l1.length : Int)
 ·rw [if_pos c3] at H
  have c3b0 : ((l0.length : Int) == (l1.length : Int)) = true := beq_iff_eq.mpr c3
  have c3b1 : ((l0.length : Int) != (l1.length : Int)) = false := bne_eq_false_iff_eq.mpr c3
  have c3b2 : (l0.length == l1.length) = true := by first | simpa using c3 | (simp at c3 ⊢; omega)
  clear c3
  have H' := Aside0.mk H
  clear H
  go_enter Tryz.func82, Tryz.ntmps82
  go_wp2
  repeat (go_quiet (fail); try go_wp2)
  go_loopg [5] k (fun kq v5 w' => ∃ (x5_1 : Int), v5 = .int .i64 x5_1 ∧ Aside0 (scriniumbook_SameInts.l0 kq l0 l1 x5_1 = some r) ∧ Aside0 (kq ≤ k) ∧ Drawn0 w w')
  case atStart => exact ⟨(0), (by first | rfl | (simp; done) | (simp [*]; done)), H', ⟨Nat.le_refl _⟩, by repeat (first | exact Drawn0.refl _ | apply Drawn0.step)⟩
  case round =>
   clear H'
   try clear c1
   try clear p2
   try clear c3
   try clear c3b0
   try clear c3b1
   try clear c3b2
   obtain ⟨x5_1, rfl, HA, HK1, ⟨m1, rfl⟩⟩ := hrel
   cases gk with
   | zero => exact absurd HA.out (by simp [scriniumbook_SameInts.l0])
   | succ k1 =>
    have H := HA.out
    clear HA
    simp only [scriniumbook_SameInts.l0] at H
    by_cases c4 : x5_1 < (l0.length : Int)
    ·rw [if_pos c4] at H
     have c4b0 : decide (x5_1 < (l0.length : Int)) = true := decide_eq_true c4
     clear c4
     by_cases c5 : 0 ≤ x5_1
     ·rw [if_pos c5] at H
      have c5b0 : decide (0 ≤ x5_1) = true := decide_eq_true c5
      clear c5
      by_cases c6 : x5_1 < (l1.length : Int)
      ·rw [if_pos c6] at H
       have c6b0 : decide (x5_1 < (l1.length : Int)) = true := decide_eq_true c6
       clear c6
       by_cases c7 : ((rd l0 x5_1) = (rd l1 x5_1))
       ·rw [if_pos c7] at H
        have c7b0 : ((rd l0 x5_1) == (rd l1 x5_1)) = true := beq_iff_eq.mpr c7
        have c7b1 : ((rd l0 x5_1) != (rd l1 x5_1)) = false := bne_eq_false_iff_eq.mpr c7
        clear c7
        have H' := Aside0.mk H
        clear H
        have p197 : 0 ≤ (x5_1 : Int) := of_decide_eq_true (by first | (with_reducible assumption) | assumption)
        have q197 : x5_1 < (l0.length : Int) := of_decide_eq_true (by first | (with_reducible assumption) | assumption)
        obtain ⟨ad197, e197, hx197_0⟩ := Kd.at_int HR0.out x5_1 p197 q197
        cases e197
        replace p197 := eq_true p197
        replace q197 := eq_true q197
        have p198 : 0 ≤ (x5_1 : Int) := of_decide_eq_true (by first | (with_reducible assumption) | assumption)
        have q198 : x5_1 < (l1.length : Int) := of_decide_eq_true (by first | (with_reducible assumption) | assumption)
        obtain ⟨ad198, e198, hx198_0⟩ := Kd.at_int HR1.out x5_1 p198 q198
        cases e198
        replace p198 := eq_true p198
        replace q198 := eq_true q198
        go_wp2
        repeat (go_quiet (fail); try go_wp2)
        go_roundg k1
        case measure => have := HK1.out; omega
        case rel => exact ⟨(wrap64 (x5_1 + 1)), (by first | rfl | (simp; done) | (simp [*]; done)), H', ⟨by have := HK1.out; omega⟩, by repeat (first | exact Drawn0.refl _ | apply Drawn0.step)⟩
       ·rw [if_neg c7] at H
        have c7b0 : ((rd l0 x5_1) == (rd l1 x5_1)) = false := beq_eq_false_iff_ne.mpr c7
        have c7b1 : ((rd l0 x5_1) != (rd l1 x5_1)) = true := bne_iff_ne.mpr c7
        obtain rfl := Option.some.inj H
        have p197 : 0 ≤ (x5_1 : Int) := of_decide_eq_true (by first | (with_reducible assumption) | assumption)
        have q197 : x5_1 < (l0.length : Int) := of_decide_eq_true (by first | (with_reducible assumption) | assumption)
        obtain ⟨ad197, e197, hx197_0⟩ := Kd.at_int HR0.out x5_1 p197 q197
        cases e197
        replace p197 := eq_true p197
        replace q197 := eq_true q197
        have p198 : 0 ≤ (x5_1 : Int) := of_decide_eq_true (by first | (with_reducible assumption) | assumption)
        have q198 : x5_1 < (l1.length : Int) := of_decide_eq_true (by first | (with_reducible assumption) | assumption)
        obtain ⟨ad198, e198, hx198_0⟩ := Kd.at_int HR1.out x5_1 p198 q198
        cases e198
        replace p198 := eq_true p198
        replace q198 := eq_true q198
        go_wp2
        repeat (go_quiet (fail); try go_wp2)
        go_ret
        exact ⟨by first | rfl | (simp; done) | (simp [*]; done), by repeat (first | exact Drawn0.refl _ | apply Drawn0.step)⟩
      ·rw [if_neg c6] at H
       exact absurd H (by simp)
     ·rw [if_neg c5] at H
      exact absurd H (by simp)
    ·rw [if_neg c4] at H
     have c4b0 : decide (x5_1 < (l0.length : Int)) = false := decide_eq_false c4
     clear c4
     obtain rfl := Option.some.inj H
     go_wp2
     repeat (go_quiet (fail); try go_wp2)
     go_ret
     exact ⟨by first | rfl | (simp; done) | (simp [*]; done), by repeat (first | exact Drawn0.refl _ | apply Drawn0.step)⟩
 ·rw [if_neg c3] at H
  have c3b0 : ((l0.length : Int) == (l1.length : Int)) = false := beq_eq_false_iff_ne.mpr c3
  have c3b1 : ((l0.length : Int) != (l1.length : Int)) = true := bne_iff_ne.mpr c3
  have c3b2 : (l0.length == l1.length) = false := by first | simpa using c3 | (simp at c3 ⊢; omega)
  obtain rfl := Option.some.inj H
  go_enter Tryz.func82, Tryz.ntmps82
  go_wp2
  repeat (go_quiet (fail); try go_wp2)
  go_ret
  exact ⟨by first | rfl | (simp; done) | (simp [*]; done), by repeat (first | exact Drawn0.refl _ | apply Drawn0.step)⟩

/-! ### scriniumbook_markInts: function 90 -/
def scriniumbook_markInts.l0 : Nat → Int → Int → Int → List Int → Int → Option (List Int)
 | 0, _, _, _, _, _ => none
 | k + 1, x0, x1, x2, x7, x8 => if x8 < (wrap64 (x1 + x2)) then (if x7.length < 17592186044416 then (scriniumbook_markInts.l0 k x0 x1 x2 (x7 ++ [wrap64 ((wrap64 ((wrap64 ((-1000000) * x0)) - x8)) - 7)]) (wrap64 (x8 + 1))) else (none)) else (some x7)
def scriniumbook_markInts.f (k : Nat) (a0 : Int) (a1 : Int) (a2 : Int) : Option (List Int) := scriniumbook_markInts.l0 k a0 a1 a2 ([] : List Int) a1
theorem scriniumbook_markInts.mono_l : ∀ k, (∀ y0 y1 y2 y3 y4, LeO (scriniumbook_markInts.l0 k y0 y1 y2 y3 y4) (scriniumbook_markInts.l0 (k + 1) y0 y1 y2 y3 y4))
 | 0 => fun _ _ _ _ _ r h => by simp [scriniumbook_markInts.l0] at h
 | k + 1 => by
  have ih0 := scriniumbook_markInts.mono_l k
  ·intro y0 y1 y2 y3 y4
   unfold scriniumbook_markInts.l0
   repeat' first
   | (with_reducible exact ih0 _ _ _ _ _)
   | (with_reducible exact LeO.refl _)
   | (with_reducible exact LeO.none _)
   | (with_reducible refine LeO.ite ?_ ?_)
   | (with_reducible refine LeO.bind ?_ (fun _ => ?_))
   | exact ih0 _ _ _ _ _
   | exact LeO.none _
   | refine LeO.ite ?_ ?_
   | refine LeO.bind ?_ (fun _ => ?_)
theorem scriniumbook_markInts.mono : ∀ a0 a1 a2 k, LeO (scriniumbook_markInts.f k a0 a1 a2) (scriniumbook_markInts.f (k + 1) a0 a1 a2) := by
 intro a0 a1 a2 k
 have ih0 := scriniumbook_markInts.mono_l k
 unfold scriniumbook_markInts.f
 repeat' first
   | (with_reducible exact ih0 _ _ _ _ _)
   | (with_reducible exact LeO.refl _)
   | (with_reducible exact LeO.none _)
   | (with_reducible refine LeO.ite ?_ ?_)
   | (with_reducible refine LeO.bind ?_ (fun _ => ?_))
   | exact ih0 _ _ _ _ _
   | exact LeO.none _
   | refine LeO.ite ?_ ?_
   | refine LeO.bind ?_ (fun _ => ?_)
set_option maxHeartbeats 8000000 in
set_option maxRecDepth 100000 in
theorem scriniumbook_markInts.calls (k : Nat) (a0 : Int) (a1 : Int) (a2 : Int) (r : List Int) (w : World) (h : scriniumbook_markInts.f k a0 a1 a2 = some r) :
  Calls Tryz.prog 90 #[.int .i64 a0, .int .i64 a1, .int .i64 a2] w fun e w' => ∃ v0_ : Value, e = .returned (v0_) ∧ Kd.R (Kd.int .i64) 3 w' w.heap.size (fun _ => True) v0_ r ∧ Below w.heap.size w w' := by
 have HB := Aside0.mk (Below.refl w.heap.size w)
 have H : (scriniumbook_markInts.l0 k a0 a1 a2 ([] : List Int) a1) = some r := h
 clear h
 have H' := Aside0.mk H
 clear H
 go_enter Tryz.func90, Tryz.ntmps90
 go_wp2
 go_loopg [7, 8] k (fun kq v7 v8 w' => ∃ (x7_1 : List Int) (x8_1 : Int), v8 = .int .i64 x8_1 ∧ Aside0 (scriniumbook_markInts.l0 kq a0 a1 a2 x7_1 x8_1 = some r) ∧ Aside0 (kq ≤ k) ∧ Aside0 (Kd.R (Kd.int .i64) 3 w' w.heap.size (fun _ => True) v7 x7_1) ∧ Aside0 (Below w.heap.size w w'))
 case atStart => exact ⟨(([] : List Int)), (a1), (by first | rfl | (simp; done) | (simp [*]; done)), H', ⟨Nat.le_refl _⟩, ⟨by first | exact Kd.R_nil _ _ _ _ _ | exact Kd.N_nil _ _ _ _ _ | exact Kd.V_nil _ _ _ _ _ | exact Kd.Q_nil _ _ _ _ _ | exact Kd.S_nil _ _ _ _ _⟩, ⟨by repeat (first | (with_reducible first | exact HB.out | apply below_alloc | apply pw_below_drewN | apply below_drew1) | exact HB.out)⟩⟩
 case round =>
  clear H'
  try clear p2
  obtain ⟨x7_1, x8_1, rfl, HA, HK1, HO_7, HB⟩ := hrel
  cases gk with
  | zero => exact absurd HA.out (by simp [scriniumbook_markInts.l0])
  | succ k1 =>
   have H := HA.out
   clear HA
   simp only [scriniumbook_markInts.l0] at H
   by_cases c4 : x8_1 < (wrap64 (a1 + a2))
   ·rw [if_pos c4] at H
    have c4b0 : decide (x8_1 < (wrap64 (a1 + a2))) = true := decide_eq_true c4
    clear c4
    by_cases c5 : x7_1.length < 17592186044416
    ·rw [if_pos c5] at H
     have LMc5 := Aside0.mk c5
     clear c5
     obtain ⟨y199, hy199⟩ : ∃ y_ : List Int, y_ = (x7_1 ++ [wrap64 ((wrap64 ((wrap64 ((-1000000) * a0)) - x8_1)) - 7)]) := ⟨_, rfl⟩
     replace H : (scriniumbook_markInts.l0 k1 a0 a1 a2 y199 (wrap64 (x8_1 + 1))) = some r := by first | (rw [hy199]; with_reducible exact H) | (have H2_ := (Option.bind_some _ _).symm.trans H; rw [hy199]; with_reducible exact H2_) | (have H2_ := (Option.bind_some _ _).symm.trans H; with_reducible exact H2_) | with_reducible exact H | (rw [hy199]; exact H) | exact H
     have Ny199 := Aside0.mk hy199
     clear hy199
     have H' := Aside0.mk H
     clear H
     go_wp2_with (first | ((with_reducible refine gate_builtin (b := .append) (xs := #[.tmp 17, .tmp 23]) rfl ?_); at_builtin; refine Kd.R_append (Kd.int .i64) (w0 := w) w.heap.size rfl (.tmp 17) (.tmp 23) 31 3 (.int .i64 0) 8 rfl Tryz.underlying31 info3 rfl (by decide) (by omega) u7 x7_1 (wrap64 ((wrap64 ((wrap64 ((-1000000) * a0)) - x8_1)) - 7)) [.int .i64 (wrap64 ((wrap64 ((wrap64 ((-1000000) * a0)) - x8_1)) - 7))] (fun _ => True) (fun _ => False) rfl rfl ?aP (fun _ hk => hk.elim) ?aF ?aO ?aB ?aS ?aL ?_; (case aP => exact rfl); (case aB => exact (by repeat (first | (with_reducible first | exact HB.out | apply below_alloc | apply pw_below_drewN | apply below_drew1) | exact HB.out))); (case aF => exact (fun _ _ => trivial)); (case aO => exact (by (with_reducible repeat (first | apply Kd.R_alloc | apply Kd.R_drewN | apply Kd.R_drew)); exact HO_7.out)); (case aS => exact (below_size (by repeat (first | (with_reducible first | exact HB.out | apply below_alloc | apply pw_below_drewN | apply below_drew1) | exact HB.out)))); (case aL => have := LMc5.out; omega); intro v200 w6 ho hb hg hat; rw [← Ny199.out] at ho; have n0_ := Aside0.mk (hb); have n1_ := Aside0.mk (ho); clear HB; clear HO_7; have HB := n0_; have HO201 := n1_; clear n0_ n1_; clear ho hb hg hat))
     go_roundg k1
     case measure => have := HK1.out; omega
     case rel => exact ⟨(y199), (wrap64 (x8_1 + 1)), (by first | rfl | (simp; done) | (simp [*]; done)), H', ⟨by have := HK1.out; omega⟩, ⟨by (with_reducible repeat (first | apply Kd.R_alloc | apply Kd.R_drewN | apply Kd.R_drew)); exact HO201.out⟩, ⟨by repeat (first | (with_reducible first | exact HB.out | apply below_alloc | apply pw_below_drewN | apply below_drew1) | exact HB.out)⟩⟩
    ·rw [if_neg c5] at H
     exact absurd H (by simp)
   ·rw [if_neg c4] at H
    have c4b0 : decide (x8_1 < (wrap64 (a1 + a2))) = false := decide_eq_false c4
    clear c4
    obtain rfl := Option.some.inj H
    go_wp2
    go_ret
    exact ⟨_, by first | rfl | (simp [errW_none, errW_some] <;> rfl) | (simp [*, errW_none, errW_some] <;> rfl), by (with_reducible repeat (first | apply Kd.R_alloc | apply Kd.R_drewN | apply Kd.R_drew)); exact HO_7.out, by repeat (first | (with_reducible first | exact HB.out | apply below_alloc | apply pw_below_drewN | apply below_drew1) | exact HB.out)⟩

end Go.Proofs.YtibhenengpdahaaGreat.P

end
section
namespace Go.Proofs.YtibhenengpdahaaGreat.P
open Go.RowKit Go.Proofs.YtibhenengpdahaaGreatW.PrintWords Go.Proofs.YtibhenengpdahaaGreatW.PrintLast Go.Proofs.YtibhenengpdahaaGreatW.PrintMore
set_option linter.unusedVariables false
set_option linter.unusedSimpArgs false

/-! ### scriniumbook_copyInts: function 35 -/
def scriniumbook_copyInts.f (l0 : List Int) : Option (List Int) := if ([] : List Int).length + l0.length < 17592186044416 then (some (([] : List Int) ++ l0)) else (none)
set_option maxHeartbeats 8000000 in
set_option maxRecDepth 100000 in
theorem scriniumbook_copyInts.calls (A0 : Option Addr) (c0 : Nat) (l0 : List Int) (r : List Int) (w : World) (hr0 : Kd.C (Kd.int .i64) w A0 l0.length l0) (hc0 : l0.length ≤ c0) (h : scriniumbook_copyInts.f l0 = some r) :
  Calls Tryz.prog 35 #[.slice A0 l0.length c0] w fun e w' => ∃ v0_ : Value, e = .returned (v0_) ∧ Kd.R (Kd.int .i64) 3 w' w.heap.size (fun _ => True) v0_ r ∧ Below w.heap.size w w' := by
 have HR0 := Aside0.mk hr0
 have HC0 := Aside0.mk hc0
 clear hr0 hc0
 have HB := Aside0.mk (Below.refl w.heap.size w)
 have H : (if ([] : List Int).length + l0.length < 17592186044416 then (some (([] : List Int) ++ l0)) else (none)) = some r := h
 clear h
 by_cases c2 : ([] : List Int).length + l0.length < 17592186044416
 ·rw [if_pos c2] at H
  have LMc2 := Aside0.mk c2
  clear c2
  obtain ⟨y214, hy214⟩ : ∃ y_ : List Int, y_ = (([] : List Int) ++ l0) := ⟨_, rfl⟩
  replace H : (some y214) = some r := by first | (rw [hy214]; with_reducible exact H) | (have H2_ := (Option.bind_some _ _).symm.trans H; rw [hy214]; with_reducible exact H2_) | (have H2_ := (Option.bind_some _ _).symm.trans H; with_reducible exact H2_) | with_reducible exact H | (rw [hy214]; exact H) | exact H
  have Ny214 := Aside0.mk hy214
  clear hy214
  obtain rfl := Option.some.inj H
  go_enter Tryz.func35, Tryz.ntmps35
  go_wp2_with (first | ((with_reducible refine gate_builtin (b := .append) (xs := #[.const (.slice none 0 0), .tmp 3]) rfl ?_); at_builtin; refine Kd.R_append_rows (Kd.int .i64) (w0 := w) w.heap.size rfl (.const (.slice none 0 0)) (.tmp 3) 31 3 (.int .i64 0) 8 rfl Tryz.underlying31 info3 rfl (by decide) (by omega) (.slice none 0 0) ([] : List Int) l0 _ _ _ (fun _ => True) (fun _ => False) rfl rfl ?aO ?aR (fun _ _ h => h) (fun _ h => h.elim) ?aF ?aB ?aS ?aL ?_; (case aR => repeat (first | exact HR0.out | (with_reducible refine Kd.C_alloc ?_ _) | (with_reducible refine Kd.C_drewN ?_ _) | (with_reducible refine Kd.C_drew ?_))); (case aB => exact (by repeat (first | (with_reducible first | exact HB.out | apply below_alloc | apply pw_below_drewN | apply below_drew1) | exact HB.out))); (case aF => exact (fun _ _ => trivial)); (case aO => exact ((Kd.R_nil _ _ _ _ (fun _ => True)))); (case aS => exact (below_size (by repeat (first | (with_reducible first | exact HB.out | apply below_alloc | apply pw_below_drewN | apply below_drew1) | exact HB.out)))); (case aL => have := LMc2.out; omega); intro v215 w3 ho hb hg hat; rw [← Ny214.out] at ho; have n0_ := Aside0.mk (hb); have n1_ := Aside0.mk (ho); clear HB; have HB := n0_; have HO216 := n1_; clear n0_ n1_; clear ho hb hg hat))
  go_ret
  exact ⟨_, by first | rfl | (simp [errW_none, errW_some] <;> rfl) | (simp [*, errW_none, errW_some] <;> rfl), by (with_reducible repeat (first | apply Kd.R_alloc | apply Kd.R_drewN | apply Kd.R_drew)); exact HO216.out, by repeat (first | (with_reducible first | exact HB.out | apply below_alloc | apply pw_below_drewN | apply below_drew1) | exact HB.out)⟩
 ·rw [if_neg c2] at H
  exact absurd H (by simp)

end Go.Proofs.YtibhenengpdahaaGreat.P

end
section
set_option linter.unusedVariables false
set_option linter.unusedSimpArgs false
namespace Go.Proofs.YtibhenengpdahaaGreat.P
open Go.RowKit Go.Proofs.YtibhenengpdahaaGreatW.PrintWords Go.Proofs.YtibhenengpdahaaGreatW.PrintLast Go.Proofs.YtibhenengpdahaaGreatW.PrintMore

theorem flatInts : Flat (Kd.int .i64) (fun x => [Value.int .i64 x]) := Flat.scalar _ _
theorem infoInts : ∃ i z, (Tryz.prog).info? 3 = some i ∧ i.zero = some z ∧ i.size = ((Kd.int .i64)).sz ∧ i.bytes = 8 ∧ z.cells.size = ((Kd.int .i64)).sz := by
 have h : ((Tryz.prog).info? 3).map (fun i => (i.zero, i.size, i.bytes)) = some (some (.int .i64 0), 1, 8) := by kernel_rfl
 obtain ⟨i, hi, he⟩ := Option.map_eq_some_iff.1 h
 simp only [Prod.mk.injEq] at he
 exact ⟨i, .int .i64 0, hi, he.1, he.2.1, he.2.2, rfl⟩
theorem infoIntsL : ((Tryz.prog).info? 31).map (fun i => (i.zero, i.size, i.bytes)) = some (some (.slice none 0 0), 1, 24) := by kernel_rfl
theorem lneInts : (31 : TypeId) ≠ 3 := by decide
theorem sameInts_l (l : List Int) (hl : l.length ≤ 1000000) : ∀ (m j k : Nat), m = l.length - j → j ≤ l.length → m + 1 ≤ k → scriniumbook_SameInts.l0 k l l (j : Int) = some true := by
 intro m
 induction m with
 | zero =>
  intro j k hm hj hk
  obtain rfl : j = l.length := by omega
  obtain ⟨k1, rfl⟩ : ∃ k1, k = k1 + 1 := ⟨k - 1, by omega⟩
  rw [scriniumbook_SameInts.l0, if_neg (by omega)]
 | succ m ih =>
  intro j k hm hj hk
  obtain ⟨k1, rfl⟩ : ∃ k1, k = k1 + 1 := ⟨k - 1, by omega⟩
  have hrec := ih (j + 1) k1 (by omega) (by omega) (by omega)
  have hw : wrap64 ((j : Int) + 1) = ((j + 1 : Nat) : Int) := bw64 (j + 1) (by omega)
  rw [scriniumbook_SameInts.l0, if_pos (by omega), if_pos (by omega), if_pos (by omega), hw, if_pos (by simp)]
  exact hrec
theorem sameInts_ok (l : List Int) (hl : l.length ≤ 1000000) (k : Nat) (hk : l.length + 1 ≤ k) : scriniumbook_SameInts.f k l l = some true := by
 unfold scriniumbook_SameInts.f
 rw [if_pos rfl]
 exact sameInts_l l hl l.length 0 _ rfl (Nat.zero_le _) hk
theorem sameInts_calls (a a' : Option Addr) (k k' : Nat) (xs : List Int) (w : World) (hC : Kd.C (Kd.int .i64) w a xs.length xs) (hC' : Kd.C (Kd.int .i64) w a' xs.length xs) (hk : xs.length ≤ k) (hk' : xs.length ≤ k') (hs : xs.length ≤ 1000000) :
  Calls Tryz.prog 82 #[.slice a xs.length k, .slice a' xs.length k'] w fun e w' => e = .returned (.bool true) ∧ Below w.heap.size w w' :=
 (scriniumbook_SameInts.calls (xs.length + 1) a k xs a' k' xs true w hC hk hC' hk' (sameInts_ok xs hs _ (Nat.le_refl _))).mono fun _ _ h => ⟨h.1, h.2.below⟩
theorem copyInts_ok (l : List Int) (h : l.length ≤ 900000) : scriniumbook_copyInts.f l = some l := by
 unfold scriniumbook_copyInts.f
 rw [if_pos (by rw [List.length_nil]; omega), List.nil_append]
theorem copyInts_calls (a : Option Addr) (k : Nat) (xs : List Int) (w : World) (hC : Kd.C (Kd.int .i64) w a xs.length xs) (hk : xs.length ≤ k) (h : xs.length ≤ 900000) :
  Calls Tryz.prog 35 #[.slice a xs.length k] w fun e w' => ∃ v, e = .returned v ∧ Kd.R (Kd.int .i64) 3 w' w.heap.size (fun _ => True) v xs ∧ Below w.heap.size w w' :=
 scriniumbook_copyInts.calls a k xs xs w hC hk (copyInts_ok xs h)
/-- The mark at k of list i. -/
def mkInts (i : Int) (k : Nat) : Int := wrap64 ((wrap64 ((wrap64 ((-1000000) * i)) - (k : Int))) - 7)
theorem markInts_l (i : Int) (a n : Nat) (hn : a + n ≤ 1000000) : ∀ (m j k : Nat), m = n - j → j ≤ n → m + 1 ≤ k → scriniumbook_markInts.l0 k i (a : Int) (n : Int) (marksOf mkInts i a j) ((a + j : Nat) : Int) = some (marksOf mkInts i a n) := by
 have hw : wrap64 ((a : Int) + (n : Int)) = ((a + n : Nat) : Int) := bw64 (a + n) (by omega)
 intro m
 induction m with
 | zero =>
  intro j k hm hj hk
  obtain rfl : j = n := by omega
  obtain ⟨k1, rfl⟩ : ∃ k1, k = k1 + 1 := ⟨k - 1, by omega⟩
  rw [scriniumbook_markInts.l0, hw, if_neg (by omega)]
 | succ m ih =>
  intro j k hm hj hk
  obtain ⟨k1, rfl⟩ : ∃ k1, k = k1 + 1 := ⟨k - 1, by omega⟩
  have hrec := ih (j + 1) k1 (by omega) (by omega) (by omega)
  have hw2 : wrap64 (((a + j : Nat) : Int) + 1) = ((a + (j + 1) : Nat) : Int) := bw64 (a + j + 1) (by omega)
  rw [scriniumbook_markInts.l0, hw, if_pos (by omega), if_pos (by rw [marks_len]; omega), hw2]
  rw [marks_succ] at hrec
  exact hrec
theorem markInts_ok (i : Int) (a n k : Nat) (hn : a + n ≤ 1000000) (hk : n + 1 ≤ k) : scriniumbook_markInts.f k i (a : Int) (n : Int) = some (marksOf mkInts i a n) := markInts_l i a n hn n 0 k rfl (Nat.zero_le _) hk
theorem markInts_calls (i a n : Nat) (w : World) (hi : i ≤ 1000) (h : a + n ≤ 1000000) : Calls Tryz.prog 90 #[.int .i64 (i : Int), .int .i64 (a : Int), .int .i64 (n : Int)] w fun e w' => ∃ v, e = .returned v ∧ Kd.R (Kd.int .i64) 3 w' w.heap.size (fun _ => True) v (marksOf mkInts (i : Int) a n) ∧ Below w.heap.size w w' :=
 scriniumbook_markInts.calls (n + 1) (i : Int) (a : Int) (n : Int) (marksOf mkInts (i : Int) a n) w (markInts_ok _ _ _ _ h (Nat.le_refl _))
end Go.Proofs.YtibhenengpdahaaGreat.P

end
