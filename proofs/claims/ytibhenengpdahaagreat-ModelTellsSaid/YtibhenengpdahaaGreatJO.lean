-- Printed by myprint.py (a program of this session's, over the kit's print): P
import Derived.Test.YtibhenengpdahaaGreatJA
import Derived.Test.YtibhenengpdahaaGreatJB
import Derived.Test.YtibhenengpdahaaGreatBkC
section
namespace Go.Proofs.YtibhenengpdahaaGreat.P
open Go.RowKit Go.Proofs.YtibhenengpdahaaGreatW.PrintWords Go.Proofs.YtibhenengpdahaaGreatW.PrintLast Go.Proofs.YtibhenengpdahaaGreatW.PrintMore
set_option linter.unusedVariables false
set_option linter.unusedSimpArgs false

attribute [local go_sem high] eqA61
-- NOT PRINTED: function 9 (scriniumref1_Change)

/-! ### scriniumbook_SameSpots: function 85 -/
def scriniumbook_SameSpots.l0 : Nat → List (S61) → List (S61) → Int → Option (Bool)
 | 0, _, _, _ => none
 | k + 1, x0, x1, x5 => if x5 < (x0.length : Int) then (if 0 ≤ x5 then (if x5 < (x1.length : Int) then (if ((((rd_T61 x0 x5).f0) == ((rd_T61 x1 x5).f0) && (((rd_T61 x0 x5).f1) == ((rd_T61 x1 x5).f1))) = true) then (scriniumbook_SameSpots.l0 k x0 x1 (wrap64 (x5 + 1))) else (some false)) else (none)) else (none)) else (some true)
def scriniumbook_SameSpots.f (k : Nat) (l0 : List (S61)) (l1 : List (S61)) : Option (Bool) := if (l0.length : Int) = (l1.length : Int) then (scriniumbook_SameSpots.l0 k l0 l1 0) else (some false)
theorem scriniumbook_SameSpots.mono_l : ∀ k, (∀ y0 y1 y2, LeO (scriniumbook_SameSpots.l0 k y0 y1 y2) (scriniumbook_SameSpots.l0 (k + 1) y0 y1 y2))
 | 0 => fun _ _ _ r h => by simp [scriniumbook_SameSpots.l0] at h
 | k + 1 => by
  have ih0 := scriniumbook_SameSpots.mono_l k
  ·intro y0 y1 y2
   unfold scriniumbook_SameSpots.l0
   repeat' first
   | (with_reducible exact ih0 _ _ _)
   | (with_reducible exact LeO.refl _)
   | (with_reducible exact LeO.none _)
   | (with_reducible refine LeO.ite ?_ ?_)
   | (with_reducible refine LeO.bind ?_ (fun _ => ?_))
   | exact ih0 _ _ _
   | exact LeO.none _
   | refine LeO.ite ?_ ?_
   | refine LeO.bind ?_ (fun _ => ?_)
theorem scriniumbook_SameSpots.mono : ∀ a0 a1 k, LeO (scriniumbook_SameSpots.f k a0 a1) (scriniumbook_SameSpots.f (k + 1) a0 a1) := by
 intro a0 a1 k
 have ih0 := scriniumbook_SameSpots.mono_l k
 unfold scriniumbook_SameSpots.f
 repeat' first
   | (with_reducible exact ih0 _ _ _)
   | (with_reducible exact LeO.refl _)
   | (with_reducible exact LeO.none _)
   | (with_reducible refine LeO.ite ?_ ?_)
   | (with_reducible refine LeO.bind ?_ (fun _ => ?_))
   | exact ih0 _ _ _
   | exact LeO.none _
   | refine LeO.ite ?_ ?_
   | refine LeO.bind ?_ (fun _ => ?_)
set_option maxHeartbeats 8000000 in
set_option maxRecDepth 100000 in
theorem scriniumbook_SameSpots.calls (k : Nat) (A0 : Option Addr) (c0 : Nat) (l0 : List (S61)) (A1 : Option Addr) (c1 : Nat) (l1 : List (S61)) (r : Bool) (w : World) (hr0 : Kd.C k61 w A0 l0.length l0) (hc0 : l0.length ≤ c0) (hr1 : Kd.C k61 w A1 l1.length l1) (hc1 : l1.length ≤ c1) (h : scriniumbook_SameSpots.f k l0 l1 = some r) :
  Calls Tryz.prog 85 #[.slice A0 l0.length c0, .slice A1 l1.length c1] w fun e w' => e = .returned (.bool r) ∧ Drawn0 w w' := by
 have hu61 := Tryz.underlying61
 have HR0 := Aside0.mk hr0
 have HC0 := Aside0.mk hc0
 clear hr0 hc0
 have HR1 := Aside0.mk hr1
 have HC1 := Aside0.mk hc1
 clear hr1 hc1
 have H : (if (l0.length : Int) = (l1.length : Int) then (scriniumbook_SameSpots.l0 k l0 l1 0) else (some false)) = some r := h
 clear h
 by_cases c3 : (l0.length : Int) = (l1.length : Int)
 ·rw [if_pos c3] at H
  have c3b0 : ((l0.length : Int) == (l1.length : Int)) = true := beq_iff_eq.mpr c3
  have c3b1 : ((l0.length : Int) != (l1.length : Int)) = false := bne_eq_false_iff_eq.mpr c3
  have c3b2 : (l0.length == l1.length) = true := by first | simpa using c3 | (simp at c3 ⊢; omega)
  clear c3
  have H' := Aside0.mk H
  clear H
  go_enter Tryz.func85, Tryz.ntmps85
  go_wp2
  repeat (go_quiet (fail); try go_wp2)
  go_loopg [5] k (fun kq v5 w' => ∃ (x5_1 : Int), v5 = .int .i64 x5_1 ∧ Aside0 (scriniumbook_SameSpots.l0 kq l0 l1 x5_1 = some r) ∧ Aside0 (kq ≤ k) ∧ Drawn0 w w')
  case atStart => exact ⟨(0), (by first | rfl | (simp; done) | (simp [*]; done)), H', ⟨Nat.le_refl _⟩, by repeat (first | exact Drawn0.refl _ | apply Drawn0.step)⟩
  case round =>
   clear H'
   try clear c1
   try clear p2
   try clear c3
   try clear c3b0
   try clear c3b1
   try clear c3b2
   obtain ⟨x5_1, rfl, HA, HK1, ⟨m1, rfl⟩⟩ := hrel
   cases gk with
   | zero => exact absurd HA.out (by simp [scriniumbook_SameSpots.l0])
   | succ k1 =>
    have H := HA.out
    clear HA
    simp only [scriniumbook_SameSpots.l0] at H
    by_cases c4 : x5_1 < (l0.length : Int)
    ·rw [if_pos c4] at H
     have c4b0 : decide (x5_1 < (l0.length : Int)) = true := decide_eq_true c4
     clear c4
     by_cases c5 : 0 ≤ x5_1
     ·rw [if_pos c5] at H
      have c5b0 : decide (0 ≤ x5_1) = true := decide_eq_true c5
      clear c5
      by_cases c6 : x5_1 < (l1.length : Int)
      ·rw [if_pos c6] at H
       have c6b0 : decide (x5_1 < (l1.length : Int)) = true := decide_eq_true c6
       clear c6
       by_cases c7 : ((((rd_T61 l0 x5_1).f0) == ((rd_T61 l1 x5_1).f0) && (((rd_T61 l0 x5_1).f1) == ((rd_T61 l1 x5_1).f1))) = true)
       ·rw [if_pos c7] at H
        have c7b0 : (((rd_T61 l0 x5_1).f0) == ((rd_T61 l1 x5_1).f0) && (((rd_T61 l0 x5_1).f1) == ((rd_T61 l1 x5_1).f1))) = true := c7
        (try (have c7b1 : decide (((rd_T61 l0 x5_1).f0) = ((rd_T61 l1 x5_1).f0) && (((rd_T61 l0 x5_1).f1) == ((rd_T61 l1 x5_1).f1))) = true := by simpa using c7))
        (try (have c7b2 : (((rd_T61 l0 x5_1).f0) == ((rd_T61 l1 x5_1).f0) && (((rd_T61 l0 x5_1).f1) == ((rd_T61 l1 x5_1).f1))) = true := by simpa using c7))
        clear c7
        have H' := Aside0.mk H
        clear H
        have p177 : 0 ≤ (x5_1 : Int) := of_decide_eq_true (by first | (with_reducible assumption) | assumption)
        have q177 : x5_1 < (l0.length : Int) := of_decide_eq_true (by first | (with_reducible assumption) | assumption)
        obtain ⟨ad177, e177, hx177_0, hx177_1⟩ := at_T61 HR0.out x5_1 p177 q177
        cases e177
        replace p177 := eq_true p177
        replace q177 := eq_true q177
        have p178 : 0 ≤ (x5_1 : Int) := of_decide_eq_true (by first | (with_reducible assumption) | assumption)
        have q178 : x5_1 < (l1.length : Int) := of_decide_eq_true (by first | (with_reducible assumption) | assumption)
        obtain ⟨ad178, e178, hx178_0, hx178_1⟩ := at_T61 HR1.out x5_1 p178 q178
        cases e178
        replace p178 := eq_true p178
        replace q178 := eq_true q178
        go_wp2
        repeat (go_quiet (fail); try go_wp2)
        go_roundg k1
        case measure => have := HK1.out; omega
        case rel => exact ⟨(wrap64 (x5_1 + 1)), (by first | rfl | (simp; done) | (simp [*]; done)), H', ⟨by have := HK1.out; omega⟩, by repeat (first | exact Drawn0.refl _ | apply Drawn0.step)⟩
       ·rw [if_neg c7] at H
        have c7b0 : (((rd_T61 l0 x5_1).f0) == ((rd_T61 l1 x5_1).f0) && (((rd_T61 l0 x5_1).f1) == ((rd_T61 l1 x5_1).f1))) = false := by simpa using c7
        (try (have c7b1 : decide (((rd_T61 l0 x5_1).f0) = ((rd_T61 l1 x5_1).f0) && (((rd_T61 l0 x5_1).f1) == ((rd_T61 l1 x5_1).f1))) = false := by simpa using c7))
        (try (have c7b2 : (((rd_T61 l0 x5_1).f0) == ((rd_T61 l1 x5_1).f0) && (((rd_T61 l0 x5_1).f1) == ((rd_T61 l1 x5_1).f1))) = false := by simpa using c7))
        (try (have c7b3 : ¬ (((rd_T61 l0 x5_1).f0) = ((rd_T61 l1 x5_1).f0) && (((rd_T61 l0 x5_1).f1) == ((rd_T61 l1 x5_1).f1))) := by simpa using c7))
        clear c7
        obtain rfl := Option.some.inj H
        have p177 : 0 ≤ (x5_1 : Int) := of_decide_eq_true (by first | (with_reducible assumption) | assumption)
        have q177 : x5_1 < (l0.length : Int) := of_decide_eq_true (by first | (with_reducible assumption) | assumption)
        obtain ⟨ad177, e177, hx177_0, hx177_1⟩ := at_T61 HR0.out x5_1 p177 q177
        cases e177
        replace p177 := eq_true p177
        replace q177 := eq_true q177
        have p178 : 0 ≤ (x5_1 : Int) := of_decide_eq_true (by first | (with_reducible assumption) | assumption)
        have q178 : x5_1 < (l1.length : Int) := of_decide_eq_true (by first | (with_reducible assumption) | assumption)
        obtain ⟨ad178, e178, hx178_0, hx178_1⟩ := at_T61 HR1.out x5_1 p178 q178
        cases e178
        replace p178 := eq_true p178
        replace q178 := eq_true q178
        go_wp2
        repeat (go_quiet (fail); try go_wp2)
        go_ret
        exact ⟨by first | rfl | (simp; done) | (simp [*]; done), by repeat (first | exact Drawn0.refl _ | apply Drawn0.step)⟩
      ·rw [if_neg c6] at H
       exact absurd H (by simp)
     ·rw [if_neg c5] at H
      exact absurd H (by simp)
    ·rw [if_neg c4] at H
     have c4b0 : decide (x5_1 < (l0.length : Int)) = false := decide_eq_false c4
     clear c4
     obtain rfl := Option.some.inj H
     go_wp2
     repeat (go_quiet (fail); try go_wp2)
     go_ret
     exact ⟨by first | rfl | (simp; done) | (simp [*]; done), by repeat (first | exact Drawn0.refl _ | apply Drawn0.step)⟩
 ·rw [if_neg c3] at H
  have c3b0 : ((l0.length : Int) == (l1.length : Int)) = false := beq_eq_false_iff_ne.mpr c3
  have c3b1 : ((l0.length : Int) != (l1.length : Int)) = true := bne_iff_ne.mpr c3
  have c3b2 : (l0.length == l1.length) = false := by first | simpa using c3 | (simp at c3 ⊢; omega)
  obtain rfl := Option.some.inj H
  go_enter Tryz.func85, Tryz.ntmps85
  go_wp2
  repeat (go_quiet (fail); try go_wp2)
  go_ret
  exact ⟨by first | rfl | (simp; done) | (simp [*]; done), by repeat (first | exact Drawn0.refl _ | apply Drawn0.step)⟩

/-! ### scriniumbook_markSpots: function 93 -/
def scriniumbook_markSpots.l0 : Nat → Int → Int → Int → List (S61) → Int → Option ((List (S61)))
 | 0, _, _, _, _, _ => none
 | k + 1, x0, x1, x2, x7, x8 => if x8 < (wrap64 (x1 + x2)) then (if x7.length < 8796093022208 then (scriniumbook_markSpots.l0 k x0 x1 x2 (x7 ++ [(⟨0, wrap64 ((wrap64 ((wrap64 ((-1000) * x0)) - x8)) - 1)⟩ : S61)]) (wrap64 (x8 + 1))) else (none)) else (some x7)
def scriniumbook_markSpots.f (k : Nat) (a0 : Int) (a1 : Int) (a2 : Int) : Option ((List (S61))) := scriniumbook_markSpots.l0 k a0 a1 a2 ([] : List (S61)) a1
theorem scriniumbook_markSpots.mono_l : ∀ k, (∀ y0 y1 y2 y3 y4, LeO (scriniumbook_markSpots.l0 k y0 y1 y2 y3 y4) (scriniumbook_markSpots.l0 (k + 1) y0 y1 y2 y3 y4))
 | 0 => fun _ _ _ _ _ r h => by simp [scriniumbook_markSpots.l0] at h
 | k + 1 => by
  have ih0 := scriniumbook_markSpots.mono_l k
  ·intro y0 y1 y2 y3 y4
   unfold scriniumbook_markSpots.l0
   repeat' first
   | (with_reducible exact ih0 _ _ _ _ _)
   | (with_reducible exact LeO.refl _)
   | (with_reducible exact LeO.none _)
   | (with_reducible refine LeO.ite ?_ ?_)
   | (with_reducible refine LeO.bind ?_ (fun _ => ?_))
   | exact ih0 _ _ _ _ _
   | exact LeO.none _
   | refine LeO.ite ?_ ?_
   | refine LeO.bind ?_ (fun _ => ?_)
theorem scriniumbook_markSpots.mono : ∀ a0 a1 a2 k, LeO (scriniumbook_markSpots.f k a0 a1 a2) (scriniumbook_markSpots.f (k + 1) a0 a1 a2) := by
 intro a0 a1 a2 k
 have ih0 := scriniumbook_markSpots.mono_l k
 unfold scriniumbook_markSpots.f
 repeat' first
   | (with_reducible exact ih0 _ _ _ _ _)
   | (with_reducible exact LeO.refl _)
   | (with_reducible exact LeO.none _)
   | (with_reducible refine LeO.ite ?_ ?_)
   | (with_reducible refine LeO.bind ?_ (fun _ => ?_))
   | exact ih0 _ _ _ _ _
   | exact LeO.none _
   | refine LeO.ite ?_ ?_
   | refine LeO.bind ?_ (fun _ => ?_)
set_option maxHeartbeats 8000000 in
set_option maxRecDepth 100000 in
theorem scriniumbook_markSpots.calls (k : Nat) (a0 : Int) (a1 : Int) (a2 : Int) (r : List (S61)) (w : World) (h : scriniumbook_markSpots.f k a0 a1 a2 = some r) :
  Calls Tryz.prog 93 #[.int .i64 a0, .int .i64 a1, .int .i64 a2] w fun e w' => ∃ v0_ : Value, e = .returned (v0_) ∧ Kd.R k61 61 w' w.heap.size (fun _ => True) v0_ r ∧ Below w.heap.size w w' := by
 have hu61 := Tryz.underlying61
 have HB := Aside0.mk (Below.refl w.heap.size w)
 have H : (scriniumbook_markSpots.l0 k a0 a1 a2 ([] : List (S61)) a1) = some r := h
 clear h
 have H' := Aside0.mk H
 clear H
 go_enter Tryz.func93, Tryz.ntmps93
 go_wp2
 go_loopg [7, 8] k (fun kq v7 v8 w' => ∃ (x7_1 : List (S61)) (x8_1 : Int), v8 = .int .i64 x8_1 ∧ Aside0 (scriniumbook_markSpots.l0 kq a0 a1 a2 x7_1 x8_1 = some r) ∧ Aside0 (kq ≤ k) ∧ Aside0 (Kd.R k61 61 w' w.heap.size (fun _ => True) v7 x7_1) ∧ Aside0 (Below w.heap.size w w'))
 case atStart => exact ⟨(([] : List (S61))), (a1), (by first | rfl | (simp; done) | (simp [*]; done)), H', ⟨Nat.le_refl _⟩, ⟨by first | exact Kd.R_nil _ _ _ _ _ | exact Kd.N_nil _ _ _ _ _ | exact Kd.V_nil _ _ _ _ _ | exact Kd.Q_nil _ _ _ _ _ | exact Kd.S_nil _ _ _ _ _⟩, ⟨by repeat (first | (with_reducible first | exact HB.out | apply below_alloc | apply pw_below_drewN | apply below_drew1) | exact HB.out)⟩⟩
 case round =>
  clear H'
  try clear p2
  obtain ⟨x7_1, x8_1, rfl, HA, HK1, HO_7, HB⟩ := hrel
  cases gk with
  | zero => exact absurd HA.out (by simp [scriniumbook_markSpots.l0])
  | succ k1 =>
   have H := HA.out
   clear HA
   simp only [scriniumbook_markSpots.l0] at H
   by_cases c4 : x8_1 < (wrap64 (a1 + a2))
   ·rw [if_pos c4] at H
    have c4b0 : decide (x8_1 < (wrap64 (a1 + a2))) = true := decide_eq_true c4
    clear c4
    by_cases c5 : x7_1.length < 8796093022208
    ·rw [if_pos c5] at H
     have LMc5 := Aside0.mk c5
     clear c5
     obtain ⟨y179, hy179⟩ : ∃ y_ : List (S61), y_ = (x7_1 ++ [(⟨0, wrap64 ((wrap64 ((wrap64 ((-1000) * a0)) - x8_1)) - 1)⟩ : S61)]) := ⟨_, rfl⟩
     replace H : (scriniumbook_markSpots.l0 k1 a0 a1 a2 y179 (wrap64 (x8_1 + 1))) = some r := by first | (rw [hy179]; with_reducible exact H) | (have H2_ := (Option.bind_some _ _).symm.trans H; rw [hy179]; with_reducible exact H2_) | (have H2_ := (Option.bind_some _ _).symm.trans H; with_reducible exact H2_) | with_reducible exact H | (rw [hy179]; exact H) | exact H
     have Ny179 := Aside0.mk hy179
     clear hy179
     have H' := Aside0.mk H
     clear H
     go_wp2_with (first | ((with_reducible refine gate_builtin (b := .append) (xs := #[.tmp 17, .tmp 24]) rfl ?_); at_builtin; refine Kd.R_append k61 (w0 := w) w.heap.size rfl (.tmp 17) (.tmp 24) 30 61 (.agg #[(.int .i64 0), (.int .i64 0)]) 16 rfl Tryz.underlying30 info61 rfl (by decide) (by omega) u7 x7_1 (⟨0, wrap64 ((wrap64 ((wrap64 ((-1000) * a0)) - x8_1)) - 1)⟩ : S61) [.int .i64 0, .int .i64 (wrap64 ((wrap64 ((wrap64 ((-1000) * a0)) - x8_1)) - 1))] (fun _ => True) (fun _ => False) rfl rfl ?aP (fun _ hk => hk.elim) ?aF ?aO ?aB ?aS ?aL ?_; (case aP => exact k61_mkM _ _ _ (⟨0, wrap64 ((wrap64 ((wrap64 ((-1000) * a0)) - x8_1)) - 1)⟩ : S61)); (case aB => exact (by repeat (first | (with_reducible first | exact HB.out | apply below_alloc | apply pw_below_drewN | apply below_drew1) | exact HB.out))); (case aF => exact (fun _ _ => trivial)); (case aO => exact (by (with_reducible repeat (first | apply Kd.R_alloc | apply Kd.R_drewN | apply Kd.R_drew)); exact HO_7.out)); (case aS => exact (below_size (by repeat (first | (with_reducible first | exact HB.out | apply below_alloc | apply pw_below_drewN | apply below_drew1) | exact HB.out)))); (case aL => have := LMc5.out; omega); intro v180 w6 ho hb hg hat; rw [← Ny179.out] at ho; have n0_ := Aside0.mk (hb); have n1_ := Aside0.mk (ho); clear HB; clear HO_7; have HB := n0_; have HO181 := n1_; clear n0_ n1_; clear ho hb hg hat))
     go_roundg k1
     case measure => have := HK1.out; omega
     case rel => exact ⟨(y179), (wrap64 (x8_1 + 1)), (by first | rfl | (simp; done) | (simp [*]; done)), H', ⟨by have := HK1.out; omega⟩, ⟨by (with_reducible repeat (first | apply Kd.R_alloc | apply Kd.R_drewN | apply Kd.R_drew)); exact HO181.out⟩, ⟨by repeat (first | (with_reducible first | exact HB.out | apply below_alloc | apply pw_below_drewN | apply below_drew1) | exact HB.out)⟩⟩
    ·rw [if_neg c5] at H
     exact absurd H (by simp)
   ·rw [if_neg c4] at H
    have c4b0 : decide (x8_1 < (wrap64 (a1 + a2))) = false := decide_eq_false c4
    clear c4
    obtain rfl := Option.some.inj H
    go_wp2
    go_ret
    exact ⟨_, by first | rfl | (simp [errW_none, errW_some] <;> rfl) | (simp [*, errW_none, errW_some] <;> rfl), by (with_reducible repeat (first | apply Kd.R_alloc | apply Kd.R_drewN | apply Kd.R_drew)); exact HO_7.out, by repeat (first | (with_reducible first | exact HB.out | apply below_alloc | apply pw_below_drewN | apply below_drew1) | exact HB.out)⟩

end Go.Proofs.YtibhenengpdahaaGreat.P

end
section
namespace Go.Proofs.YtibhenengpdahaaGreat.P
open Go.RowKit Go.Proofs.YtibhenengpdahaaGreatW.PrintWords Go.Proofs.YtibhenengpdahaaGreatW.PrintLast Go.Proofs.YtibhenengpdahaaGreatW.PrintMore
set_option linter.unusedVariables false
set_option linter.unusedSimpArgs false

/-! ### scriniumbook_copySpots: function 34 -/
def scriniumbook_copySpots.f (l0 : List (S61)) : Option ((List (S61))) := if ([] : List (S61)).length + l0.length < 8796093022208 then (some (([] : List (S61)) ++ l0)) else (none)
set_option maxHeartbeats 8000000 in
set_option maxRecDepth 100000 in
theorem scriniumbook_copySpots.calls (A0 : Option Addr) (c0 : Nat) (l0 : List (S61)) (r : List (S61)) (w : World) (hr0 : Kd.C k61 w A0 l0.length l0) (hc0 : l0.length ≤ c0) (h : scriniumbook_copySpots.f l0 = some r) :
  Calls Tryz.prog 34 #[.slice A0 l0.length c0] w fun e w' => ∃ v0_ : Value, e = .returned (v0_) ∧ Kd.R k61 61 w' w.heap.size (fun _ => True) v0_ r ∧ Below w.heap.size w w' := by
 have HR0 := Aside0.mk hr0
 have HC0 := Aside0.mk hc0
 clear hr0 hc0
 have HB := Aside0.mk (Below.refl w.heap.size w)
 have H : (if ([] : List (S61)).length + l0.length < 8796093022208 then (some (([] : List (S61)) ++ l0)) else (none)) = some r := h
 clear h
 by_cases c2 : ([] : List (S61)).length + l0.length < 8796093022208
 ·rw [if_pos c2] at H
  have LMc2 := Aside0.mk c2
  clear c2
  obtain ⟨y208, hy208⟩ : ∃ y_ : List (S61), y_ = (([] : List (S61)) ++ l0) := ⟨_, rfl⟩
  replace H : (some y208) = some r := by first | (rw [hy208]; with_reducible exact H) | (have H2_ := (Option.bind_some _ _).symm.trans H; rw [hy208]; with_reducible exact H2_) | (have H2_ := (Option.bind_some _ _).symm.trans H; with_reducible exact H2_) | with_reducible exact H | (rw [hy208]; exact H) | exact H
  have Ny208 := Aside0.mk hy208
  clear hy208
  obtain rfl := Option.some.inj H
  go_enter Tryz.func34, Tryz.ntmps34
  go_wp2_with (first | ((with_reducible refine gate_builtin (b := .append) (xs := #[.const (.slice none 0 0), .tmp 3]) rfl ?_); at_builtin; refine Kd.R_append_rows k61 (w0 := w) w.heap.size rfl (.const (.slice none 0 0)) (.tmp 3) 30 61 (.agg #[(.int .i64 0), (.int .i64 0)]) 16 rfl Tryz.underlying30 info61 rfl (by decide) (by omega) (.slice none 0 0) ([] : List (S61)) l0 _ _ _ (fun _ => True) (fun _ => False) rfl rfl ?aO ?aR (fun _ _ h => h) (fun _ h => h.elim) ?aF ?aB ?aS ?aL ?_; (case aR => repeat (first | exact HR0.out | (with_reducible refine Kd.C_alloc ?_ _) | (with_reducible refine Kd.C_drewN ?_ _) | (with_reducible refine Kd.C_drew ?_))); (case aB => exact (by repeat (first | (with_reducible first | exact HB.out | apply below_alloc | apply pw_below_drewN | apply below_drew1) | exact HB.out))); (case aF => exact (fun _ _ => trivial)); (case aO => exact ((Kd.R_nil _ _ _ _ (fun _ => True)))); (case aS => exact (below_size (by repeat (first | (with_reducible first | exact HB.out | apply below_alloc | apply pw_below_drewN | apply below_drew1) | exact HB.out)))); (case aL => have := LMc2.out; omega); intro v209 w3 ho hb hg hat; rw [← Ny208.out] at ho; have n0_ := Aside0.mk (hb); have n1_ := Aside0.mk (ho); clear HB; have HB := n0_; have HO210 := n1_; clear n0_ n1_; clear ho hb hg hat))
  go_ret
  exact ⟨_, by first | rfl | (simp [errW_none, errW_some] <;> rfl) | (simp [*, errW_none, errW_some] <;> rfl), by (with_reducible repeat (first | apply Kd.R_alloc | apply Kd.R_drewN | apply Kd.R_drew)); exact HO210.out, by repeat (first | (with_reducible first | exact HB.out | apply below_alloc | apply pw_below_drewN | apply below_drew1) | exact HB.out)⟩
 ·rw [if_neg c2] at H
  exact absurd H (by simp)

end Go.Proofs.YtibhenengpdahaaGreat.P

end
section
set_option linter.unusedVariables false
set_option linter.unusedSimpArgs false
namespace Go.Proofs.YtibhenengpdahaaGreat.P
open Go.RowKit Go.Proofs.YtibhenengpdahaaGreatW.PrintWords Go.Proofs.YtibhenengpdahaaGreatW.PrintLast Go.Proofs.YtibhenengpdahaaGreatW.PrintMore

theorem flatSpots : Flat k61 (fun x => [Value.int .i64 x.f0] ++ [Value.int .i64 x.f1]) := Flat.iso (Flat.pair (Flat.scalar _ _) (Flat.scalar _ _)) _
theorem infoSpots : ∃ i z, (Tryz.prog).info? 61 = some i ∧ i.zero = some z ∧ i.size = (k61).sz ∧ i.bytes = 16 ∧ z.cells.size = (k61).sz := by
 have h : ((Tryz.prog).info? 61).map (fun i => (i.zero, i.size, i.bytes)) = some (some (.agg #[.int .i64 0, .int .i64 0]), 2, 16) := by kernel_rfl
 obtain ⟨i, hi, he⟩ := Option.map_eq_some_iff.1 h
 simp only [Prod.mk.injEq] at he
 exact ⟨i, .agg #[.int .i64 0, .int .i64 0], hi, he.1, he.2.1, he.2.2, rfl⟩
theorem infoSpotsL : ((Tryz.prog).info? 30).map (fun i => (i.zero, i.size, i.bytes)) = some (some (.slice none 0 0), 1, 24) := by kernel_rfl
theorem lneSpots : (30 : TypeId) ≠ 61 := by decide
theorem sameSpots_l (l : List S61) (hl : l.length ≤ 1000000) : ∀ (m j k : Nat), m = l.length - j → j ≤ l.length → m + 1 ≤ k → scriniumbook_SameSpots.l0 k l l (j : Int) = some true := by
 intro m
 induction m with
 | zero =>
  intro j k hm hj hk
  obtain rfl : j = l.length := by omega
  obtain ⟨k1, rfl⟩ : ∃ k1, k = k1 + 1 := ⟨k - 1, by omega⟩
  rw [scriniumbook_SameSpots.l0, if_neg (by omega)]
 | succ m ih =>
  intro j k hm hj hk
  obtain ⟨k1, rfl⟩ : ∃ k1, k = k1 + 1 := ⟨k - 1, by omega⟩
  have hrec := ih (j + 1) k1 (by omega) (by omega) (by omega)
  have hw : wrap64 ((j : Int) + 1) = ((j + 1 : Nat) : Int) := bw64 (j + 1) (by omega)
  rw [scriniumbook_SameSpots.l0, if_pos (by omega), if_pos (by omega), if_pos (by omega), hw, if_pos (by simp)]
  exact hrec
theorem sameSpots_ok (l : List S61) (hl : l.length ≤ 1000000) (k : Nat) (hk : l.length + 1 ≤ k) : scriniumbook_SameSpots.f k l l = some true := by
 unfold scriniumbook_SameSpots.f
 rw [if_pos rfl]
 exact sameSpots_l l hl l.length 0 _ rfl (Nat.zero_le _) hk
theorem sameSpots_calls (a a' : Option Addr) (k k' : Nat) (xs : List S61) (w : World) (hC : Kd.C k61 w a xs.length xs) (hC' : Kd.C k61 w a' xs.length xs) (hk : xs.length ≤ k) (hk' : xs.length ≤ k') (hs : xs.length ≤ 1000000) :
  Calls Tryz.prog 85 #[.slice a xs.length k, .slice a' xs.length k'] w fun e w' => e = .returned (.bool true) ∧ Below w.heap.size w w' :=
 (scriniumbook_SameSpots.calls (xs.length + 1) a k xs a' k' xs true w hC hk hC' hk' (sameSpots_ok xs hs _ (Nat.le_refl _))).mono fun _ _ h => ⟨h.1, h.2.below⟩
theorem copySpots_ok (l : List S61) (h : l.length ≤ 900000) : scriniumbook_copySpots.f l = some l := by
 unfold scriniumbook_copySpots.f
 rw [if_pos (by rw [List.length_nil]; omega), List.nil_append]
theorem copySpots_calls (a : Option Addr) (k : Nat) (xs : List S61) (w : World) (hC : Kd.C k61 w a xs.length xs) (hk : xs.length ≤ k) (h : xs.length ≤ 900000) :
  Calls Tryz.prog 34 #[.slice a xs.length k] w fun e w' => ∃ v, e = .returned v ∧ Kd.R k61 61 w' w.heap.size (fun _ => True) v xs ∧ Below w.heap.size w w' :=
 scriniumbook_copySpots.calls a k xs xs w hC hk (copySpots_ok xs h)
/-- The mark at k of list i. -/
def mkSpots (i : Int) (k : Nat) : S61 := (⟨0, wrap64 ((wrap64 ((wrap64 ((-1000) * i)) - (k : Int))) - 1)⟩ : S61)
theorem markSpots_l (i : Int) (a n : Nat) (hn : a + n ≤ 1000000) : ∀ (m j k : Nat), m = n - j → j ≤ n → m + 1 ≤ k → scriniumbook_markSpots.l0 k i (a : Int) (n : Int) (marksOf mkSpots i a j) ((a + j : Nat) : Int) = some (marksOf mkSpots i a n) := by
 have hw : wrap64 ((a : Int) + (n : Int)) = ((a + n : Nat) : Int) := bw64 (a + n) (by omega)
 intro m
 induction m with
 | zero =>
  intro j k hm hj hk
  obtain rfl : j = n := by omega
  obtain ⟨k1, rfl⟩ : ∃ k1, k = k1 + 1 := ⟨k - 1, by omega⟩
  rw [scriniumbook_markSpots.l0, hw, if_neg (by omega)]
 | succ m ih =>
  intro j k hm hj hk
  obtain ⟨k1, rfl⟩ : ∃ k1, k = k1 + 1 := ⟨k - 1, by omega⟩
  have hrec := ih (j + 1) k1 (by omega) (by omega) (by omega)
  have hw2 : wrap64 (((a + j : Nat) : Int) + 1) = ((a + (j + 1) : Nat) : Int) := bw64 (a + j + 1) (by omega)
  rw [scriniumbook_markSpots.l0, hw, if_pos (by omega), if_pos (by rw [marks_len]; omega), hw2]
  rw [marks_succ] at hrec
  exact hrec
theorem markSpots_ok (i : Int) (a n k : Nat) (hn : a + n ≤ 1000000) (hk : n + 1 ≤ k) : scriniumbook_markSpots.f k i (a : Int) (n : Int) = some (marksOf mkSpots i a n) := markSpots_l i a n hn n 0 k rfl (Nat.zero_le _) hk
theorem markSpots_calls (i a n : Nat) (w : World) (hi : i ≤ 1000) (h : a + n ≤ 1000000) : Calls Tryz.prog 93 #[.int .i64 (i : Int), .int .i64 (a : Int), .int .i64 (n : Int)] w fun e w' => ∃ v, e = .returned v ∧ Kd.R k61 61 w' w.heap.size (fun _ => True) v (marksOf mkSpots (i : Int) a n) ∧ Below w.heap.size w w' :=
 scriniumbook_markSpots.calls (n + 1) (i : Int) (a : Int) (n : Int) (marksOf mkSpots (i : Int) a n) w (markSpots_ok _ _ _ _ h (Nat.le_refl _))
end Go.Proofs.YtibhenengpdahaaGreat.P

end
