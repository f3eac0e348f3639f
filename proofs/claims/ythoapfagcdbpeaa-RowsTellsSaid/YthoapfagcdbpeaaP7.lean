-- Printed by myprint.py (a program of this session's, over the kit's print): P
import Derived.Test.YthoapfagcdbpeaaP0
namespace Go.Proofs.Ythoapfagcdbpeaa.P
open Go.RowKit Go.Proofs.YthoapfagcdbpeaaW.PrintWords Go.Proofs.YthoapfagcdbpeaaW.PrintLast Go.Proofs.YthoapfagcdbpeaaW.PrintMore
attribute [local go_sem] max2_int min2_int max_two min_two max_three min_three max_four min_four   -- for this text's walks alone
set_option linter.unusedVariables false
set_option linter.unusedSimpArgs false

/-! ### scriniumbook_markInts: function 83 -/
def scriniumbook_markInts.l0 : Nat → Int → Int → Int → List Int → Int → Option (List Int)
  | 0, _, _, _, _, _ => none
  | k + 1, x0, x1, x2, x7, x8 => if x8 < (wrap64 (x1 + x2)) then (if x7.length < 17592186044416 then (scriniumbook_markInts.l0 k x0 x1 x2 (x7 ++ [wrap64 ((wrap64 ((wrap64 ((-1000000) * x0)) - x8)) - 7)]) (wrap64 (x8 + 1))) else (none)) else (some x7)
def scriniumbook_markInts.f (k : Nat) (a0 : Int) (a1 : Int) (a2 : Int) : Option (List Int) := scriniumbook_markInts.l0 k a0 a1 a2 ([] : List Int) a1
theorem scriniumbook_markInts.mono_l : ∀ k, (∀ y0 y1 y2 y3 y4, LeO (scriniumbook_markInts.l0 k y0 y1 y2 y3 y4) (scriniumbook_markInts.l0 (k + 1) y0 y1 y2 y3 y4))
  | 0 => fun _ _ _ _ _ r h => by simp [scriniumbook_markInts.l0] at h
  | k + 1 => by
    have ih0 := scriniumbook_markInts.mono_l k
    · intro y0 y1 y2 y3 y4
      unfold scriniumbook_markInts.l0
      repeat' first
      | (with_reducible exact ih0 _ _ _ _ _)
      | (with_reducible exact LeO.refl _)
      | (with_reducible exact LeO.none _)
      | (with_reducible refine LeO.ite ?_ ?_)
      | (with_reducible refine LeO.bind ?_ (fun _ => ?_))
      | exact ih0 _ _ _ _ _
      | exact LeO.none _
      | refine LeO.ite ?_ ?_
      | refine LeO.bind ?_ (fun _ => ?_)
theorem scriniumbook_markInts.mono : ∀ a0 a1 a2 k, LeO (scriniumbook_markInts.f k a0 a1 a2) (scriniumbook_markInts.f (k + 1) a0 a1 a2) := by
  intro a0 a1 a2 k
  have ih0 := scriniumbook_markInts.mono_l k
  unfold scriniumbook_markInts.f
  repeat' first
      | (with_reducible exact ih0 _ _ _ _ _)
      | (with_reducible exact LeO.refl _)
      | (with_reducible exact LeO.none _)
      | (with_reducible refine LeO.ite ?_ ?_)
      | (with_reducible refine LeO.bind ?_ (fun _ => ?_))
      | exact ih0 _ _ _ _ _
      | exact LeO.none _
      | refine LeO.ite ?_ ?_
      | refine LeO.bind ?_ (fun _ => ?_)
set_option maxHeartbeats 8000000 in
set_option maxRecDepth 100000 in
theorem scriniumbook_markInts.calls (k : Nat) (a0 : Int) (a1 : Int) (a2 : Int) (r : List Int) (w : World) (h : scriniumbook_markInts.f k a0 a1 a2 = some r) :
    Calls Try.prog 83 #[.int .i64 a0, .int .i64 a1, .int .i64 a2] w fun e w' => ∃ v0_ : Value, e = .returned (v0_) ∧ Kd.R (Kd.int .i64) 3 w' w.heap.size (fun _ => True) v0_ r ∧ Below w.heap.size w w' := by
  have HB := Aside0.mk (Below.refl w.heap.size w)
  have H : (scriniumbook_markInts.l0 k a0 a1 a2 ([] : List Int) a1) = some r := h
  clear h
  have H' := Aside0.mk H
  clear H
  go_enter Try.func83, Try.ntmps83
  go_wp2
  go_loopg [7, 8] k (fun kq v7 v8 w' => ∃ (x7_1 : List Int) (x8_1 : Int), v8 = .int .i64 x8_1 ∧ Aside0 (scriniumbook_markInts.l0 kq a0 a1 a2 x7_1 x8_1 = some r) ∧ Aside0 (kq ≤ k) ∧ Aside0 (Kd.R (Kd.int .i64) 3 w' w.heap.size (fun _ => True) v7 x7_1) ∧ Aside0 (Below w.heap.size w w'))
  case atStart => exact ⟨(([] : List Int)), (a1), (by first | rfl | (simp; done) | (simp [*]; done)), H', ⟨Nat.le_refl _⟩, ⟨by first | exact Kd.R_nil _ _ _ _ _ | exact Kd.N_nil _ _ _ _ _ | exact Kd.V_nil _ _ _ _ _ | exact Kd.Q_nil _ _ _ _ _ | exact Kd.S_nil _ _ _ _ _⟩, ⟨by repeat (first | (with_reducible first | exact HB.out | apply below_alloc | apply pw_below_drewN | apply below_drew1) | exact HB.out)⟩⟩
  case round =>
    clear H'
    try clear p2
    obtain ⟨x7_1, x8_1, rfl, HA, HK1, HO_7, HB⟩ := hrel
    cases gk with
    | zero => exact absurd HA.out (by simp [scriniumbook_markInts.l0])
    | succ k1 =>
      have H := HA.out
      clear HA
      simp only [scriniumbook_markInts.l0] at H
      by_cases c4 : x8_1 < (wrap64 (a1 + a2))
      · rw [if_pos c4] at H
        have c4b0 : decide (x8_1 < (wrap64 (a1 + a2))) = true := decide_eq_true c4
        clear c4
        by_cases c5 : x7_1.length < 17592186044416
        · rw [if_pos c5] at H
          have LMc5 := Aside0.mk c5
          clear c5
          obtain ⟨y175, hy175⟩ : ∃ y_ : List Int, y_ = (x7_1 ++ [wrap64 ((wrap64 ((wrap64 ((-1000000) * a0)) - x8_1)) - 7)]) := ⟨_, rfl⟩
          replace H : (scriniumbook_markInts.l0 k1 a0 a1 a2 y175 (wrap64 (x8_1 + 1))) = some r := by first | (rw [hy175]; with_reducible exact H) | (have H2_ := (Option.bind_some _ _).symm.trans H; rw [hy175]; with_reducible exact H2_) | (have H2_ := (Option.bind_some _ _).symm.trans H; with_reducible exact H2_) | with_reducible exact H | (rw [hy175]; exact H) | exact H
          have Ny175 := Aside0.mk hy175
          clear hy175
          have H' := Aside0.mk H
          clear H
          go_wp2_with (first | ((with_reducible refine gate_builtin (b := .append) (xs := #[.tmp 17, .tmp 23]) rfl ?_); at_builtin; refine Kd.R_append (Kd.int .i64) (w0 := w) w.heap.size rfl (.tmp 17) (.tmp 23) 30 3 (.int .i64 0) 8 rfl Try.underlying30 info3 rfl (by decide) (by omega) u7 x7_1 (wrap64 ((wrap64 ((wrap64 ((-1000000) * a0)) - x8_1)) - 7)) [.int .i64 (wrap64 ((wrap64 ((wrap64 ((-1000000) * a0)) - x8_1)) - 7))] (fun _ => True) (fun _ => False) rfl rfl ?aP (fun _ hk => hk.elim) ?aF ?aO ?aB ?aS ?aL ?_; (case aP => exact rfl); (case aB => exact (by repeat (first | (with_reducible first | exact HB.out | apply below_alloc | apply pw_below_drewN | apply below_drew1) | exact HB.out))); (case aF => exact (fun _ _ => trivial)); (case aO => exact (by (with_reducible repeat (first | apply Kd.R_alloc | apply Kd.R_drewN | apply Kd.R_drew)); exact HO_7.out)); (case aS => exact (below_size (by repeat (first | (with_reducible first | exact HB.out | apply below_alloc | apply pw_below_drewN | apply below_drew1) | exact HB.out)))); (case aL => have := LMc5.out; omega); intro v176 w6 ho hb hg hat; rw [← Ny175.out] at ho; have n0_ := Aside0.mk (hb); have n1_ := Aside0.mk (ho); clear HB; clear HO_7; have HB := n0_; have HO177 := n1_; clear n0_ n1_; clear ho hb hg hat))
          go_roundg k1
          case measure => have := HK1.out; omega
          case rel => exact ⟨(y175), (wrap64 (x8_1 + 1)), (by first | rfl | (simp; done) | (simp [*]; done)), H', ⟨by have := HK1.out; omega⟩, ⟨by (with_reducible repeat (first | apply Kd.R_alloc | apply Kd.R_drewN | apply Kd.R_drew)); exact HO177.out⟩, ⟨by repeat (first | (with_reducible first | exact HB.out | apply below_alloc | apply pw_below_drewN | apply below_drew1) | exact HB.out)⟩⟩
        · rw [if_neg c5] at H
          exact absurd H (by simp)
      · rw [if_neg c4] at H
        have c4b0 : decide (x8_1 < (wrap64 (a1 + a2))) = false := decide_eq_false c4
        clear c4
        obtain rfl := Option.some.inj H
        go_wp2
        go_ret
        exact ⟨_, by first | rfl | (simp [errW_none, errW_some] <;> rfl) | (simp [*, errW_none, errW_some] <;> rfl), by (with_reducible repeat (first | apply Kd.R_alloc | apply Kd.R_drewN | apply Kd.R_drew)); exact HO_7.out, by repeat (first | (with_reducible first | exact HB.out | apply below_alloc | apply pw_below_drewN | apply below_drew1) | exact HB.out)⟩

end Go.Proofs.Ythoapfagcdbpeaa.P
