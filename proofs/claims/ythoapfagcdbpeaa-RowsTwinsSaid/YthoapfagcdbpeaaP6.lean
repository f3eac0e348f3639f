-- Printed by myprint.py (a program of this session's, over the kit's print): P
import Derived.Test.YthoapfagcdbpeaaP0
import Derived.Test.YthoapfagcdbpeaaP3
import Derived.Test.YthoapfagcdbpeaaRowsB
namespace Go.Proofs.Ythoapfagcdbpeaa.P
open Go.RowKit Go.Proofs.YthoapfagcdbpeaaW.PrintWords Go.Proofs.YthoapfagcdbpeaaW.PrintLast Go.Proofs.YthoapfagcdbpeaaW.PrintMore
attribute [local go_sem] max2_int min2_int max_two min_two max_three min_three max_four min_four   -- for this text's walks alone
set_option linter.unusedVariables false
set_option linter.unusedSimpArgs false

/-! ### scriniumlaw3_RowsTwins: function 7 -/
mutual
def scriniumlaw3_RowsTwins.j0 : Nat → ByteArray → Int → Bool → Option (Bool)
  | 0, _, _, _ => none
  | k + 1, x0, x1, x23 => if x23 = true then ((scriniumlaw3_alive.f k).bind fun t178 => (some t178)) else (scriniumlaw3_RowsTwins.l0 k x0 x1 ([] : List ByteArray) 0)
def scriniumlaw3_RowsTwins.l0 : Nat → ByteArray → Int → List ByteArray → Int → Option (Bool)
  | 0, _, _, _, _ => none
  | k + 1, x0, x1, x5, x6 => if x6 < x1 then (if x5.length < 8796093022208 then (scriniumlaw3_RowsTwins.l0 k x0 x1 (x5 ++ [x0]) (wrap64 (x6 + 1))) else (none)) else ((rows_Sorted.f x5).bind fun t182 => (if (t182.length : Int) = (wrap64 (x1 * (wrap64 ((x0.size : Int) + 1)))) then (scriniumlaw3_RowsTwins.l1 k x1 t182 (t182.length : Int) 0) else (some false)))
def scriniumlaw3_RowsTwins.l1 : Nat → Int → List (S24) → Int → Int → Option (Bool)
  | 0, _, _, _, _ => none
  | k + 1, x1, x7, x45, x46 => if x46 < x45 then (if 0 ≤ x46 then (if x46 < (x7.length : Int) then (if x1 = 0 then (none) else (if ((rd_T24 x7 x46).f0) = (Int.tmod x46 x1) then (if 0 ≤ (wrap64 (x46 - (Int.tmod x46 x1))) then (if (wrap64 (x46 - (Int.tmod x46 x1))) < (x7.length : Int) then (if ((rd_T24 x7 x46).f1) = ((rd_T24 x7 (wrap64 (x46 - (Int.tmod x46 x1)))).f1) then (scriniumlaw3_RowsTwins.l1 k x1 x7 x45 (wrap64 (x46 + 1))) else (some false)) else (none)) else (none)) else (some false))) else (none)) else (none)) else (some true)
end
def scriniumlaw3_RowsTwins.f (k : Nat) (a0 : ByteArray) (a1 : Int) : Option (Bool) := if (a0.size : Int) > 20 then (scriniumlaw3_RowsTwins.j0 k a0 a1 true) else (if a1 < 1 then (scriniumlaw3_RowsTwins.j0 k a0 a1 true) else (if a1 > 6 then (scriniumlaw3_RowsTwins.j0 k a0 a1 true) else ((scriniumlaw3_alive.f k).bind fun t177 => (scriniumlaw3_RowsTwins.j0 k a0 a1 (!t177)))))
theorem scriniumlaw3_RowsTwins.mono_l : ∀ k, (∀ y0 y1 y2, LeO (scriniumlaw3_RowsTwins.j0 k y0 y1 y2) (scriniumlaw3_RowsTwins.j0 (k + 1) y0 y1 y2)) ∧ (∀ y0 y1 y2 y3, LeO (scriniumlaw3_RowsTwins.l0 k y0 y1 y2 y3) (scriniumlaw3_RowsTwins.l0 (k + 1) y0 y1 y2 y3)) ∧ (∀ y0 y1 y2 y3, LeO (scriniumlaw3_RowsTwins.l1 k y0 y1 y2 y3) (scriniumlaw3_RowsTwins.l1 (k + 1) y0 y1 y2 y3))
  | 0 => ⟨fun _ _ _ r h => by simp [scriniumlaw3_RowsTwins.j0] at h, fun _ _ _ _ r h => by simp [scriniumlaw3_RowsTwins.l0] at h, fun _ _ _ _ r h => by simp [scriniumlaw3_RowsTwins.l1] at h⟩
  | k + 1 => by
    obtain ⟨ih0, ih1, ih2⟩ := scriniumlaw3_RowsTwins.mono_l k
    refine ⟨?_, ?_, ?_⟩
    · intro y0 y1 y2
      unfold scriniumlaw3_RowsTwins.j0
      repeat' first
      | (with_reducible exact ih0 _ _ _)
      | (with_reducible exact ih1 _ _ _ _)
      | (with_reducible exact ih2 _ _ _ _)
      | (with_reducible exact scriniumlaw3_alive.mono _)
      | (with_reducible exact LeO.refl _)
      | (with_reducible exact LeO.none _)
      | (with_reducible refine LeO.ite ?_ ?_)
      | (with_reducible refine LeO.bind ?_ (fun _ => ?_))
      | exact ih0 _ _ _
      | exact ih1 _ _ _ _
      | exact ih2 _ _ _ _
      | exact scriniumlaw3_alive.mono _
      | exact LeO.none _
      | refine LeO.ite ?_ ?_
      | refine LeO.bind ?_ (fun _ => ?_)
    · intro y0 y1 y2 y3
      unfold scriniumlaw3_RowsTwins.l0
      repeat' first
      | (with_reducible exact ih0 _ _ _)
      | (with_reducible exact ih1 _ _ _ _)
      | (with_reducible exact ih2 _ _ _ _)
      | (with_reducible exact scriniumlaw3_alive.mono _)
      | (with_reducible exact LeO.refl _)
      | (with_reducible exact LeO.none _)
      | (with_reducible refine LeO.ite ?_ ?_)
      | (with_reducible refine LeO.bind ?_ (fun _ => ?_))
      | exact ih0 _ _ _
      | exact ih1 _ _ _ _
      | exact ih2 _ _ _ _
      | exact scriniumlaw3_alive.mono _
      | exact LeO.none _
      | refine LeO.ite ?_ ?_
      | refine LeO.bind ?_ (fun _ => ?_)
    · intro y0 y1 y2 y3
      unfold scriniumlaw3_RowsTwins.l1
      repeat' first
      | (with_reducible exact ih0 _ _ _)
      | (with_reducible exact ih1 _ _ _ _)
      | (with_reducible exact ih2 _ _ _ _)
      | (with_reducible exact scriniumlaw3_alive.mono _)
      | (with_reducible exact LeO.refl _)
      | (with_reducible exact LeO.none _)
      | (with_reducible refine LeO.ite ?_ ?_)
      | (with_reducible refine LeO.bind ?_ (fun _ => ?_))
      | exact ih0 _ _ _
      | exact ih1 _ _ _ _
      | exact ih2 _ _ _ _
      | exact scriniumlaw3_alive.mono _
      | exact LeO.none _
      | refine LeO.ite ?_ ?_
      | refine LeO.bind ?_ (fun _ => ?_)
theorem scriniumlaw3_RowsTwins.mono : ∀ a0 a1 k, LeO (scriniumlaw3_RowsTwins.f k a0 a1) (scriniumlaw3_RowsTwins.f (k + 1) a0 a1) := by
  intro a0 a1 k
  obtain ⟨ih0, ih1, ih2⟩ := scriniumlaw3_RowsTwins.mono_l k
  unfold scriniumlaw3_RowsTwins.f
  repeat' first
      | (with_reducible exact ih0 _ _ _)
      | (with_reducible exact ih1 _ _ _ _)
      | (with_reducible exact ih2 _ _ _ _)
      | (with_reducible exact scriniumlaw3_alive.mono _)
      | (with_reducible exact LeO.refl _)
      | (with_reducible exact LeO.none _)
      | (with_reducible refine LeO.ite ?_ ?_)
      | (with_reducible refine LeO.bind ?_ (fun _ => ?_))
      | exact ih0 _ _ _
      | exact ih1 _ _ _ _
      | exact ih2 _ _ _ _
      | exact scriniumlaw3_alive.mono _
      | exact LeO.none _
      | refine LeO.ite ?_ ?_
      | refine LeO.bind ?_ (fun _ => ?_)
set_option maxHeartbeats 8000000 in
set_option maxRecDepth 100000 in
theorem scriniumlaw3_RowsTwins.calls (k : Nat) (a0 : ByteArray) (a1 : Int) (r : Bool) (w : World) (h : scriniumlaw3_RowsTwins.f k a0 a1 = some r) :
    Calls Try.prog 7 #[.string a0, .int .i64 a1] w fun e w' => e = .returned (.bool r) ∧ Below w.heap.size w w' := by
  have HB := Aside0.mk (Below.refl w.heap.size w)
  have H : (if (a0.size : Int) > 20 then (scriniumlaw3_RowsTwins.j0 k a0 a1 true) else (if a1 < 1 then (scriniumlaw3_RowsTwins.j0 k a0 a1 true) else (if a1 > 6 then (scriniumlaw3_RowsTwins.j0 k a0 a1 true) else ((scriniumlaw3_alive.f k).bind fun t177 => (scriniumlaw3_RowsTwins.j0 k a0 a1 (!t177)))))) = some r := h
  clear h
  have HC3 := Aside0.mk H
  clear H
  go_enter Try.func7, Try.ntmps7
  go_upto_region 1 with (fail)
  repeat (go_quiet (fail); go_upto_region 1 with (fail))
  go_cut [23] (fun v23 wc => ∃ (kq : Nat) (x23_2 : Bool), v23 = .bool x23_2 ∧ Aside0 (scriniumlaw3_RowsTwins.j0 kq a0 a1 x23_2 = some r) ∧ Aside0 (kq ≤ k) ∧ Aside0 (Below w.heap.size w wc))
  case first =>
    have H := HC3.out
    clear HC3
    by_cases c4 : (a0.size : Int) > 20
    · rw [if_pos c4] at H
      have c4b0 : decide (20 < (a0.size : Int)) = true := decide_eq_true c4
      have c4b1 : decide (20 < a0.size) = true := decide_eq_true (by omega)
      clear c4
      (first | rw [c4b0] | (simp only [i64_w, i32_w]; rw [c4b0]) | skip)
      have H' := Aside0.mk H
      clear H
      go_wp2
      repeat (go_quiet (fail); try go_wp2)
      go_meet
      case rel => exact ⟨_, (true), (by first | rfl | (simp; done) | (simp [*]; done)), H', ⟨by first | omega | exact Nat.le_refl _⟩, ⟨by repeat (first | (with_reducible first | exact HB.out | apply below_alloc | apply pw_below_drewN | apply below_drew1) | exact HB.out)⟩⟩
    · rw [if_neg c4] at H
      have c4b0 : decide (20 < (a0.size : Int)) = false := decide_eq_false c4
      have c4b1 : decide (20 < a0.size) = false := decide_eq_false (by omega)
      clear c4
      (first | rw [c4b0] | (simp only [i64_w, i32_w]; rw [c4b0]) | skip)
      by_cases c5 : a1 < 1
      · rw [if_pos c5] at H
        have c5b0 : decide (a1 < 1) = true := decide_eq_true c5
        clear c5
        have H' := Aside0.mk H
        clear H
        go_wp2
        repeat (go_quiet (fail); try go_wp2)
        go_meet
        case rel => exact ⟨_, (true), (by first | rfl | (simp; done) | (simp [*]; done)), H', ⟨by first | omega | exact Nat.le_refl _⟩, ⟨by repeat (first | (with_reducible first | exact HB.out | apply below_alloc | apply pw_below_drewN | apply below_drew1) | exact HB.out)⟩⟩
      · rw [if_neg c5] at H
        have c5b0 : decide (a1 < 1) = false := decide_eq_false c5
        clear c5
        by_cases c6 : a1 > 6
        · rw [if_pos c6] at H
          have c6b0 : decide (6 < a1) = true := decide_eq_true c6
          clear c6
          have H' := Aside0.mk H
          clear H
          go_wp2
          repeat (go_quiet (fail); try go_wp2)
          go_meet
          case rel => exact ⟨_, (true), (by first | rfl | (simp; done) | (simp [*]; done)), H', ⟨by first | omega | exact Nat.le_refl _⟩, ⟨by repeat (first | (with_reducible first | exact HB.out | apply below_alloc | apply pw_below_drewN | apply below_drew1) | exact HB.out)⟩⟩
        · rw [if_neg c6] at H
          have c6b0 : decide (6 < a1) = false := decide_eq_false c6
          clear c6
          replace H := Option.bind_eq_some_iff.mp H
          obtain ⟨t177, A70, H⟩ := H
          replace H : (scriniumlaw3_RowsTwins.j0 k a0 a1 (!t177)) = some r := H
          have A7 := Aside0.mk A70
          clear A70
          have H' := Aside0.mk H
          clear H
          go_wp2_with (first | (go_at_call 14; (with_reducible refine (scriniumlaw3_alive.calls k  t177 _ A7.out).mono ?_); rintro e w8 ⟨rfl, hb⟩; have n0_ := Aside0.mk (below_step (by repeat (first | (with_reducible first | exact HB.out | apply below_alloc | apply pw_below_drewN | apply below_drew1) | exact HB.out)) hb); clear HB; have HB := n0_; clear n0_; (try clear hb); (try clear hb2); (try clear hk); (try clear hi)))
          repeat (go_quiet (first | (go_at_call 14; (with_reducible refine (scriniumlaw3_alive.calls k  t177 _ A7.out).mono ?_); rintro e w8 ⟨rfl, hb⟩; have n0_ := Aside0.mk (below_step (by repeat (first | (with_reducible first | exact HB.out | apply below_alloc | apply pw_below_drewN | apply below_drew1) | exact HB.out)) hb); clear HB; have HB := n0_; clear n0_; (try clear hb); (try clear hb2); (try clear hk); (try clear hi))); try go_wp2_with (first | (go_at_call 14; (with_reducible refine (scriniumlaw3_alive.calls k  t177 _ A7.out).mono ?_); rintro e w8 ⟨rfl, hb⟩; have n0_ := Aside0.mk (below_step (by repeat (first | (with_reducible first | exact HB.out | apply below_alloc | apply pw_below_drewN | apply below_drew1) | exact HB.out)) hb); clear HB; have HB := n0_; clear n0_; (try clear hb); (try clear hb2); (try clear hk); (try clear hi))))
          go_meet
          case rel => exact ⟨_, (!t177), (by first | rfl | (simp; done) | (simp [*]; done)), H', ⟨by first | omega | exact Nat.le_refl _⟩, ⟨by repeat (first | (with_reducible first | exact HB.out | apply below_alloc | apply pw_below_drewN | apply below_drew1) | exact HB.out)⟩⟩
  case rest =>
    clear HC3
    try clear p2
    try clear c4
    try clear c4b0
    try clear c4b1
    try clear c5
    try clear c5b0
    try clear c6
    try clear c6b0
    try clear c7
    obtain ⟨kq, x23_2, rfl, HA, HJ2, HB⟩ := hcut
    cases kq with
    | zero => exact absurd HA.out (by simp [scriniumlaw3_RowsTwins.j0])
    | succ kj2 =>
      have H := HA.out
      clear HA
      simp only [scriniumlaw3_RowsTwins.j0] at H
      by_cases c9 : x23_2 = true
      · subst c9
        have H1 : ((scriniumlaw3_alive.f kj2).bind fun t178 => (some t178)) = some r := by rw [if_pos rfl] at H; exact H
        clear H
        have H := H1
        clear H1
        replace H := Option.bind_eq_some_iff.mp H
        obtain ⟨t178, A100, H⟩ := H
        replace H : (some t178) = some r := H
        have A10 := Aside0.mk A100
        clear A100
        obtain rfl := Option.some.inj H
        go_wp2_with (first | (go_at_call 14; (with_reducible refine (scriniumlaw3_alive.calls kj2  t178 _ A10.out).mono ?_); rintro e w11 ⟨rfl, hb⟩; have n0_ := Aside0.mk (below_step (by repeat (first | (with_reducible first | exact HB.out | apply below_alloc | apply pw_below_drewN | apply below_drew1) | exact HB.out)) hb); clear HB; have HB := n0_; clear n0_; (try clear hb); (try clear hb2); (try clear hk); (try clear hi)))
        repeat (go_quiet (first | (go_at_call 14; (with_reducible refine (scriniumlaw3_alive.calls kj2  t178 _ A10.out).mono ?_); rintro e w11 ⟨rfl, hb⟩; have n0_ := Aside0.mk (below_step (by repeat (first | (with_reducible first | exact HB.out | apply below_alloc | apply pw_below_drewN | apply below_drew1) | exact HB.out)) hb); clear HB; have HB := n0_; clear n0_; (try clear hb); (try clear hb2); (try clear hk); (try clear hi))); try go_wp2_with (first | (go_at_call 14; (with_reducible refine (scriniumlaw3_alive.calls kj2  t178 _ A10.out).mono ?_); rintro e w11 ⟨rfl, hb⟩; have n0_ := Aside0.mk (below_step (by repeat (first | (with_reducible first | exact HB.out | apply below_alloc | apply pw_below_drewN | apply below_drew1) | exact HB.out)) hb); clear HB; have HB := n0_; clear n0_; (try clear hb); (try clear hb2); (try clear hk); (try clear hi))))
        go_ret
        exact ⟨by first | rfl | (simp [errW_none, errW_some] <;> rfl) | (simp [*, errW_none, errW_some] <;> rfl), by repeat (first | (with_reducible first | exact HB.out | apply below_alloc | apply pw_below_drewN | apply below_drew1) | exact HB.out)⟩
      · replace c9 := Bool.eq_false_iff.mpr c9
        subst c9
        have H1 : (scriniumlaw3_RowsTwins.l0 kj2 a0 a1 ([] : List ByteArray) 0) = some r := by rw [if_neg (show ¬ (false = true) by decide)] at H; exact H
        clear H
        have H := H1
        clear H1
        have H' := Aside0.mk H
        clear H
        go_wp2
        repeat (go_quiet (fail); try go_wp2)
        go_loopg [5, 6] kj2 (fun kq v5 v6 w' => ∃ (x5_2 : List ByteArray) (x6_2 : Int), v6 = .int .i64 x6_2 ∧ Aside0 (scriniumlaw3_RowsTwins.l0 kq a0 a1 x5_2 x6_2 = some r) ∧ Aside0 (kq ≤ kj2) ∧ Aside0 (Kd.R Kd.string 9 w' w.heap.size (fun _ => True) v5 x5_2) ∧ Aside0 (Below w.heap.size w w'))
        case atStart => exact ⟨(([] : List ByteArray)), (0), (by first | rfl | (simp; done) | (simp [*]; done)), H', ⟨Nat.le_refl _⟩, ⟨by first | exact Kd.R_nil _ _ _ _ _ | exact Kd.N_nil _ _ _ _ _ | exact Kd.V_nil _ _ _ _ _ | exact Kd.Q_nil _ _ _ _ _ | exact Kd.S_nil _ _ _ _ _⟩, ⟨by repeat (first | (with_reducible first | exact HB.out | apply below_alloc | apply pw_below_drewN | apply below_drew1) | exact HB.out)⟩⟩
        case round =>
          clear H'
          try clear p2
          try clear c4
          try clear c4b0
          try clear c4b1
          try clear c5
          try clear c5b0
          try clear c6
          try clear c6b0
          try clear c7
          try clear c9
          try clear p2
          obtain ⟨x5_2, x6_2, rfl, HA, HK2, HO_5, HB⟩ := hrel
          cases gk with
          | zero => exact absurd HA.out (by simp [scriniumlaw3_RowsTwins.l0])
          | succ k2 =>
            have H := HA.out
            clear HA
            simp only [scriniumlaw3_RowsTwins.l0] at H
            by_cases c12 : x6_2 < a1
            · rw [if_pos c12] at H
              have c12b0 : decide (x6_2 < a1) = true := decide_eq_true c12
              clear c12
              by_cases c13 : x5_2.length < 8796093022208
              · rw [if_pos c13] at H
                have LMc13 := Aside0.mk c13
                clear c13
                obtain ⟨y179, hy179⟩ : ∃ y_ : List ByteArray, y_ = (x5_2 ++ [a0]) := ⟨_, rfl⟩
                replace H : (scriniumlaw3_RowsTwins.l0 k2 a0 a1 y179 (wrap64 (x6_2 + 1))) = some r := by first | (rw [hy179]; with_reducible exact H) | (have H2_ := (Option.bind_some _ _).symm.trans H; rw [hy179]; with_reducible exact H2_) | (have H2_ := (Option.bind_some _ _).symm.trans H; with_reducible exact H2_) | with_reducible exact H | (rw [hy179]; exact H) | exact H
                have Ny179 := Aside0.mk hy179
                clear hy179
                have H' := Aside0.mk H
                clear H
                go_wp2_with (first | ((with_reducible refine gate_builtin (b := .append) (xs := #[.tmp 30, .tmp 32]) rfl ?_); at_builtin; refine Kd.R_append Kd.string (w0 := w) w.heap.size rfl (.tmp 30) (.tmp 32) 22 9 (.string ⟨#[]⟩) 16 rfl Try.underlying22 info9 rfl (by decide) (by omega) u5 x5_2 a0 [.string a0] (fun _ => True) (fun _ => False) rfl rfl ?aP (fun _ hk => hk.elim) ?aF ?aO ?aB ?aS ?aL ?_; (case aP => exact rfl); (case aB => exact (by repeat (first | (with_reducible first | exact HB.out | apply below_alloc | apply pw_below_drewN | apply below_drew1) | exact HB.out))); (case aF => exact (fun _ _ => trivial)); (case aO => exact (by (with_reducible repeat (first | apply Kd.R_alloc | apply Kd.R_drewN | apply Kd.R_drew)); exact HO_5.out)); (case aS => exact (below_size (by repeat (first | (with_reducible first | exact HB.out | apply below_alloc | apply pw_below_drewN | apply below_drew1) | exact HB.out)))); (case aL => have := LMc13.out; omega); intro v180 w14 ho hb hg hat; rw [← Ny179.out] at ho; have n0_ := Aside0.mk (hb); have n1_ := Aside0.mk (ho); clear HB; clear HO_5; have HB := n0_; have HO181 := n1_; clear n0_ n1_; clear ho hb hg hat))
                repeat (go_quiet (first | ((with_reducible refine gate_builtin (b := .append) (xs := #[.tmp 30, .tmp 32]) rfl ?_); at_builtin; refine Kd.R_append Kd.string (w0 := w) w.heap.size rfl (.tmp 30) (.tmp 32) 22 9 (.string ⟨#[]⟩) 16 rfl Try.underlying22 info9 rfl (by decide) (by omega) u5 x5_2 a0 [.string a0] (fun _ => True) (fun _ => False) rfl rfl ?aP (fun _ hk => hk.elim) ?aF ?aO ?aB ?aS ?aL ?_; (case aP => exact rfl); (case aB => exact (by repeat (first | (with_reducible first | exact HB.out | apply below_alloc | apply pw_below_drewN | apply below_drew1) | exact HB.out))); (case aF => exact (fun _ _ => trivial)); (case aO => exact (by (with_reducible repeat (first | apply Kd.R_alloc | apply Kd.R_drewN | apply Kd.R_drew)); exact HO_5.out)); (case aS => exact (below_size (by repeat (first | (with_reducible first | exact HB.out | apply below_alloc | apply pw_below_drewN | apply below_drew1) | exact HB.out)))); (case aL => have := LMc13.out; omega); intro v180 w14 ho hb hg hat; rw [← Ny179.out] at ho; have n0_ := Aside0.mk (hb); have n1_ := Aside0.mk (ho); clear HB; clear HO_5; have HB := n0_; have HO181 := n1_; clear n0_ n1_; clear ho hb hg hat)); try go_wp2_with (first | ((with_reducible refine gate_builtin (b := .append) (xs := #[.tmp 30, .tmp 32]) rfl ?_); at_builtin; refine Kd.R_append Kd.string (w0 := w) w.heap.size rfl (.tmp 30) (.tmp 32) 22 9 (.string ⟨#[]⟩) 16 rfl Try.underlying22 info9 rfl (by decide) (by omega) u5 x5_2 a0 [.string a0] (fun _ => True) (fun _ => False) rfl rfl ?aP (fun _ hk => hk.elim) ?aF ?aO ?aB ?aS ?aL ?_; (case aP => exact rfl); (case aB => exact (by repeat (first | (with_reducible first | exact HB.out | apply below_alloc | apply pw_below_drewN | apply below_drew1) | exact HB.out))); (case aF => exact (fun _ _ => trivial)); (case aO => exact (by (with_reducible repeat (first | apply Kd.R_alloc | apply Kd.R_drewN | apply Kd.R_drew)); exact HO_5.out)); (case aS => exact (below_size (by repeat (first | (with_reducible first | exact HB.out | apply below_alloc | apply pw_below_drewN | apply below_drew1) | exact HB.out)))); (case aL => have := LMc13.out; omega); intro v180 w14 ho hb hg hat; rw [← Ny179.out] at ho; have n0_ := Aside0.mk (hb); have n1_ := Aside0.mk (ho); clear HB; clear HO_5; have HB := n0_; have HO181 := n1_; clear n0_ n1_; clear ho hb hg hat)))
                go_roundg k2
                case measure => have := HJ2.out; have := HK2.out; omega
                case rel => exact ⟨(y179), (wrap64 (x6_2 + 1)), (by first | rfl | (simp; done) | (simp [*]; done)), H', ⟨by have := HJ2.out; have := HK2.out; omega⟩, ⟨by (with_reducible repeat (first | apply Kd.R_alloc | apply Kd.R_drewN | apply Kd.R_drew)); exact HO181.out⟩, ⟨by repeat (first | (with_reducible first | exact HB.out | apply below_alloc | apply pw_below_drewN | apply below_drew1) | exact HB.out)⟩⟩
              · rw [if_neg c13] at H
                exact absurd H (by simp)
            · rw [if_neg c12] at H
              have c12b0 : decide (x6_2 < a1) = false := decide_eq_false c12
              clear c12
              replace H := Option.bind_eq_some_iff.mp H
              obtain ⟨t182, A150, H⟩ := H
              replace H : (if (t182.length : Int) = (wrap64 (a1 * (wrap64 ((a0.size : Int) + 1)))) then (scriniumlaw3_RowsTwins.l1 k2 a1 t182 (t182.length : Int) 0) else (some false)) = some r := H
              have A15 := Aside0.mk A150
              clear A150
              by_cases c16 : (t182.length : Int) = (wrap64 (a1 * (wrap64 ((a0.size : Int) + 1))))
              · rw [if_pos c16] at H
                have c16b0 : ((t182.length : Int) == (wrap64 (a1 * (wrap64 ((a0.size : Int) + 1))))) = true := beq_iff_eq.mpr c16
                have c16b1 : ((t182.length : Int) != (wrap64 (a1 * (wrap64 ((a0.size : Int) + 1))))) = false := bne_eq_false_iff_eq.mpr c16
                clear c16
                have H' := Aside0.mk H
                clear H
                obtain ⟨Ao17, co17, eo17⟩ := Kd.R_slice HO_5.out
                subst eo17
                go_wp2_with (first | (go_at_call 16; (with_reducible refine (rows_Sorted.calls _ _ x5_2 t182 _ ?side1 ?side2 A15.out).mono ?_); (case side1 => repeat (first | exact (Kd.R_reads' HO_5.out).2.2 | (with_reducible refine Kd.C_alloc ?_ _) | (with_reducible refine Kd.C_drewN ?_ _) | (with_reducible refine Kd.C_drew ?_))); (case side2 => exact (Kd.R_reads' HO_5.out).2.1); rintro e w18 ⟨v183, rfl, ho0, hb⟩; have n0_ := Aside0.mk (Kd.R_below (by (with_reducible repeat (first | apply Kd.R_alloc | apply Kd.R_drewN | apply Kd.R_drew)); exact HO_5.out) hb); have n1_ := Aside0.mk (Kd.R_lower ho0 (below_size (by repeat (first | (with_reducible first | exact HB.out | apply below_alloc | apply pw_below_drewN | apply below_drew1) | exact HB.out)))); have n2_ := Aside0.mk (below_step (by repeat (first | (with_reducible first | exact HB.out | apply below_alloc | apply pw_below_drewN | apply below_drew1) | exact HB.out)) hb); clear HO_5; clear HB; have HO_5 := n0_; have HO184 := n1_; have HB := n2_; clear n0_ n1_ n2_; (try clear hb); (try clear hb2); (try clear hk); (try clear hi); (try clear ho0); obtain ⟨Ao19, co19, eo19⟩ := Kd.R_slice HO184.out; subst eo19))
                repeat (go_quiet (first | (go_at_call 16; (with_reducible refine (rows_Sorted.calls _ _ x5_2 t182 _ ?side1 ?side2 A15.out).mono ?_); (case side1 => repeat (first | exact (Kd.R_reads' HO_5.out).2.2 | (with_reducible refine Kd.C_alloc ?_ _) | (with_reducible refine Kd.C_drewN ?_ _) | (with_reducible refine Kd.C_drew ?_))); (case side2 => exact (Kd.R_reads' HO_5.out).2.1); rintro e w18 ⟨v183, rfl, ho0, hb⟩; have n0_ := Aside0.mk (Kd.R_below (by (with_reducible repeat (first | apply Kd.R_alloc | apply Kd.R_drewN | apply Kd.R_drew)); exact HO_5.out) hb); have n1_ := Aside0.mk (Kd.R_lower ho0 (below_size (by repeat (first | (with_reducible first | exact HB.out | apply below_alloc | apply pw_below_drewN | apply below_drew1) | exact HB.out)))); have n2_ := Aside0.mk (below_step (by repeat (first | (with_reducible first | exact HB.out | apply below_alloc | apply pw_below_drewN | apply below_drew1) | exact HB.out)) hb); clear HO_5; clear HB; have HO_5 := n0_; have HO184 := n1_; have HB := n2_; clear n0_ n1_ n2_; (try clear hb); (try clear hb2); (try clear hk); (try clear hi); (try clear ho0); obtain ⟨Ao19, co19, eo19⟩ := Kd.R_slice HO184.out; subst eo19)); try go_wp2_with (first | (go_at_call 16; (with_reducible refine (rows_Sorted.calls _ _ x5_2 t182 _ ?side1 ?side2 A15.out).mono ?_); (case side1 => repeat (first | exact (Kd.R_reads' HO_5.out).2.2 | (with_reducible refine Kd.C_alloc ?_ _) | (with_reducible refine Kd.C_drewN ?_ _) | (with_reducible refine Kd.C_drew ?_))); (case side2 => exact (Kd.R_reads' HO_5.out).2.1); rintro e w18 ⟨v183, rfl, ho0, hb⟩; have n0_ := Aside0.mk (Kd.R_below (by (with_reducible repeat (first | apply Kd.R_alloc | apply Kd.R_drewN | apply Kd.R_drew)); exact HO_5.out) hb); have n1_ := Aside0.mk (Kd.R_lower ho0 (below_size (by repeat (first | (with_reducible first | exact HB.out | apply below_alloc | apply pw_below_drewN | apply below_drew1) | exact HB.out)))); have n2_ := Aside0.mk (below_step (by repeat (first | (with_reducible first | exact HB.out | apply below_alloc | apply pw_below_drewN | apply below_drew1) | exact HB.out)) hb); clear HO_5; clear HB; have HO_5 := n0_; have HO184 := n1_; have HB := n2_; clear n0_ n1_ n2_; (try clear hb); (try clear hb2); (try clear hk); (try clear hi); (try clear ho0); obtain ⟨Ao19, co19, eo19⟩ := Kd.R_slice HO184.out; subst eo19)))
                go_loopg [46] k2 (fun kq v46 w' => ∃ (x46_3 : Int), v46 = .int .i64 x46_3 ∧ Aside0 (scriniumlaw3_RowsTwins.l1 kq a1 t182 (t182.length : Int) x46_3 = some r) ∧ Aside0 (kq ≤ k2) ∧ Aside0 (Kd.R k24 24 w' w.heap.size (fun _ => True) (.slice Ao19 t182.length co19) t182) ∧ Aside0 (Below w.heap.size w w'))
                case atStart => exact ⟨(0), (by first | rfl | (simp; done) | (simp [*]; done)), H', ⟨Nat.le_refl _⟩, ⟨by (with_reducible repeat (first | apply Kd.R_alloc | apply Kd.R_drewN | apply Kd.R_drew)); exact HO184.out⟩, ⟨by repeat (first | (with_reducible first | exact HB.out | apply below_alloc | apply pw_below_drewN | apply below_drew1) | exact HB.out)⟩⟩
                case round =>
                  clear H'
                  try clear c1
                  try clear p2
                  try clear c4
                  try clear c4b0
                  try clear c4b1
                  try clear c5
                  try clear c5b0
                  try clear c6
                  try clear c6b0
                  try clear p6
                  try clear c7
                  try clear c9
                  try clear c12
                  try clear c12b0
                  try clear c13
                  try clear c16
                  try clear c16b0
                  try clear c16b1
                  try clear p2
                  obtain ⟨x46_3, rfl, HA, HK3, HO_7, HB⟩ := hrel
                  cases gk with
                  | zero => exact absurd HA.out (by simp [scriniumlaw3_RowsTwins.l1])
                  | succ k3 =>
                    have H := HA.out
                    clear HA
                    simp only [scriniumlaw3_RowsTwins.l1] at H
                    by_cases c20 : x46_3 < (t182.length : Int)
                    · rw [if_pos c20] at H
                      have c20b0 : decide (x46_3 < (t182.length : Int)) = true := decide_eq_true c20
                      clear c20
                      by_cases c21 : 0 ≤ x46_3
                      · rw [if_pos c21] at H
                        have c21b0 : decide (0 ≤ x46_3) = true := decide_eq_true c21
                        clear c21
                        by_cases c22 : x46_3 < (t182.length : Int)
                        · rw [if_pos c22] at H
                          have c22b0 : decide (x46_3 < (t182.length : Int)) = true := decide_eq_true c22
                          clear c22
                          by_cases c23 : a1 = 0
                          · rw [if_pos c23] at H
                            exact absurd H (by simp)
                          · rw [if_neg c23] at H
                            have c23b0 : (a1 == 0) = false := beq_eq_false_iff_ne.mpr c23
                            have c23b1 : (a1 != 0) = true := bne_iff_ne.mpr c23
                            by_cases c24 : ((rd_T24 t182 x46_3).f0) = (Int.tmod x46_3 a1)
                            · rw [if_pos c24] at H
                              have c24b0 : (((rd_T24 t182 x46_3).f0) == (Int.tmod x46_3 a1)) = true := beq_iff_eq.mpr c24
                              have c24b1 : (((rd_T24 t182 x46_3).f0) != (Int.tmod x46_3 a1)) = false := bne_eq_false_iff_eq.mpr c24
                              clear c24
                              obtain ⟨ji25, hji25⟩ : ∃ j_ : Int, (wrap64 (x46_3 - (Int.tmod x46_3 a1))) = j_ := ⟨_, rfl⟩
                              replace H : (if 0 ≤ (ji25) then (if (ji25) < (t182.length : Int) then (if ((rd_T24 t182 x46_3).f1) = ((rd_T24 t182 (ji25)).f1) then (scriniumlaw3_RowsTwins.l1 k3 a1 t182 (t182.length : Int) (wrap64 (x46_3 + 1))) else (some false)) else (none)) else (none)) = some r := by first | (rw [hji25] at H; exact H) | (simp only [hji25] at H ⊢; exact H)
                              have hji25w : (IntKind.i64.wrap (x46_3 - (Int.tmod x46_3 a1))) = ji25 := (i64_w _).trans hji25
                              by_cases c26 : 0 ≤ (ji25)
                              · rw [if_pos c26] at H
                                have c26b0 : decide (0 ≤ (ji25)) = true := decide_eq_true c26
                                clear c26
                                by_cases c27 : (ji25) < (t182.length : Int)
                                · rw [if_pos c27] at H
                                  have c27b0 : decide ((ji25) < (t182.length : Int)) = true := decide_eq_true c27
                                  clear c27
                                  by_cases c28 : ((rd_T24 t182 x46_3).f1) = ((rd_T24 t182 (ji25)).f1)
                                  · rw [if_pos c28] at H
                                    have c28b0 : (((rd_T24 t182 x46_3).f1) == ((rd_T24 t182 (ji25)).f1)) = true := beq_iff_eq.mpr c28
                                    have c28b1 : (((rd_T24 t182 x46_3).f1) != ((rd_T24 t182 (ji25)).f1)) = false := bne_eq_false_iff_eq.mpr c28
                                    clear c28
                                    have H' := Aside0.mk H
                                    clear H
                                    have p185 : 0 ≤ (x46_3 : Int) := of_decide_eq_true (by first | (with_reducible assumption) | assumption)
                                    have q185 : x46_3 < (t182.length : Int) := of_decide_eq_true (by first | (with_reducible assumption) | assumption)
                                    obtain ⟨ad185, e185, hx185_0, hx185_1⟩ := at_T24 (Kd.R_reads' HO_7.out).2.2 x46_3 p185 q185
                                    cases e185
                                    replace p185 := eq_true p185
                                    replace q185 := eq_true q185
                                    have p186 : 0 ≤ (x46_3 : Int) := of_decide_eq_true (by first | (with_reducible assumption) | assumption)
                                    have q186 : x46_3 < (t182.length : Int) := of_decide_eq_true (by first | (with_reducible assumption) | assumption)
                                    obtain ⟨ad186, e186, hx186_0, hx186_1⟩ := at_T24 (Kd.R_reads' HO_7.out).2.2 x46_3 p186 q186
                                    obtain rfl : ad185 = ad186 := (by injection e186)
                                    replace p186 := eq_true p186
                                    replace q186 := eq_true q186
                                    have p187 : 0 ≤ ((ji25) : Int) := of_decide_eq_true (by first | (with_reducible assumption) | assumption)
                                    have q187 : (ji25) < (t182.length : Int) := of_decide_eq_true (by first | (with_reducible assumption) | assumption)
                                    obtain ⟨ad187, e187, hx187_0, hx187_1⟩ := at_T24 (Kd.R_reads' HO_7.out).2.2 (ji25) p187 q187
                                    obtain rfl : ad185 = ad187 := (by injection e187)
                                    replace p187 := eq_true p187
                                    replace q187 := eq_true q187
                                    go_wp2
                                    repeat (go_quiet (fail); try go_wp2)
                                    go_roundg k3
                                    case measure => have := HJ2.out; have := HK2.out; have := HK3.out; omega
                                    case rel => exact ⟨(wrap64 (x46_3 + 1)), (by first | rfl | (simp; done) | (simp [*]; done)), H', ⟨by have := HJ2.out; have := HK2.out; have := HK3.out; omega⟩, ⟨by (with_reducible repeat (first | apply Kd.R_alloc | apply Kd.R_drewN | apply Kd.R_drew)); exact HO_7.out⟩, ⟨by repeat (first | (with_reducible first | exact HB.out | apply below_alloc | apply pw_below_drewN | apply below_drew1) | exact HB.out)⟩⟩
                                  · rw [if_neg c28] at H
                                    have c28b0 : (((rd_T24 t182 x46_3).f1) == ((rd_T24 t182 (ji25)).f1)) = false := beq_eq_false_iff_ne.mpr c28
                                    have c28b1 : (((rd_T24 t182 x46_3).f1) != ((rd_T24 t182 (ji25)).f1)) = true := bne_iff_ne.mpr c28
                                    obtain rfl := Option.some.inj H
                                    have p185 : 0 ≤ (x46_3 : Int) := of_decide_eq_true (by first | (with_reducible assumption) | assumption)
                                    have q185 : x46_3 < (t182.length : Int) := of_decide_eq_true (by first | (with_reducible assumption) | assumption)
                                    obtain ⟨ad185, e185, hx185_0, hx185_1⟩ := at_T24 (Kd.R_reads' HO_7.out).2.2 x46_3 p185 q185
                                    cases e185
                                    replace p185 := eq_true p185
                                    replace q185 := eq_true q185
                                    have p186 : 0 ≤ (x46_3 : Int) := of_decide_eq_true (by first | (with_reducible assumption) | assumption)
                                    have q186 : x46_3 < (t182.length : Int) := of_decide_eq_true (by first | (with_reducible assumption) | assumption)
                                    obtain ⟨ad186, e186, hx186_0, hx186_1⟩ := at_T24 (Kd.R_reads' HO_7.out).2.2 x46_3 p186 q186
                                    obtain rfl : ad185 = ad186 := (by injection e186)
                                    replace p186 := eq_true p186
                                    replace q186 := eq_true q186
                                    have p187 : 0 ≤ ((ji25) : Int) := of_decide_eq_true (by first | (with_reducible assumption) | assumption)
                                    have q187 : (ji25) < (t182.length : Int) := of_decide_eq_true (by first | (with_reducible assumption) | assumption)
                                    obtain ⟨ad187, e187, hx187_0, hx187_1⟩ := at_T24 (Kd.R_reads' HO_7.out).2.2 (ji25) p187 q187
                                    obtain rfl : ad185 = ad187 := (by injection e187)
                                    replace p187 := eq_true p187
                                    replace q187 := eq_true q187
                                    go_wp2
                                    repeat (go_quiet (fail); try go_wp2)
                                    go_ret
                                    exact ⟨by first | rfl | (simp [errW_none, errW_some] <;> rfl) | (simp only [← hji25]; first | rfl | (simp [errW_none, errW_some] <;> rfl)) | (simp [*, errW_none, errW_some] <;> rfl), by repeat (first | (with_reducible first | exact HB.out | apply below_alloc | apply pw_below_drewN | apply below_drew1) | exact HB.out)⟩
                                · rw [if_neg c27] at H
                                  exact absurd H (by simp)
                              · rw [if_neg c26] at H
                                exact absurd H (by simp)
                            · rw [if_neg c24] at H
                              have c24b0 : (((rd_T24 t182 x46_3).f0) == (Int.tmod x46_3 a1)) = false := beq_eq_false_iff_ne.mpr c24
                              have c24b1 : (((rd_T24 t182 x46_3).f0) != (Int.tmod x46_3 a1)) = true := bne_iff_ne.mpr c24
                              obtain rfl := Option.some.inj H
                              have p185 : 0 ≤ (x46_3 : Int) := of_decide_eq_true (by first | (with_reducible assumption) | assumption)
                              have q185 : x46_3 < (t182.length : Int) := of_decide_eq_true (by first | (with_reducible assumption) | assumption)
                              obtain ⟨ad185, e185, hx185_0, hx185_1⟩ := at_T24 (Kd.R_reads' HO_7.out).2.2 x46_3 p185 q185
                              cases e185
                              replace p185 := eq_true p185
                              replace q185 := eq_true q185
                              go_wp2
                              repeat (go_quiet (fail); try go_wp2)
                              go_ret
                              exact ⟨by first | rfl | (simp [errW_none, errW_some] <;> rfl) | (simp [*, errW_none, errW_some] <;> rfl), by repeat (first | (with_reducible first | exact HB.out | apply below_alloc | apply pw_below_drewN | apply below_drew1) | exact HB.out)⟩
                        · rw [if_neg c22] at H
                          exact absurd H (by simp)
                      · rw [if_neg c21] at H
                        exact absurd H (by simp)
                    · rw [if_neg c20] at H
                      have c20b0 : decide (x46_3 < (t182.length : Int)) = false := decide_eq_false c20
                      clear c20
                      obtain rfl := Option.some.inj H
                      go_wp2
                      repeat (go_quiet (fail); try go_wp2)
                      go_ret
                      exact ⟨by first | rfl | (simp [errW_none, errW_some] <;> rfl) | (simp [*, errW_none, errW_some] <;> rfl), by repeat (first | (with_reducible first | exact HB.out | apply below_alloc | apply pw_below_drewN | apply below_drew1) | exact HB.out)⟩
              · rw [if_neg c16] at H
                have c16b0 : ((t182.length : Int) == (wrap64 (a1 * (wrap64 ((a0.size : Int) + 1))))) = false := beq_eq_false_iff_ne.mpr c16
                have c16b1 : ((t182.length : Int) != (wrap64 (a1 * (wrap64 ((a0.size : Int) + 1))))) = true := bne_iff_ne.mpr c16
                obtain rfl := Option.some.inj H
                obtain ⟨Ao29, co29, eo29⟩ := Kd.R_slice HO_5.out
                subst eo29
                go_wp2_with (first | (go_at_call 16; (with_reducible refine (rows_Sorted.calls _ _ x5_2 t182 _ ?side1 ?side2 A15.out).mono ?_); (case side1 => repeat (first | exact (Kd.R_reads' HO_5.out).2.2 | (with_reducible refine Kd.C_alloc ?_ _) | (with_reducible refine Kd.C_drewN ?_ _) | (with_reducible refine Kd.C_drew ?_))); (case side2 => exact (Kd.R_reads' HO_5.out).2.1); rintro e w30 ⟨v183, rfl, ho0, hb⟩; have n0_ := Aside0.mk (Kd.R_below (by (with_reducible repeat (first | apply Kd.R_alloc | apply Kd.R_drewN | apply Kd.R_drew)); exact HO_5.out) hb); have n1_ := Aside0.mk (Kd.R_lower ho0 (below_size (by repeat (first | (with_reducible first | exact HB.out | apply below_alloc | apply pw_below_drewN | apply below_drew1) | exact HB.out)))); have n2_ := Aside0.mk (below_step (by repeat (first | (with_reducible first | exact HB.out | apply below_alloc | apply pw_below_drewN | apply below_drew1) | exact HB.out)) hb); clear HO_5; clear HB; have HO_5 := n0_; have HO184 := n1_; have HB := n2_; clear n0_ n1_ n2_; (try clear hb); (try clear hb2); (try clear hk); (try clear hi); (try clear ho0); obtain ⟨Ao31, co31, eo31⟩ := Kd.R_slice HO184.out; subst eo31))
                repeat (go_quiet (first | (go_at_call 16; (with_reducible refine (rows_Sorted.calls _ _ x5_2 t182 _ ?side1 ?side2 A15.out).mono ?_); (case side1 => repeat (first | exact (Kd.R_reads' HO_5.out).2.2 | (with_reducible refine Kd.C_alloc ?_ _) | (with_reducible refine Kd.C_drewN ?_ _) | (with_reducible refine Kd.C_drew ?_))); (case side2 => exact (Kd.R_reads' HO_5.out).2.1); rintro e w30 ⟨v183, rfl, ho0, hb⟩; have n0_ := Aside0.mk (Kd.R_below (by (with_reducible repeat (first | apply Kd.R_alloc | apply Kd.R_drewN | apply Kd.R_drew)); exact HO_5.out) hb); have n1_ := Aside0.mk (Kd.R_lower ho0 (below_size (by repeat (first | (with_reducible first | exact HB.out | apply below_alloc | apply pw_below_drewN | apply below_drew1) | exact HB.out)))); have n2_ := Aside0.mk (below_step (by repeat (first | (with_reducible first | exact HB.out | apply below_alloc | apply pw_below_drewN | apply below_drew1) | exact HB.out)) hb); clear HO_5; clear HB; have HO_5 := n0_; have HO184 := n1_; have HB := n2_; clear n0_ n1_ n2_; (try clear hb); (try clear hb2); (try clear hk); (try clear hi); (try clear ho0); obtain ⟨Ao31, co31, eo31⟩ := Kd.R_slice HO184.out; subst eo31)); try go_wp2_with (first | (go_at_call 16; (with_reducible refine (rows_Sorted.calls _ _ x5_2 t182 _ ?side1 ?side2 A15.out).mono ?_); (case side1 => repeat (first | exact (Kd.R_reads' HO_5.out).2.2 | (with_reducible refine Kd.C_alloc ?_ _) | (with_reducible refine Kd.C_drewN ?_ _) | (with_reducible refine Kd.C_drew ?_))); (case side2 => exact (Kd.R_reads' HO_5.out).2.1); rintro e w30 ⟨v183, rfl, ho0, hb⟩; have n0_ := Aside0.mk (Kd.R_below (by (with_reducible repeat (first | apply Kd.R_alloc | apply Kd.R_drewN | apply Kd.R_drew)); exact HO_5.out) hb); have n1_ := Aside0.mk (Kd.R_lower ho0 (below_size (by repeat (first | (with_reducible first | exact HB.out | apply below_alloc | apply pw_below_drewN | apply below_drew1) | exact HB.out)))); have n2_ := Aside0.mk (below_step (by repeat (first | (with_reducible first | exact HB.out | apply below_alloc | apply pw_below_drewN | apply below_drew1) | exact HB.out)) hb); clear HO_5; clear HB; have HO_5 := n0_; have HO184 := n1_; have HB := n2_; clear n0_ n1_ n2_; (try clear hb); (try clear hb2); (try clear hk); (try clear hi); (try clear ho0); obtain ⟨Ao31, co31, eo31⟩ := Kd.R_slice HO184.out; subst eo31)))
                go_ret
                exact ⟨by first | rfl | (simp [errW_none, errW_some] <;> rfl) | (simp [*, errW_none, errW_some] <;> rfl), by repeat (first | (with_reducible first | exact HB.out | apply below_alloc | apply pw_below_drewN | apply below_drew1) | exact HB.out)⟩

/-- THE ONE PURE STATEMENT of scriniumlaw3_RowsTwins: yours. -/
def scriniumlaw3_RowsTwins.Pure : Prop := ∀ (a0 : ByteArray) (a1 : Int), a0.size ≤ 140737488351232 → (Lit.int .i64 a1).wf = true → ∃ k, scriniumlaw3_RowsTwins.f k a0 a1 = some true
theorem scriniumlaw3_RowsTwins.walk (P : scriniumlaw3_RowsTwins.Pure) (a0 : ByteArray) (a1 : Int) (w : World) (w0 : a0.size ≤ 140737488351232) (w1 : (Lit.int .i64 a1).wf = true) :
    Calls Try.prog 7 #[.string a0, .int .i64 a1] w fun e w' => e = .returned (.bool true) ∧ Below w.heap.size w w' := by
  obtain ⟨k, h⟩ := P a0 a1 w0 w1
  refine (scriniumlaw3_RowsTwins.calls k a0 a1 true w h).mono ?_
  rintro e w' ⟨rfl, hd⟩
  exact ⟨rfl, hd⟩

end Go.Proofs.Ythoapfagcdbpeaa.P
