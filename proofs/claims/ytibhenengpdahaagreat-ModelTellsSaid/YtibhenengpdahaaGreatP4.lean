-- Printed by myprint.py (a program of this session's, over the kit's print): P
import Derived.Test.YtibhenengpdahaaGreatJA
import Derived.Test.YtibhenengpdahaaGreatJF
namespace Go.Proofs.YtibhenengpdahaaGreat.P
open Go.RowKit Go.Proofs.YtibhenengpdahaaGreatW.PrintWords Go.Proofs.YtibhenengpdahaaGreatW.PrintLast Go.Proofs.YtibhenengpdahaaGreatW.PrintMore
set_option linter.unusedVariables false
set_option linter.unusedSimpArgs false

/-! ### back_Naive: function 22 -/
mutual
def back_Naive.l0 : Nat → ByteArray → List (S68) → List ByteArray → Int → Int → Option ((List (S68)))
 | 0, _, _, _, _, _ => none
 | k + 1, x0, x5, x9, x10, x11 => if x11 < x10 then (if 0 ≤ x11 then (if x11 < (x9.length : Int) then (back_Naive.l1 k x0 x5 x11 (rdOf ByteArray.empty x9 x11) x9 x10 x11 (wrap64 (((rdOf ByteArray.empty x9 x11).size : Int) + 1)) 0) else (none)) else (none)) else (some x5)
def back_Naive.l1 : Nat → ByteArray → List (S68) → Int → ByteArray → List ByteArray → Int → Int → Int → Int → Option ((List (S68)))
 | 0, _, _, _, _, _, _, _, _, _ => none
 | k + 1, x0, x5, x6, x7, x9, x10, x11, x18, x19 => if x19 < x18 then (if 0 ≤ x19 then (if x19 ≤ (x7.size : Int) then ((strings_HasPrefix.f (x7.extract (x19 : Int).toNat x7.size) x0).bind fun t103 => (if t103 = true then (if x5.length < 8796093022208 then (back_Naive.l1 k x0 (x5 ++ [(⟨x6, x19⟩ : S68)]) x6 x7 x9 x10 x11 x18 (wrap64 (x19 + 1))) else (none)) else (back_Naive.l1 k x0 x5 x6 x7 x9 x10 x11 x18 (wrap64 (x19 + 1))))) else (none)) else (none)) else (back_Naive.l0 k x0 x5 x9 x10 (wrap64 (x11 + 1)))
end
def back_Naive.f (k : Nat) (a0 : ByteArray) (l1 : List ByteArray) : Option ((List (S68))) := back_Naive.l0 k a0 ([] : List (S68)) l1 (l1.length : Int) 0
theorem back_Naive.mono_l : ∀ k, (∀ y0 y1 y2 y3 y4, LeO (back_Naive.l0 k y0 y1 y2 y3 y4) (back_Naive.l0 (k + 1) y0 y1 y2 y3 y4)) ∧ (∀ y0 y1 y2 y3 y4 y5 y6 y7 y8, LeO (back_Naive.l1 k y0 y1 y2 y3 y4 y5 y6 y7 y8) (back_Naive.l1 (k + 1) y0 y1 y2 y3 y4 y5 y6 y7 y8))
 | 0 => ⟨fun _ _ _ _ _ r h => by simp [back_Naive.l0] at h, fun _ _ _ _ _ _ _ _ _ r h => by simp [back_Naive.l1] at h⟩
 | k + 1 => by
  obtain ⟨ih0, ih1⟩ := back_Naive.mono_l k
  refine ⟨?_, ?_⟩
  ·intro y0 y1 y2 y3 y4
   unfold back_Naive.l0
   repeat' first
   | (with_reducible exact ih0 _ _ _ _ _)
   | (with_reducible exact ih1 _ _ _ _ _ _ _ _ _)
   | (with_reducible exact LeO.refl _)
   | (with_reducible exact LeO.none _)
   | (with_reducible refine LeO.ite ?_ ?_)
   | (with_reducible refine LeO.bind ?_ (fun _ => ?_))
   | exact ih0 _ _ _ _ _
   | exact ih1 _ _ _ _ _ _ _ _ _
   | exact LeO.none _
   | refine LeO.ite ?_ ?_
   | refine LeO.bind ?_ (fun _ => ?_)
  ·intro y0 y1 y2 y3 y4 y5 y6 y7 y8
   unfold back_Naive.l1
   repeat' first
   | (with_reducible exact ih0 _ _ _ _ _)
   | (with_reducible exact ih1 _ _ _ _ _ _ _ _ _)
   | (with_reducible exact LeO.refl _)
   | (with_reducible exact LeO.none _)
   | (with_reducible refine LeO.ite ?_ ?_)
   | (with_reducible refine LeO.bind ?_ (fun _ => ?_))
   | exact ih0 _ _ _ _ _
   | exact ih1 _ _ _ _ _ _ _ _ _
   | exact LeO.none _
   | refine LeO.ite ?_ ?_
   | refine LeO.bind ?_ (fun _ => ?_)
theorem back_Naive.mono : ∀ a0 a1 k, LeO (back_Naive.f k a0 a1) (back_Naive.f (k + 1) a0 a1) := by
 intro a0 a1 k
 obtain ⟨ih0, ih1⟩ := back_Naive.mono_l k
 unfold back_Naive.f
 repeat' first
   | (with_reducible exact ih0 _ _ _ _ _)
   | (with_reducible exact ih1 _ _ _ _ _ _ _ _ _)
   | (with_reducible exact LeO.refl _)
   | (with_reducible exact LeO.none _)
   | (with_reducible refine LeO.ite ?_ ?_)
   | (with_reducible refine LeO.bind ?_ (fun _ => ?_))
   | exact ih0 _ _ _ _ _
   | exact ih1 _ _ _ _ _ _ _ _ _
   | exact LeO.none _
   | refine LeO.ite ?_ ?_
   | refine LeO.bind ?_ (fun _ => ?_)
set_option maxHeartbeats 8000000 in
set_option maxRecDepth 100000 in
theorem back_Naive.calls (k : Nat) (a0 : ByteArray) (A1 : Option Addr) (c1 : Nat) (l1 : List ByteArray) (r : List (S68)) (w : World) (hr1 : Kd.C Kd.string w A1 l1.length l1) (hc1 : l1.length ≤ c1) (h : back_Naive.f k a0 l1 = some r) :
  Calls Tryz.prog 22 #[.string a0, .slice A1 l1.length c1] w fun e w' => ∃ v0_ : Value, e = .returned (v0_) ∧ Kd.R k68 68 w' w.heap.size (fun _ => True) v0_ r ∧ Below w.heap.size w w' := by
 have hu68 := Tryz.underlying68
 have HR1 := Aside0.mk hr1
 have HC1 := Aside0.mk hc1
 clear hr1 hc1
 have HB := Aside0.mk (Below.refl w.heap.size w)
 have H : (back_Naive.l0 k a0 ([] : List (S68)) l1 (l1.length : Int) 0) = some r := h
 clear h
 have H' := Aside0.mk H
 clear H
 go_enter Tryz.func22, Tryz.ntmps22
 go_wp2
 go_loopg [5, 11] k (fun kq v5 v11 w' => ∃ (x5_1 : List (S68)) (x11_1 : Int), v11 = .int .i64 x11_1 ∧ Aside0 (back_Naive.l0 kq a0 x5_1 l1 (l1.length : Int) x11_1 = some r) ∧ Aside0 (kq ≤ k) ∧ Aside0 (Kd.R k68 68 w' w.heap.size (fun _ => True) v5 x5_1) ∧ Aside0 (Below w.heap.size w w'))
 case atStart => exact ⟨(([] : List (S68))), (0), (by first | rfl | (simp; done) | (simp [*]; done)), H', ⟨Nat.le_refl _⟩, ⟨by first | exact Kd.R_nil _ _ _ _ _ | exact Kd.N_nil _ _ _ _ _ | exact Kd.V_nil _ _ _ _ _ | exact Kd.Q_nil _ _ _ _ _ | exact Kd.S_nil _ _ _ _ _⟩, ⟨by repeat (first | (with_reducible first | exact HB.out | apply below_alloc | apply pw_below_drewN | apply below_drew1) | exact HB.out)⟩⟩
 case round =>
  clear H'
  try clear c1
  try clear c2
  try clear p2
  obtain ⟨x5_1, x11_1, rfl, HA, HK1, HO_5, HB⟩ := hrel
  cases gk with
  | zero => exact absurd HA.out (by simp [back_Naive.l0])
  | succ k1 =>
   have H := HA.out
   clear HA
   simp only [back_Naive.l0] at H
   by_cases c3 : x11_1 < (l1.length : Int)
   ·rw [if_pos c3] at H
    have c3b0 : decide (x11_1 < (l1.length : Int)) = true := decide_eq_true c3
    clear c3
    by_cases c4 : 0 ≤ x11_1
    ·rw [if_pos c4] at H
     have c4b0 : decide (0 ≤ x11_1) = true := decide_eq_true c4
     clear c4
     by_cases c5 : x11_1 < (l1.length : Int)
     ·rw [if_pos c5] at H
      have c5b0 : decide (x11_1 < (l1.length : Int)) = true := decide_eq_true c5
      clear c5
      have H' := Aside0.mk H
      clear H
      have p102 : 0 ≤ (x11_1 : Int) := of_decide_eq_true (by first | (with_reducible assumption) | assumption)
      have q102 : x11_1 < (l1.length : Int) := of_decide_eq_true (by first | (with_reducible assumption) | assumption)
      obtain ⟨ad102, e102, hx102_0⟩ := Kd.at_string HR1.out x11_1 p102 q102
      cases e102
      replace hx102_0 := (HB.out.cell (World.block_lt_of_cell? w _ hx102_0)).trans hx102_0
      replace p102 := eq_true p102
      replace q102 := eq_true q102
      go_wp2
      go_loopg [5, 19] k1 (fun kq v5 v19 w' => ∃ (x5_2 : List (S68)) (x19_2 : Int), v19 = .int .i64 x19_2 ∧ Aside0 (back_Naive.l1 kq a0 x5_2 x11_1 (rdOf ByteArray.empty l1 x11_1) l1 (l1.length : Int) x11_1 (wrap64 (((rdOf ByteArray.empty l1 x11_1).size : Int) + 1)) x19_2 = some r) ∧ Aside0 (kq ≤ k1) ∧ Aside0 (Kd.R k68 68 w' w.heap.size (fun _ => True) v5 x5_2) ∧ Aside0 (Below w.heap.size w w'))
      case atStart => exact ⟨(x5_1), (0), (by first | rfl | (simp; done) | (simp [*]; done)), H', ⟨Nat.le_refl _⟩, ⟨by (with_reducible repeat (first | apply Kd.R_alloc | apply Kd.R_drewN | apply Kd.R_drew)); exact HO_5.out⟩, ⟨by repeat (first | (with_reducible first | exact HB.out | apply below_alloc | apply pw_below_drewN | apply below_drew1) | exact HB.out)⟩⟩
      case round =>
       clear H'
       try clear c1
       try clear p1
       try clear q1
       try clear hx1
       try clear c2
       try clear p2
       try clear c3
       try clear c3b0
       try clear c4
       try clear c4b0
       try clear c5
       try clear c5b0
       try clear hx102_0
       try clear p102
       try clear p2
       try clear q102
       obtain ⟨x5_2, x19_2, rfl, HA, HK2, HO_5, HB⟩ := hrel
       cases gk with
       | zero => exact absurd HA.out (by simp [back_Naive.l1])
       | succ k2 =>
        have H := HA.out
        clear HA
        simp only [back_Naive.l1] at H
        by_cases c6 : x19_2 < (wrap64 (((rdOf ByteArray.empty l1 x11_1).size : Int) + 1))
        ·rw [if_pos c6] at H
         have c6b0 : decide (x19_2 < (wrap64 (((rdOf ByteArray.empty l1 x11_1).size : Int) + 1))) = true := decide_eq_true c6
         clear c6
         by_cases c7 : 0 ≤ x19_2
         ·rw [if_pos c7] at H
          have c7b0 := eq_true c7
          have c7b1 : decide (0 ≤ x19_2) = true := decide_eq_true c7
          clear c7
          by_cases c8 : x19_2 ≤ ((rdOf ByteArray.empty l1 x11_1).size : Int)
          ·rw [if_pos c8] at H
           have c8b0 := eq_true c8
           have c8b1 : decide (x19_2 ≤ ((rdOf ByteArray.empty l1 x11_1).size : Int)) = true := decide_eq_true c8
           clear c8
           replace H := Option.bind_eq_some_iff.mp H
           obtain ⟨t103, A90, H⟩ := H
           replace H : (if t103 = true then (if x5_2.length < 8796093022208 then (back_Naive.l1 k2 a0 (x5_2 ++ [(⟨x11_1, x19_2⟩ : S68)]) x11_1 (rdOf ByteArray.empty l1 x11_1) l1 (l1.length : Int) x11_1 (wrap64 (((rdOf ByteArray.empty l1 x11_1).size : Int) + 1)) (wrap64 (x19_2 + 1))) else (none)) else (back_Naive.l1 k2 a0 x5_2 x11_1 (rdOf ByteArray.empty l1 x11_1) l1 (l1.length : Int) x11_1 (wrap64 (((rdOf ByteArray.empty l1 x11_1).size : Int) + 1)) (wrap64 (x19_2 + 1)))) = some r := H
           have A9 := Aside0.mk A90
           clear A90
           by_cases c10 : t103 = true
           ·subst c10
            have H1 : (if x5_2.length < 8796093022208 then (back_Naive.l1 k2 a0 (x5_2 ++ [(⟨x11_1, x19_2⟩ : S68)]) x11_1 (rdOf ByteArray.empty l1 x11_1) l1 (l1.length : Int) x11_1 (wrap64 (((rdOf ByteArray.empty l1 x11_1).size : Int) + 1)) (wrap64 (x19_2 + 1))) else (none)) = some r := by rw [if_pos rfl] at H; exact H
            clear H
            have H := H1
            clear H1
            by_cases c11 : x5_2.length < 8796093022208
            ·rw [if_pos c11] at H
             have LMc11 := Aside0.mk c11
             clear c11
             obtain ⟨y104, hy104⟩ : ∃ y_ : List (S68), y_ = (x5_2 ++ [(⟨x11_1, x19_2⟩ : S68)]) := ⟨_, rfl⟩
             replace H : (back_Naive.l1 k2 a0 y104 x11_1 (rdOf ByteArray.empty l1 x11_1) l1 (l1.length : Int) x11_1 (wrap64 (((rdOf ByteArray.empty l1 x11_1).size : Int) + 1)) (wrap64 (x19_2 + 1))) = some r := by first | (rw [hy104]; with_reducible exact H) | (have H2_ := (Option.bind_some _ _).symm.trans H; rw [hy104]; with_reducible exact H2_) | (have H2_ := (Option.bind_some _ _).symm.trans H; with_reducible exact H2_) | with_reducible exact H | (rw [hy104]; exact H) | exact H
             have Ny104 := Aside0.mk hy104
             clear hy104
             have H' := Aside0.mk H
             clear H
             go_wp2_with (first | ((with_reducible refine gate_callee (f := 73) rfl ?_); refine goesL_ (some 26) rfl rfl Tryz.func73 (by kernel_rfl) rfl #[.string ((rdOf ByteArray.empty l1 x11_1).extract (x19_2 : Int).toNat (rdOf ByteArray.empty l1 x11_1).size), .string a0] rfl (by (try simp only [List.map_toArray, List.map_cons, List.map_nil]); first | done | rfl | (simp only [List.length_drop, List.length_take]; rfl)) ?_; (with_reducible refine (strings_HasPrefix.calls ((rdOf ByteArray.empty l1 x11_1).extract (x19_2 : Int).toNat (rdOf ByteArray.empty l1 x11_1).size) a0 true _ A9.out).mono ?_); rintro e w' ⟨rfl, ⟨nd, rfl⟩⟩; refine ⟨_, rfl, ?_⟩) | ((with_reducible refine gate_builtin (b := .append) (xs := #[.tmp 27, .tmp 31]) rfl ?_); at_builtin; refine Kd.R_append k68 (w0 := w) w.heap.size rfl (.tmp 27) (.tmp 31) 63 68 (.agg #[(.int .i64 0), (.int .i64 0)]) 16 rfl Tryz.underlying63 info68 rfl (by decide) (by omega) u5 x5_2 (⟨x11_1, x19_2⟩ : S68) [.int .i64 x11_1, .int .i64 x19_2] (fun _ => True) (fun _ => False) rfl rfl ?aP (fun _ hk => hk.elim) ?aF ?aO ?aB ?aS ?aL ?_; (case aP => exact k68_mkM _ _ _ (⟨x11_1, x19_2⟩ : S68)); (case aB => exact (by repeat (first | (with_reducible first | exact HB.out | apply below_alloc | apply pw_below_drewN | apply below_drew1) | exact HB.out))); (case aF => exact (fun _ _ => trivial)); (case aO => exact (by (with_reducible repeat (first | apply Kd.R_alloc | apply Kd.R_drewN | apply Kd.R_drew)); exact HO_5.out)); (case aS => exact (below_size (by repeat (first | (with_reducible first | exact HB.out | apply below_alloc | apply pw_below_drewN | apply below_drew1) | exact HB.out)))); (case aL => have := LMc11.out; omega); intro v105 w12 ho hb hg hat; rw [← Ny104.out] at ho; have n0_ := Aside0.mk (hb); have n1_ := Aside0.mk (ho); clear HB; clear HO_5; have HB := n0_; have HO106 := n1_; clear n0_ n1_; clear ho hb hg hat))
             go_roundg k2
             case measure => have := HK1.out; have := HK2.out; omega
             case rel => exact ⟨(y104), (wrap64 (x19_2 + 1)), (by first | rfl | (simp; done) | (simp [*]; done)), H', ⟨by have := HK1.out; have := HK2.out; omega⟩, ⟨by (with_reducible repeat (first | apply Kd.R_alloc | apply Kd.R_drewN | apply Kd.R_drew)); exact HO106.out⟩, ⟨by repeat (first | (with_reducible first | exact HB.out | apply below_alloc | apply pw_below_drewN | apply below_drew1) | exact HB.out)⟩⟩
            ·rw [if_neg c11] at H
             exact absurd H (by simp)
           ·replace c10 := Bool.eq_false_iff.mpr c10
            subst c10
            have H1 : (back_Naive.l1 k2 a0 x5_2 x11_1 (rdOf ByteArray.empty l1 x11_1) l1 (l1.length : Int) x11_1 (wrap64 (((rdOf ByteArray.empty l1 x11_1).size : Int) + 1)) (wrap64 (x19_2 + 1))) = some r := by rw [if_neg (show ¬ (false = true) by decide)] at H; exact H
            clear H
            have H := H1
            clear H1
            have H' := Aside0.mk H
            clear H
            go_wp2_with (first | ((with_reducible refine gate_callee (f := 73) rfl ?_); refine goesL_ (some 26) rfl rfl Tryz.func73 (by kernel_rfl) rfl #[.string ((rdOf ByteArray.empty l1 x11_1).extract (x19_2 : Int).toNat (rdOf ByteArray.empty l1 x11_1).size), .string a0] rfl (by (try simp only [List.map_toArray, List.map_cons, List.map_nil]); first | done | rfl | (simp only [List.length_drop, List.length_take]; rfl)) ?_; (with_reducible refine (strings_HasPrefix.calls ((rdOf ByteArray.empty l1 x11_1).extract (x19_2 : Int).toNat (rdOf ByteArray.empty l1 x11_1).size) a0 false _ A9.out).mono ?_); rintro e w' ⟨rfl, ⟨nd, rfl⟩⟩; refine ⟨_, rfl, ?_⟩))
            go_roundg k2
            case measure => have := HK1.out; have := HK2.out; omega
            case rel => exact ⟨(x5_2), (wrap64 (x19_2 + 1)), (by first | rfl | (simp; done) | (simp [*]; done)), H', ⟨by have := HK1.out; have := HK2.out; omega⟩, ⟨by (with_reducible repeat (first | apply Kd.R_alloc | apply Kd.R_drewN | apply Kd.R_drew)); exact HO_5.out⟩, ⟨by repeat (first | (with_reducible first | exact HB.out | apply below_alloc | apply pw_below_drewN | apply below_drew1) | exact HB.out)⟩⟩
          ·rw [if_neg c8] at H
           exact absurd H (by simp)
         ·rw [if_neg c7] at H
          exact absurd H (by simp)
        ·rw [if_neg c6] at H
         have c6b0 : decide (x19_2 < (wrap64 (((rdOf ByteArray.empty l1 x11_1).size : Int) + 1))) = false := decide_eq_false c6
         clear c6
         have H' := Aside0.mk H
         clear H
         go_wp2
         go_roundg k2
         case measure => have := HK1.out; have := HK2.out; omega
         case rel => exact ⟨(x5_2), (wrap64 (x11_1 + 1)), (by first | rfl | (simp; done) | (simp [*]; done)), H', ⟨by have := HK1.out; have := HK2.out; omega⟩, ⟨by (with_reducible repeat (first | apply Kd.R_alloc | apply Kd.R_drewN | apply Kd.R_drew)); exact HO_5.out⟩, ⟨by repeat (first | (with_reducible first | exact HB.out | apply below_alloc | apply pw_below_drewN | apply below_drew1) | exact HB.out)⟩⟩
     ·rw [if_neg c5] at H
      exact absurd H (by simp)
    ·rw [if_neg c4] at H
     exact absurd H (by simp)
   ·rw [if_neg c3] at H
    have c3b0 : decide (x11_1 < (l1.length : Int)) = false := decide_eq_false c3
    clear c3
    obtain rfl := Option.some.inj H
    go_wp2
    go_ret
    exact ⟨_, by first | rfl | (simp [errW_none, errW_some] <;> rfl) | (simp [*, errW_none, errW_some] <;> rfl), by (with_reducible repeat (first | apply Kd.R_alloc | apply Kd.R_drewN | apply Kd.R_drew)); exact HO_5.out, by repeat (first | (with_reducible first | exact HB.out | apply below_alloc | apply pw_below_drewN | apply below_drew1) | exact HB.out)⟩

end Go.Proofs.YtibhenengpdahaaGreat.P
