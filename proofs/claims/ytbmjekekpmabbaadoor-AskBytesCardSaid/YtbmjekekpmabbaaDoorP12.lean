-- Printed by myprint.py (a program of this session's, over the kit's print): P
import Derived.Test.YtbmjekekpmabbaaDoorP0
import Derived.Test.YtbmjekekpmabbaaDoorP1
import Derived.Test.YtbmjekekpmabbaaDoorP7
import Derived.Test.YtbmjekekpmabbaaDoorP8
import Derived.Test.YtbmjekekpmabbaaDoorAskG
namespace Go.Proofs.YtbmjekekpmabbaaDoor.P
open Go.RowKit Go.Proofs.YtbmjekekpmabbaaDoorW.PrintWords Go.Proofs.YtbmjekekpmabbaaDoorW.PrintLast Go.Proofs.YtbmjekekpmabbaaDoorW.PrintMore
attribute [local go_sem] max2_int min2_int max_two min_two max_three min_three max_four min_four   -- for this text's walks alone
set_option linter.unusedVariables false
set_option linter.unusedSimpArgs false

attribute [local go_sem high] eqA23
/-! ### scriniumlaw20_AskBytes: function 8 -/
def scriniumlaw20_AskBytes.j0 : Nat → Int → Int → Bool → Int → Int → Int → Int → Int → ByteArray → Option (Bool)
  | 0, _, _, _, _, _, _, _, _, _ => none
  | k + 1, x1, x2, x23, x359000, x359001, x359002, x359003, x359004, x359005 => if x23 = true then ((scriniumlaw20_alive.f k).bind fun t360 => (some t360)) else ((ask_Put.f k x359000 x359001 x359002 x359003 x359004 x359005).bind fun bt361 => (if bt361.2 = true then (if (bt361.1.size : Int) = 0 then (some (!bt361.2)) else (if 0 ≤ (Int.tmod (wrap64 ((Int.tmod x1 (bt361.1.size : Int)) + (bt361.1.size : Int))) (bt361.1.size : Int)) then (if (Int.tmod (wrap64 ((Int.tmod x1 (bt361.1.size : Int)) + (bt361.1.size : Int))) (bt361.1.size : Int)) ≤ (bt361.1.size : Int) then (if (Int.tmod (wrap64 ((Int.tmod x1 (bt361.1.size : Int)) + (bt361.1.size : Int))) (bt361.1.size : Int)) < (bt361.1.size : Int) then ((some (([Go.bits .xor .u8 (bt bt361.1 (Int.tmod (wrap64 ((Int.tmod x1 (bt361.1.size : Int)) + (bt361.1.size : Int))) (bt361.1.size : Int))) x2] : List Int) : List Int)).bind fun y363 => (if (bt361.1.extract 0 ((Int.tmod (wrap64 ((Int.tmod x1 (bt361.1.size : Int)) + (bt361.1.size : Int))) (bt361.1.size : Int)) : Int).toNat).size + (strOfNums y363).size ≤ 9223372036854775807 then (if 0 ≤ (wrap64 ((Int.tmod (wrap64 ((Int.tmod x1 (bt361.1.size : Int)) + (bt361.1.size : Int))) (bt361.1.size : Int)) + 1)) then (if (wrap64 ((Int.tmod (wrap64 ((Int.tmod x1 (bt361.1.size : Int)) + (bt361.1.size : Int))) (bt361.1.size : Int)) + 1)) ≤ (bt361.1.size : Int) then (if ((bt361.1.extract 0 ((Int.tmod (wrap64 ((Int.tmod x1 (bt361.1.size : Int)) + (bt361.1.size : Int))) (bt361.1.size : Int)) : Int).toNat) ++ (strOfNums y363)).size + (bt361.1.extract ((wrap64 ((Int.tmod (wrap64 ((Int.tmod x1 (bt361.1.size : Int)) + (bt361.1.size : Int))) (bt361.1.size : Int)) + 1)) : Int).toNat bt361.1.size).size ≤ 9223372036854775807 then ((ask_Get.f (((bt361.1.extract 0 ((Int.tmod (wrap64 ((Int.tmod x1 (bt361.1.size : Int)) + (bt361.1.size : Int))) (bt361.1.size : Int)) : Int).toNat) ++ (strOfNums y363)) ++ (bt361.1.extract ((wrap64 ((Int.tmod (wrap64 ((Int.tmod x1 (bt361.1.size : Int)) + (bt361.1.size : Int))) (bt361.1.size : Int)) + 1)) : Int).toNat bt361.1.size))).bind fun bt366 => (if bt366.2.2.2.2.2.2 = true then (some (!(bt366.1 == x359000) || (!(bt366.2.1 == x359001) || (!(bt366.2.2.1 == x359002) || (!(bt366.2.2.2.1 == x359003) || (!(bt366.2.2.2.2.1 == x359004) || (!(bt366.2.2.2.2.2.1.toList == x359005.toList)))))))) else (some true))) else (none)) else (none)) else (none)) else (none))) else (none)) else (none)) else (none))) else (some (!bt361.2))))
def scriniumlaw20_AskBytes.f (k : Nat) (a0_0 : Int) (a0_1 : Int) (a0_2 : Int) (a0_3 : Int) (a0_4 : Int) (a0_5 : ByteArray) (a1 : Int) (a2 : Int) : Option (Bool) := if (a0_5.size : Int) > 100 then (scriniumlaw20_AskBytes.j0 k a1 a2 true a0_0 a0_1 a0_2 a0_3 a0_4 a0_5) else (if a2 = 0 then (scriniumlaw20_AskBytes.j0 k a1 a2 true a0_0 a0_1 a0_2 a0_3 a0_4 a0_5) else ((scriniumlaw20_alive.f k).bind fun t359 => (scriniumlaw20_AskBytes.j0 k a1 a2 (!t359) a0_0 a0_1 a0_2 a0_3 a0_4 a0_5)))
theorem scriniumlaw20_AskBytes.mono_l : ∀ k, (∀ y0 y1 y2 y3 y4 y5 y6 y7 y8, LeO (scriniumlaw20_AskBytes.j0 k y0 y1 y2 y3 y4 y5 y6 y7 y8) (scriniumlaw20_AskBytes.j0 (k + 1) y0 y1 y2 y3 y4 y5 y6 y7 y8))
  | 0 => fun _ _ _ _ _ _ _ _ _ r h => by simp [scriniumlaw20_AskBytes.j0] at h
  | k + 1 => by
    have ih0 := scriniumlaw20_AskBytes.mono_l k
    · intro y0 y1 y2 y3 y4 y5 y6 y7 y8
      unfold scriniumlaw20_AskBytes.j0
      repeat' first
      | (with_reducible exact ih0 _ _ _ _ _ _ _ _ _)
      | (with_reducible exact ask_Put.mono _ _ _ _ _ _ _)
      | (with_reducible exact scriniumlaw20_alive.mono _)
      | (with_reducible exact LeO.refl _)
      | (with_reducible exact LeO.none _)
      | (with_reducible refine LeO.ite ?_ ?_)
      | (with_reducible refine LeO.bind ?_ (fun _ => ?_))
      | exact ih0 _ _ _ _ _ _ _ _ _
      | exact ask_Put.mono _ _ _ _ _ _ _
      | exact scriniumlaw20_alive.mono _
      | exact LeO.none _
      | refine LeO.ite ?_ ?_
      | refine LeO.bind ?_ (fun _ => ?_)
theorem scriniumlaw20_AskBytes.mono : ∀ a0 a1 a2 a3 a4 a5 a6 a7 k, LeO (scriniumlaw20_AskBytes.f k a0 a1 a2 a3 a4 a5 a6 a7) (scriniumlaw20_AskBytes.f (k + 1) a0 a1 a2 a3 a4 a5 a6 a7) := by
  intro a0 a1 a2 a3 a4 a5 a6 a7 k
  have ih0 := scriniumlaw20_AskBytes.mono_l k
  unfold scriniumlaw20_AskBytes.f
  repeat' first
      | (with_reducible exact ih0 _ _ _ _ _ _ _ _ _)
      | (with_reducible exact ask_Put.mono _ _ _ _ _ _ _)
      | (with_reducible exact scriniumlaw20_alive.mono _)
      | (with_reducible exact LeO.refl _)
      | (with_reducible exact LeO.none _)
      | (with_reducible refine LeO.ite ?_ ?_)
      | (with_reducible refine LeO.bind ?_ (fun _ => ?_))
      | exact ih0 _ _ _ _ _ _ _ _ _
      | exact ask_Put.mono _ _ _ _ _ _ _
      | exact scriniumlaw20_alive.mono _
      | exact LeO.none _
      | refine LeO.ite ?_ ?_
      | refine LeO.bind ?_ (fun _ => ?_)
def scriniumlaw20_AskBytes.T7 : Bool × List (List Nat × List Nat) := (true, [([], []), ([], []), ([0, 1], [0, 1]), ([], []), ([], []), ([3, 4], [3, 4]), ([], []), ([5, 6], [5, 6]), ([7], [7]), ([8], [8]), ([2, 9], [2, 9]), ([], []), ([], []), ([12], [12]), ([11, 13], [11, 13]), ([10, 14], [10, 14]), ([15], [15]), ([16], [16]), ([17], [17]), ([17], [17]), ([], []), ([20, 18, 16, 0, 1, 2, 3, 4, 5, 6, 7, 8, 9, 10, 11, 12, 13, 14, 15, 16, 17, 18, 20], [18, 20]), ([19, 21, 0, 1, 2, 3, 4, 5, 6, 7, 8, 9, 10, 11, 12, 13, 14, 15, 16, 17, 18, 19, 20, 21], [19])])
def scriniumlaw20_AskBytes.B7 : List Nat := [0, 0, 3, 0, 0, 24, 0, 120, 248, 504, 1023, 0, 0, 4096, 14336, 32767, 65535, 131071, 262143, 262143, 0, 1572863, 4194303]
theorem scriniumlaw20_AskBytes.tab7 : rtab .any (opsOf Tryd.f8 7) = scriniumlaw20_AskBytes.T7 := by kernel_rfl
theorem scriniumlaw20_AskBytes.bits7 : waitsOk scriniumlaw20_AskBytes.T7.2 scriniumlaw20_AskBytes.B7 = true := by kernel_rfl
set_option maxHeartbeats 8000000 in
set_option maxRecDepth 100000 in
theorem scriniumlaw20_AskBytes.calls (k : Nat) (a0_0 : Int) (a0_1 : Int) (a0_2 : Int) (a0_3 : Int) (a0_4 : Int) (a0_5 : ByteArray) (a1 : Int) (a2 : Int) (r : Bool) (w : World) (h : scriniumlaw20_AskBytes.f k a0_0 a0_1 a0_2 a0_3 a0_4 a0_5 a1 a2 = some r) :
    Calls Tryd.prog 8 #[.agg #[.int .i64 a0_0, .int .i64 a0_1, .int .i64 a0_2, .int .i64 a0_3, .int .i64 a0_4, .string a0_5], .int .i64 a1, .int .u8 a2] w fun e w' => e = .returned (.bool r) ∧ Below w.heap.size w w' := by
  have hu23 := Tryd.underlying23
  have HB := Aside0.mk (Below.refl w.heap.size w)
  have H : (if (a0_5.size : Int) > 100 then (scriniumlaw20_AskBytes.j0 k a1 a2 true a0_0 a0_1 a0_2 a0_3 a0_4 a0_5) else (if a2 = 0 then (scriniumlaw20_AskBytes.j0 k a1 a2 true a0_0 a0_1 a0_2 a0_3 a0_4 a0_5) else ((scriniumlaw20_alive.f k).bind fun t359 => (scriniumlaw20_AskBytes.j0 k a1 a2 (!t359) a0_0 a0_1 a0_2 a0_3 a0_4 a0_5)))) = some r := h
  clear h
  have HC4 := Aside0.mk H
  clear H
  go_enter Tryd.func8, Tryd.ntmps8
  go_upto_region 1 with (first | ((with_reducible refine gate_dst (N := 3) rfl ?_); (try (refine gate_guard (by rfl) ?_; dsimp only)); refine box_event ?hg (N := 3) ?hd (cs := #[.int .i64 a0_0, .int .i64 a0_1, .int .i64 a0_2, .int .i64 a0_3, .int .i64 a0_4, .string a0_5]) (t := 23) ?hr ?_; (case hd => rfl); (case hg => rfl); (case hr => first | (go_simp; done) | (go_simp; rfl)); intro gb358 hg w5 hbox hb; have n0_ := Aside0.mk (below_step (by repeat (first | (with_reducible first | exact HB.out | apply below_alloc | apply pw_below_drewN | apply below_drew1) | exact HB.out)) hb); have n1_ := Aside0.mk (hbox); have n2_ := Aside0.mk ((by rw [hg]; exact (below_size (by repeat (first | (with_reducible first | exact HB.out | apply below_alloc | apply pw_below_drewN | apply below_drew1) | exact HB.out))) : w.heap.size ≤ gb358)); have n3_ := Aside0.mk ((by rw [hg]; exact (below_size (by repeat (first | (with_reducible first | exact HB.out | apply below_alloc | apply pw_below_drewN | apply below_drew1) | exact HB.out))) : w.heap.size ≤ gb358)); clear HB; have HB := n0_; have BK358 := n1_; have GW358 := n2_; have GE358 := n3_; clear n0_ n1_ n2_ n3_; clear hb hbox hg))
  (try simp only [Act.put, List.setIfInBounds_toArray, List.set_cons_zero, List.set_cons_succ])
  go_cut [23] (fun v23 wc => ∃ (kq : Nat) (x23_3 : Bool), v23 = .bool x23_3 ∧ Aside0 (scriniumlaw20_AskBytes.j0 kq a1 a2 x23_3 a0_0 a0_1 a0_2 a0_3 a0_4 a0_5 = some r) ∧ Aside0 (kq ≤ k) ∧ Aside0 (wc.heap[gb358]? = some (.cells #[.int .i64 a0_0, .int .i64 a0_1, .int .i64 a0_2, .int .i64 a0_3, .int .i64 a0_4, .string a0_5] 23 (0, 0))) ∧ Aside0 (Below w.heap.size w wc))
  case first =>
    have H := HC4.out
    clear HC4
    by_cases c6 : (a0_5.size : Int) > 100
    · rw [if_pos c6] at H
      have c6b0 : decide (100 < (a0_5.size : Int)) = true := decide_eq_true c6
      have c6b1 : decide (100 < a0_5.size) = true := decide_eq_true (by omega)
      clear c6
      (first | rw [c6b0] | (simp only [i64_w, i32_w]; rw [c6b0]) | skip)
      have H' := Aside0.mk H
      clear H
      have hcz7_0 : w5.cell? ⟨gb358, 0, none⟩ = some (.int .i64 a0_0) := (blk_cell BK358.out 0).trans rfl
      have hcz7_1 : w5.cell? ⟨gb358, 1, none⟩ = some (.int .i64 a0_1) := (blk_cell BK358.out 1).trans rfl
      have hcz7_2 : w5.cell? ⟨gb358, 2, none⟩ = some (.int .i64 a0_2) := (blk_cell BK358.out 2).trans rfl
      have hcz7_3 : w5.cell? ⟨gb358, 3, none⟩ = some (.int .i64 a0_3) := (blk_cell BK358.out 3).trans rfl
      have hcz7_4 : w5.cell? ⟨gb358, 4, none⟩ = some (.int .i64 a0_4) := (blk_cell BK358.out 4).trans rfl
      have hcz7_5 : w5.cell? ⟨gb358, 5, none⟩ = some (.string a0_5) := (blk_cell BK358.out 5).trans rfl
      have hfz7_0 := blk_frozen BK358.out 0
      have hfz7_1 := blk_frozen BK358.out 1
      have hfz7_2 := blk_frozen BK358.out 2
      have hfz7_3 := blk_frozen BK358.out 3
      have hfz7_4 := blk_frozen BK358.out 4
      have hfz7_5 := blk_frozen BK358.out 5
      go_wp2
      go_meet
      case rel => exact ⟨_, (true), (by first | rfl | (simp; done) | (simp [*]; done)), H', ⟨by first | omega | exact Nat.le_refl _⟩, ⟨by (with_reducible repeat (first | refine blk_drewN ?_ _ | refine blk_drew ?_ | refine blk_alloc ?_ _)); exact BK358.out⟩, ⟨by repeat (first | (with_reducible first | exact HB.out | apply below_alloc | apply pw_below_drewN | apply below_drew1 | refine below_set ?_ GE358.out) | exact HB.out)⟩⟩
    · rw [if_neg c6] at H
      have c6b0 : decide (100 < (a0_5.size : Int)) = false := decide_eq_false c6
      have c6b1 : decide (100 < a0_5.size) = false := decide_eq_false (by omega)
      clear c6
      (first | rw [c6b0] | (simp only [i64_w, i32_w]; rw [c6b0]) | skip)
      by_cases c8 : a2 = 0
      · rw [if_pos c8] at H
        have c8b0 : (a2 == 0) = true := beq_iff_eq.mpr c8
        have c8b1 : (a2 != 0) = false := bne_eq_false_iff_eq.mpr c8
        clear c8
        have H' := Aside0.mk H
        clear H
        have hcz9_0 : w5.cell? ⟨gb358, 0, none⟩ = some (.int .i64 a0_0) := (blk_cell BK358.out 0).trans rfl
        have hcz9_1 : w5.cell? ⟨gb358, 1, none⟩ = some (.int .i64 a0_1) := (blk_cell BK358.out 1).trans rfl
        have hcz9_2 : w5.cell? ⟨gb358, 2, none⟩ = some (.int .i64 a0_2) := (blk_cell BK358.out 2).trans rfl
        have hcz9_3 : w5.cell? ⟨gb358, 3, none⟩ = some (.int .i64 a0_3) := (blk_cell BK358.out 3).trans rfl
        have hcz9_4 : w5.cell? ⟨gb358, 4, none⟩ = some (.int .i64 a0_4) := (blk_cell BK358.out 4).trans rfl
        have hcz9_5 : w5.cell? ⟨gb358, 5, none⟩ = some (.string a0_5) := (blk_cell BK358.out 5).trans rfl
        have hfz9_0 := blk_frozen BK358.out 0
        have hfz9_1 := blk_frozen BK358.out 1
        have hfz9_2 := blk_frozen BK358.out 2
        have hfz9_3 := blk_frozen BK358.out 3
        have hfz9_4 := blk_frozen BK358.out 4
        have hfz9_5 := blk_frozen BK358.out 5
        go_wp2
        go_meet
        case rel => exact ⟨_, (true), (by first | rfl | (simp; done) | (simp [*]; done)), H', ⟨by first | omega | exact Nat.le_refl _⟩, ⟨by (with_reducible repeat (first | refine blk_drewN ?_ _ | refine blk_drew ?_ | refine blk_alloc ?_ _)); exact BK358.out⟩, ⟨by repeat (first | (with_reducible first | exact HB.out | apply below_alloc | apply pw_below_drewN | apply below_drew1 | refine below_set ?_ GE358.out) | exact HB.out)⟩⟩
      · rw [if_neg c8] at H
        have c8b0 : (a2 == 0) = false := beq_eq_false_iff_ne.mpr c8
        have c8b1 : (a2 != 0) = true := bne_iff_ne.mpr c8
        replace H := Option.bind_eq_some_iff.mp H
        obtain ⟨t359, A100, H⟩ := H
        replace H : (scriniumlaw20_AskBytes.j0 k a1 a2 (!t359) a0_0 a0_1 a0_2 a0_3 a0_4 a0_5) = some r := H
        have A10 := Aside0.mk A100
        clear A100
        have H' := Aside0.mk H
        clear H
        have hcz11_0 : w5.cell? ⟨gb358, 0, none⟩ = some (.int .i64 a0_0) := (blk_cell BK358.out 0).trans rfl
        have hcz11_1 : w5.cell? ⟨gb358, 1, none⟩ = some (.int .i64 a0_1) := (blk_cell BK358.out 1).trans rfl
        have hcz11_2 : w5.cell? ⟨gb358, 2, none⟩ = some (.int .i64 a0_2) := (blk_cell BK358.out 2).trans rfl
        have hcz11_3 : w5.cell? ⟨gb358, 3, none⟩ = some (.int .i64 a0_3) := (blk_cell BK358.out 3).trans rfl
        have hcz11_4 : w5.cell? ⟨gb358, 4, none⟩ = some (.int .i64 a0_4) := (blk_cell BK358.out 4).trans rfl
        have hcz11_5 : w5.cell? ⟨gb358, 5, none⟩ = some (.string a0_5) := (blk_cell BK358.out 5).trans rfl
        have hfz11_0 := blk_frozen BK358.out 0
        have hfz11_1 := blk_frozen BK358.out 1
        have hfz11_2 := blk_frozen BK358.out 2
        have hfz11_3 := blk_frozen BK358.out 3
        have hfz11_4 := blk_frozen BK358.out 4
        have hfz11_5 := blk_frozen BK358.out 5
        go_wp2_with (first | (go_at_call 11; (with_reducible refine (scriniumlaw20_alive.calls k  t359 _ A10.out).mono ?_); rintro e w12 ⟨rfl, hb⟩; have n0_ := Aside0.mk (blk_below (g := gb358) (o := .cells #[.int .i64 a0_0, .int .i64 a0_1, .int .i64 a0_2, .int .i64 a0_3, .int .i64 a0_4, .string a0_5] 23 (0, 0)) (by (with_reducible repeat (first | refine blk_drewN ?_ _ | refine blk_drew ?_ | refine blk_alloc ?_ _)); exact BK358.out) hb); have n1_ := Aside0.mk (below_step (by repeat (first | (with_reducible first | exact HB.out | apply below_alloc | apply pw_below_drewN | apply below_drew1 | refine below_set ?_ GE358.out) | exact HB.out)) hb); clear BK358; clear HB; have BK358 := n0_; have HB := n1_; clear n0_ n1_; (try clear hb); (try clear hb2); (try clear hk); (try clear hi)))
        go_meet
        case rel => exact ⟨_, (!t359), (by first | rfl | (simp; done) | (simp [*]; done)), H', ⟨by first | omega | exact Nat.le_refl _⟩, ⟨by (with_reducible repeat (first | refine blk_drewN ?_ _ | refine blk_drew ?_ | refine blk_alloc ?_ _)); exact BK358.out⟩, ⟨by repeat (first | (with_reducible first | exact HB.out | apply below_alloc | apply pw_below_drewN | apply below_drew1 | refine below_set ?_ GE358.out) | exact HB.out)⟩⟩
  case rest =>
    clear HC4
    try clear p2
    try clear c6
    try clear c6b0
    try clear c6b1
    try clear c8
    try clear c8b0
    try clear c8b1
    try clear hcz11_0
    try clear hcz11_1
    try clear hcz11_2
    try clear hcz11_3
    try clear hcz11_4
    try clear hcz11_5
    try clear hcz7_0
    try clear hcz7_1
    try clear hcz7_2
    try clear hcz7_3
    try clear hcz7_4
    try clear hcz7_5
    try clear hcz9_0
    try clear hcz9_1
    try clear hcz9_2
    try clear hcz9_3
    try clear hcz9_4
    try clear hcz9_5
    try clear hfz11_0
    try clear hfz11_1
    try clear hfz11_2
    try clear hfz11_3
    try clear hfz11_4
    try clear hfz11_5
    try clear hfz7_0
    try clear hfz7_1
    try clear hfz7_2
    try clear hfz7_3
    try clear hfz7_4
    try clear hfz7_5
    try clear hfz9_0
    try clear hfz9_1
    try clear hfz9_2
    try clear hfz9_3
    try clear hfz9_4
    try clear hfz9_5
    obtain ⟨kq, x23_3, rfl, HA, HJ3, BK358, HB⟩ := hcut
    cases kq with
    | zero => exact absurd HA.out (by simp [scriniumlaw20_AskBytes.j0])
    | succ kj3 =>
      have H := HA.out
      clear HA
      simp only [scriniumlaw20_AskBytes.j0] at H
      by_cases c13 : x23_3 = true
      · subst c13
        have H1 : ((scriniumlaw20_alive.f kj3).bind fun t360 => (some t360)) = some r := by rw [if_pos rfl] at H; exact H
        clear H
        have H := H1
        clear H1
        replace H := Option.bind_eq_some_iff.mp H
        obtain ⟨t360, A140, H⟩ := H
        replace H : (some t360) = some r := H
        have A14 := Aside0.mk A140
        clear A140
        obtain rfl := Option.some.inj H
        go_wp2_with (first | ((with_reducible refine gate_callee (f := 11) rfl ?_); refine goesL_ (some 24) rfl rfl Tryd.func11 (by kernel_rfl) rfl #[] rfl (by (try simp only [List.map_toArray, List.map_cons, List.map_nil]); first | done | rfl | (simp only [List.length_drop, List.length_take]; rfl)) ?_; (with_reducible refine (scriniumlaw20_alive.calls kj3  t360 _ A14.out).mono ?_); rintro e w15 ⟨rfl, hb⟩; refine ⟨_, rfl, ?_⟩; have n0_ := Aside0.mk (blk_below (g := gb358) (o := .cells #[.int .i64 a0_0, .int .i64 a0_1, .int .i64 a0_2, .int .i64 a0_3, .int .i64 a0_4, .string a0_5] 23 (0, 0)) (by (with_reducible repeat (first | refine blk_drewN ?_ _ | refine blk_drew ?_ | refine blk_alloc ?_ _)); exact BK358.out) hb); have n1_ := Aside0.mk (below_step (by repeat (first | (with_reducible first | exact HB.out | apply below_alloc | apply pw_below_drewN | apply below_drew1 | refine below_set ?_ GE358.out) | exact HB.out)) hb); clear BK358; clear HB; have BK358 := n0_; have HB := n1_; clear n0_ n1_; (try clear hb); (try clear hb2); (try clear hk); (try clear hi)))
        go_ret
        exact ⟨by first | rfl | (simp [errW_none, errW_some] <;> rfl) | (simp [*, errW_none, errW_some] <;> rfl), by repeat (first | (with_reducible first | exact HB.out | apply below_alloc | apply pw_below_drewN | apply below_drew1 | refine below_set ?_ GE358.out) | exact HB.out)⟩
      · replace c13 := Bool.eq_false_iff.mpr c13
        subst c13
        have H1 : ((ask_Put.f kj3 a0_0 a0_1 a0_2 a0_3 a0_4 a0_5).bind fun bt361 => (if bt361.2 = true then (if (bt361.1.size : Int) = 0 then (some (!bt361.2)) else (if 0 ≤ (Int.tmod (wrap64 ((Int.tmod a1 (bt361.1.size : Int)) + (bt361.1.size : Int))) (bt361.1.size : Int)) then (if (Int.tmod (wrap64 ((Int.tmod a1 (bt361.1.size : Int)) + (bt361.1.size : Int))) (bt361.1.size : Int)) ≤ (bt361.1.size : Int) then (if (Int.tmod (wrap64 ((Int.tmod a1 (bt361.1.size : Int)) + (bt361.1.size : Int))) (bt361.1.size : Int)) < (bt361.1.size : Int) then ((some (([Go.bits .xor .u8 (bt bt361.1 (Int.tmod (wrap64 ((Int.tmod a1 (bt361.1.size : Int)) + (bt361.1.size : Int))) (bt361.1.size : Int))) a2] : List Int) : List Int)).bind fun y363 => (if (bt361.1.extract 0 ((Int.tmod (wrap64 ((Int.tmod a1 (bt361.1.size : Int)) + (bt361.1.size : Int))) (bt361.1.size : Int)) : Int).toNat).size + (strOfNums y363).size ≤ 9223372036854775807 then (if 0 ≤ (wrap64 ((Int.tmod (wrap64 ((Int.tmod a1 (bt361.1.size : Int)) + (bt361.1.size : Int))) (bt361.1.size : Int)) + 1)) then (if (wrap64 ((Int.tmod (wrap64 ((Int.tmod a1 (bt361.1.size : Int)) + (bt361.1.size : Int))) (bt361.1.size : Int)) + 1)) ≤ (bt361.1.size : Int) then (if ((bt361.1.extract 0 ((Int.tmod (wrap64 ((Int.tmod a1 (bt361.1.size : Int)) + (bt361.1.size : Int))) (bt361.1.size : Int)) : Int).toNat) ++ (strOfNums y363)).size + (bt361.1.extract ((wrap64 ((Int.tmod (wrap64 ((Int.tmod a1 (bt361.1.size : Int)) + (bt361.1.size : Int))) (bt361.1.size : Int)) + 1)) : Int).toNat bt361.1.size).size ≤ 9223372036854775807 then ((ask_Get.f (((bt361.1.extract 0 ((Int.tmod (wrap64 ((Int.tmod a1 (bt361.1.size : Int)) + (bt361.1.size : Int))) (bt361.1.size : Int)) : Int).toNat) ++ (strOfNums y363)) ++ (bt361.1.extract ((wrap64 ((Int.tmod (wrap64 ((Int.tmod a1 (bt361.1.size : Int)) + (bt361.1.size : Int))) (bt361.1.size : Int)) + 1)) : Int).toNat bt361.1.size))).bind fun bt366 => (if bt366.2.2.2.2.2.2 = true then (some (!(bt366.1 == a0_0) || (!(bt366.2.1 == a0_1) || (!(bt366.2.2.1 == a0_2) || (!(bt366.2.2.2.1 == a0_3) || (!(bt366.2.2.2.2.1 == a0_4) || (!(bt366.2.2.2.2.2.1.toList == a0_5.toList)))))))) else (some true))) else (none)) else (none)) else (none)) else (none))) else (none)) else (none)) else (none))) else (some (!bt361.2)))) = some r := by rw [if_neg (show ¬ (false = true) by decide)] at H; exact H
        clear H
        have H := H1
        clear H1
        replace H := Option.bind_eq_some_iff.mp H
        obtain ⟨⟨t361, t362⟩, A160, H⟩ := H
        replace H : (if t362 = true then (if (t361.size : Int) = 0 then (some (!t362)) else (if 0 ≤ (Int.tmod (wrap64 ((Int.tmod a1 (t361.size : Int)) + (t361.size : Int))) (t361.size : Int)) then (if (Int.tmod (wrap64 ((Int.tmod a1 (t361.size : Int)) + (t361.size : Int))) (t361.size : Int)) ≤ (t361.size : Int) then (if (Int.tmod (wrap64 ((Int.tmod a1 (t361.size : Int)) + (t361.size : Int))) (t361.size : Int)) < (t361.size : Int) then ((some (([Go.bits .xor .u8 (bt t361 (Int.tmod (wrap64 ((Int.tmod a1 (t361.size : Int)) + (t361.size : Int))) (t361.size : Int))) a2] : List Int) : List Int)).bind fun y363 => (if (t361.extract 0 ((Int.tmod (wrap64 ((Int.tmod a1 (t361.size : Int)) + (t361.size : Int))) (t361.size : Int)) : Int).toNat).size + (strOfNums y363).size ≤ 9223372036854775807 then (if 0 ≤ (wrap64 ((Int.tmod (wrap64 ((Int.tmod a1 (t361.size : Int)) + (t361.size : Int))) (t361.size : Int)) + 1)) then (if (wrap64 ((Int.tmod (wrap64 ((Int.tmod a1 (t361.size : Int)) + (t361.size : Int))) (t361.size : Int)) + 1)) ≤ (t361.size : Int) then (if ((t361.extract 0 ((Int.tmod (wrap64 ((Int.tmod a1 (t361.size : Int)) + (t361.size : Int))) (t361.size : Int)) : Int).toNat) ++ (strOfNums y363)).size + (t361.extract ((wrap64 ((Int.tmod (wrap64 ((Int.tmod a1 (t361.size : Int)) + (t361.size : Int))) (t361.size : Int)) + 1)) : Int).toNat t361.size).size ≤ 9223372036854775807 then ((ask_Get.f (((t361.extract 0 ((Int.tmod (wrap64 ((Int.tmod a1 (t361.size : Int)) + (t361.size : Int))) (t361.size : Int)) : Int).toNat) ++ (strOfNums y363)) ++ (t361.extract ((wrap64 ((Int.tmod (wrap64 ((Int.tmod a1 (t361.size : Int)) + (t361.size : Int))) (t361.size : Int)) + 1)) : Int).toNat t361.size))).bind fun bt366 => (if bt366.2.2.2.2.2.2 = true then (some (!(bt366.1 == a0_0) || (!(bt366.2.1 == a0_1) || (!(bt366.2.2.1 == a0_2) || (!(bt366.2.2.2.1 == a0_3) || (!(bt366.2.2.2.2.1 == a0_4) || (!(bt366.2.2.2.2.2.1.toList == a0_5.toList)))))))) else (some true))) else (none)) else (none)) else (none)) else (none))) else (none)) else (none)) else (none))) else (some (!t362))) = some r := H
        have A16 := Aside0.mk A160
        clear A160
        by_cases c17 : t362 = true
        · subst c17
          have H1 : (if (t361.size : Int) = 0 then (some (!true)) else (if 0 ≤ (Int.tmod (wrap64 ((Int.tmod a1 (t361.size : Int)) + (t361.size : Int))) (t361.size : Int)) then (if (Int.tmod (wrap64 ((Int.tmod a1 (t361.size : Int)) + (t361.size : Int))) (t361.size : Int)) ≤ (t361.size : Int) then (if (Int.tmod (wrap64 ((Int.tmod a1 (t361.size : Int)) + (t361.size : Int))) (t361.size : Int)) < (t361.size : Int) then ((some (([Go.bits .xor .u8 (bt t361 (Int.tmod (wrap64 ((Int.tmod a1 (t361.size : Int)) + (t361.size : Int))) (t361.size : Int))) a2] : List Int) : List Int)).bind fun y363 => (if (t361.extract 0 ((Int.tmod (wrap64 ((Int.tmod a1 (t361.size : Int)) + (t361.size : Int))) (t361.size : Int)) : Int).toNat).size + (strOfNums y363).size ≤ 9223372036854775807 then (if 0 ≤ (wrap64 ((Int.tmod (wrap64 ((Int.tmod a1 (t361.size : Int)) + (t361.size : Int))) (t361.size : Int)) + 1)) then (if (wrap64 ((Int.tmod (wrap64 ((Int.tmod a1 (t361.size : Int)) + (t361.size : Int))) (t361.size : Int)) + 1)) ≤ (t361.size : Int) then (if ((t361.extract 0 ((Int.tmod (wrap64 ((Int.tmod a1 (t361.size : Int)) + (t361.size : Int))) (t361.size : Int)) : Int).toNat) ++ (strOfNums y363)).size + (t361.extract ((wrap64 ((Int.tmod (wrap64 ((Int.tmod a1 (t361.size : Int)) + (t361.size : Int))) (t361.size : Int)) + 1)) : Int).toNat t361.size).size ≤ 9223372036854775807 then ((ask_Get.f (((t361.extract 0 ((Int.tmod (wrap64 ((Int.tmod a1 (t361.size : Int)) + (t361.size : Int))) (t361.size : Int)) : Int).toNat) ++ (strOfNums y363)) ++ (t361.extract ((wrap64 ((Int.tmod (wrap64 ((Int.tmod a1 (t361.size : Int)) + (t361.size : Int))) (t361.size : Int)) + 1)) : Int).toNat t361.size))).bind fun bt366 => (if bt366.2.2.2.2.2.2 = true then (some (!(bt366.1 == a0_0) || (!(bt366.2.1 == a0_1) || (!(bt366.2.2.1 == a0_2) || (!(bt366.2.2.2.1 == a0_3) || (!(bt366.2.2.2.2.1 == a0_4) || (!(bt366.2.2.2.2.2.1.toList == a0_5.toList)))))))) else (some true))) else (none)) else (none)) else (none)) else (none))) else (none)) else (none)) else (none))) = some r := by rw [if_pos rfl] at H; exact H
          clear H
          have H := H1
          clear H1
          by_cases c18 : (t361.size : Int) = 0
          · rw [if_pos c18] at H
            have c18b0 : ((t361.size : Int) == 0) = true := beq_iff_eq.mpr c18
            have c18b1 : ((t361.size : Int) != 0) = false := bne_eq_false_iff_eq.mpr c18
            clear c18
            obtain rfl := Option.some.inj H
            have hcz19_0 : wc.cell? ⟨gb358, 0, none⟩ = some (.int .i64 a0_0) := (blk_cell BK358.out 0).trans rfl
            have hcz19_1 : wc.cell? ⟨gb358, 1, none⟩ = some (.int .i64 a0_1) := (blk_cell BK358.out 1).trans rfl
            have hcz19_2 : wc.cell? ⟨gb358, 2, none⟩ = some (.int .i64 a0_2) := (blk_cell BK358.out 2).trans rfl
            have hcz19_3 : wc.cell? ⟨gb358, 3, none⟩ = some (.int .i64 a0_3) := (blk_cell BK358.out 3).trans rfl
            have hcz19_4 : wc.cell? ⟨gb358, 4, none⟩ = some (.int .i64 a0_4) := (blk_cell BK358.out 4).trans rfl
            have hcz19_5 : wc.cell? ⟨gb358, 5, none⟩ = some (.string a0_5) := (blk_cell BK358.out 5).trans rfl
            have hfz19_0 := blk_frozen BK358.out 0
            have hfz19_1 := blk_frozen BK358.out 1
            have hfz19_2 := blk_frozen BK358.out 2
            have hfz19_3 := blk_frozen BK358.out 3
            have hfz19_4 := blk_frozen BK358.out 4
            have hfz19_5 := blk_frozen BK358.out 5
            go_wp2_with (first | ((with_reducible refine gate_callee (f := 12) rfl ?_); refine goesL_ (some 27) rfl rfl Tryd.func12 (by kernel_rfl) rfl #[.agg #[.int .i64 a0_0, .int .i64 a0_1, .int .i64 a0_2, .int .i64 a0_3, .int .i64 a0_4, .string a0_5]] rfl (by (try simp only [List.map_toArray, List.map_cons, List.map_nil]); first | done | rfl | (simp only [List.length_drop, List.length_take]; rfl)) ?_; (with_reducible refine (ask_Put.calls kj3 a0_0 a0_1 a0_2 a0_3 a0_4 a0_5 t361 true _ A16.out).mono ?_); rintro e w20 ⟨rfl, hb⟩; refine ⟨_, rfl, ?_⟩; have n0_ := Aside0.mk (blk_below (g := gb358) (o := .cells #[.int .i64 a0_0, .int .i64 a0_1, .int .i64 a0_2, .int .i64 a0_3, .int .i64 a0_4, .string a0_5] 23 (0, 0)) (by (with_reducible repeat (first | refine blk_drewN ?_ _ | refine blk_drew ?_ | refine blk_alloc ?_ _)); exact BK358.out) hb); have n1_ := Aside0.mk (below_step (by repeat (first | (with_reducible first | exact HB.out | apply below_alloc | apply pw_below_drewN | apply below_drew1 | refine below_set ?_ GE358.out) | exact HB.out)) hb); clear BK358; clear HB; have BK358 := n0_; have HB := n1_; clear n0_ n1_; (try clear hb); (try clear hb2); (try clear hk); (try clear hi)))
            go_ret
            exact ⟨by first | rfl | (simp [errW_none, errW_some] <;> rfl) | (simp [*, errW_none, errW_some] <;> rfl), by repeat (first | (with_reducible first | exact HB.out | apply below_alloc | apply pw_below_drewN | apply below_drew1 | refine below_set ?_ GE358.out) | exact HB.out)⟩
          · rw [if_neg c18] at H
            have c18b0 : ((t361.size : Int) == 0) = false := beq_eq_false_iff_ne.mpr c18
            have c18b1 : ((t361.size : Int) != 0) = true := bne_iff_ne.mpr c18
            obtain ⟨ji21, hji21⟩ : ∃ j_ : Int, (Int.tmod (wrap64 ((Int.tmod a1 (t361.size : Int)) + (t361.size : Int))) (t361.size : Int)) = j_ := ⟨_, rfl⟩
            replace H : (if 0 ≤ (ji21) then (if (ji21) ≤ (t361.size : Int) then (if (ji21) < (t361.size : Int) then ((some (([Go.bits .xor .u8 (bt t361 (ji21)) a2] : List Int) : List Int)).bind fun y363 => (if (t361.extract 0 ((ji21) : Int).toNat).size + (strOfNums y363).size ≤ 9223372036854775807 then (if 0 ≤ (wrap64 ((ji21) + 1)) then (if (wrap64 ((ji21) + 1)) ≤ (t361.size : Int) then (if ((t361.extract 0 ((ji21) : Int).toNat) ++ (strOfNums y363)).size + (t361.extract ((wrap64 ((ji21) + 1)) : Int).toNat t361.size).size ≤ 9223372036854775807 then ((ask_Get.f (((t361.extract 0 ((ji21) : Int).toNat) ++ (strOfNums y363)) ++ (t361.extract ((wrap64 ((ji21) + 1)) : Int).toNat t361.size))).bind fun bt366 => (if bt366.2.2.2.2.2.2 = true then (some (!(bt366.1 == a0_0) || (!(bt366.2.1 == a0_1) || (!(bt366.2.2.1 == a0_2) || (!(bt366.2.2.2.1 == a0_3) || (!(bt366.2.2.2.2.1 == a0_4) || (!(bt366.2.2.2.2.2.1.toList == a0_5.toList)))))))) else (some true))) else (none)) else (none)) else (none)) else (none))) else (none)) else (none)) else (none)) = some r := by first | (rw [hji21] at H; exact H) | (simp only [hji21] at H ⊢; exact H)
            (try rw [hji21] at A16)
            by_cases c22 : 0 ≤ (ji21)
            · rw [if_pos c22] at H
              have c22b0 := eq_true c22
              have c22b1 : decide (0 ≤ (ji21)) = true := decide_eq_true c22
              clear c22
              by_cases c23 : (ji21) ≤ (t361.size : Int)
              · rw [if_pos c23] at H
                have c23b0 := eq_true c23
                have c23b1 : decide ((ji21) ≤ (t361.size : Int)) = true := decide_eq_true c23
                clear c23
                by_cases c24 : (ji21) < (t361.size : Int)
                · rw [if_pos c24] at H
                  have c24b0 : decide ((ji21) < (t361.size : Int)) = true := decide_eq_true c24
                  clear c24
                  obtain ⟨y363, hy363⟩ : ∃ y_ : List Int, y_ = (([Go.bits .xor .u8 (bt t361 (ji21)) a2] : List Int)) := ⟨_, rfl⟩
                  replace H : (if (t361.extract 0 ((ji21) : Int).toNat).size + (strOfNums y363).size ≤ 9223372036854775807 then (if 0 ≤ (wrap64 ((ji21) + 1)) then (if (wrap64 ((ji21) + 1)) ≤ (t361.size : Int) then (if ((t361.extract 0 ((ji21) : Int).toNat) ++ (strOfNums y363)).size + (t361.extract ((wrap64 ((ji21) + 1)) : Int).toNat t361.size).size ≤ 9223372036854775807 then ((ask_Get.f (((t361.extract 0 ((ji21) : Int).toNat) ++ (strOfNums y363)) ++ (t361.extract ((wrap64 ((ji21) + 1)) : Int).toNat t361.size))).bind fun bt366 => (if bt366.2.2.2.2.2.2 = true then (some (!(bt366.1 == a0_0) || (!(bt366.2.1 == a0_1) || (!(bt366.2.2.1 == a0_2) || (!(bt366.2.2.2.1 == a0_3) || (!(bt366.2.2.2.2.1 == a0_4) || (!(bt366.2.2.2.2.2.1.toList == a0_5.toList)))))))) else (some true))) else (none)) else (none)) else (none)) else (none)) = some r := by first | (rw [hy363]; with_reducible exact H) | (have H2_ := (Option.bind_some _ _).symm.trans H; rw [hy363]; with_reducible exact H2_) | (have H2_ := (Option.bind_some _ _).symm.trans H; with_reducible exact H2_) | with_reducible exact H | (rw [hy363]; exact H) | exact H
                  have Ny363 := Aside0.mk hy363
                  clear hy363
                  by_cases c26 : (t361.extract 0 ((ji21) : Int).toNat).size + (strOfNums y363).size ≤ 9223372036854775807
                  · rw [if_pos c26] at H
                    have c26b0 := eq_true c26
                    have c26b1 : decide ((t361.extract 0 ((ji21) : Int).toNat).size + (strOfNums y363).size ≤ 9223372036854775807) = true := decide_eq_true c26
                    try have c26b2 : (9223372036854775807 < (t361.extract 0 ((ji21) : Int).toNat).size + (strOfNums y363).size) = False := eq_false (Nat.not_lt.2 c26)
                    have c26z : (9223372036854775807 < ji21.toNat + (strOfNums y363).size) = False := eq_false (by have h := c26; have h2 := of_eq_true c23b0; rw [ByteArray.size_extract] at h; omega)
                    obtain ⟨ji27, hji27⟩ : ∃ j_ : Int, (wrap64 ((ji21) + 1)) = j_ := ⟨_, rfl⟩
                    replace H : (if 0 ≤ (ji27) then (if (ji27) ≤ (t361.size : Int) then (if ((t361.extract 0 ((ji21) : Int).toNat) ++ (strOfNums y363)).size + (t361.extract ((ji27) : Int).toNat t361.size).size ≤ 9223372036854775807 then ((ask_Get.f (((t361.extract 0 ((ji21) : Int).toNat) ++ (strOfNums y363)) ++ (t361.extract ((ji27) : Int).toNat t361.size))).bind fun bt366 => (if bt366.2.2.2.2.2.2 = true then (some (!(bt366.1 == a0_0) || (!(bt366.2.1 == a0_1) || (!(bt366.2.2.1 == a0_2) || (!(bt366.2.2.2.1 == a0_3) || (!(bt366.2.2.2.2.1 == a0_4) || (!(bt366.2.2.2.2.2.1.toList == a0_5.toList)))))))) else (some true))) else (none)) else (none)) else (none)) = some r := by first | (rw [hji27] at H; exact H) | (simp only [hji27] at H ⊢; exact H)
                    (try rw [hji27] at A16)
                    have hji27w : (IntKind.i64.wrap ((ji21) + 1)) = ji27 := (i64_w _).trans hji27
                    by_cases c28 : 0 ≤ (ji27)
                    · rw [if_pos c28] at H
                      have c28b0 := eq_true c28
                      have c28b1 : decide (0 ≤ (ji27)) = true := decide_eq_true c28
                      clear c28
                      by_cases c29 : (ji27) ≤ (t361.size : Int)
                      · rw [if_pos c29] at H
                        have c29b0 := eq_true c29
                        have c29b1 : decide ((ji27) ≤ (t361.size : Int)) = true := decide_eq_true c29
                        clear c29
                        by_cases c30 : ((t361.extract 0 ((ji21) : Int).toNat) ++ (strOfNums y363)).size + (t361.extract ((ji27) : Int).toNat t361.size).size ≤ 9223372036854775807
                        · rw [if_pos c30] at H
                          have c30b0 := eq_true c30
                          have c30b1 : decide (((t361.extract 0 ((ji21) : Int).toNat) ++ (strOfNums y363)).size + (t361.extract ((ji27) : Int).toNat t361.size).size ≤ 9223372036854775807) = true := decide_eq_true c30
                          try have c30b2 : (9223372036854775807 < ((t361.extract 0 ((ji21) : Int).toNat) ++ (strOfNums y363)).size + (t361.extract ((ji27) : Int).toNat t361.size).size) = False := eq_false (Nat.not_lt.2 c30)
                          have c30z : (9223372036854775807 < ji21.toNat + (strOfNums y363).size + (t361.size - ji27.toNat)) = False := eq_false (by have h := c30; have h2 := of_eq_true c23b0; have h3 := of_eq_true c29b0; rw [ByteArray.size_append, ByteArray.size_extract, ByteArray.size_extract] at h; omega)
                          (try (have c30b3s := c30b2; simp only [ByteArray.size_append] at c30b3s))
                          replace H := Option.bind_eq_some_iff.mp H
                          obtain ⟨⟨t366, t367, t368, t369, t370, t371, t372⟩, A310, H⟩ := H
                          replace H : (if t372 = true then (some (!(t366 == a0_0) || (!(t367 == a0_1) || (!(t368 == a0_2) || (!(t369 == a0_3) || (!(t370 == a0_4) || (!(t371.toList == a0_5.toList)))))))) else (some true)) = some r := H
                          have A31 := Aside0.mk A310
                          clear A310
                          by_cases c32 : t372 = true
                          · subst c32
                            have H1 : (some (!(t366 == a0_0) || (!(t367 == a0_1) || (!(t368 == a0_2) || (!(t369 == a0_3) || (!(t370 == a0_4) || (!(t371.toList == a0_5.toList)))))))) = some r := by rw [if_pos rfl] at H; exact H
                            clear H
                            have H := H1
                            clear H1
                            obtain rfl := Option.some.inj H
                            have hcz33_0 : wc.cell? ⟨gb358, 0, none⟩ = some (.int .i64 a0_0) := (blk_cell BK358.out 0).trans rfl
                            have hcz33_1 : wc.cell? ⟨gb358, 1, none⟩ = some (.int .i64 a0_1) := (blk_cell BK358.out 1).trans rfl
                            have hcz33_2 : wc.cell? ⟨gb358, 2, none⟩ = some (.int .i64 a0_2) := (blk_cell BK358.out 2).trans rfl
                            have hcz33_3 : wc.cell? ⟨gb358, 3, none⟩ = some (.int .i64 a0_3) := (blk_cell BK358.out 3).trans rfl
                            have hcz33_4 : wc.cell? ⟨gb358, 4, none⟩ = some (.int .i64 a0_4) := (blk_cell BK358.out 4).trans rfl
                            have hcz33_5 : wc.cell? ⟨gb358, 5, none⟩ = some (.string a0_5) := (blk_cell BK358.out 5).trans rfl
                            have hfz33_0 := blk_frozen BK358.out 0
                            have hfz33_1 := blk_frozen BK358.out 1
                            have hfz33_2 := blk_frozen BK358.out 2
                            have hfz33_3 := blk_frozen BK358.out 3
                            have hfz33_4 := blk_frozen BK358.out 4
                            have hfz33_5 := blk_frozen BK358.out 5
                            try go_wp2_with (first | ((with_reducible refine gate_callee (f := 12) rfl ?_); refine goesL_ (some 27) rfl rfl Tryd.func12 (by kernel_rfl) rfl #[.agg #[.int .i64 a0_0, .int .i64 a0_1, .int .i64 a0_2, .int .i64 a0_3, .int .i64 a0_4, .string a0_5]] rfl (by (try simp only [List.map_toArray, List.map_cons, List.map_nil]); first | done | rfl | (simp only [List.length_drop, List.length_take]; rfl)) ?_; (with_reducible refine (ask_Put.calls kj3 a0_0 a0_1 a0_2 a0_3 a0_4 a0_5 t361 true _ A16.out).mono ?_); rintro e w34 ⟨rfl, hb⟩; refine ⟨_, rfl, ?_⟩; have n0_ := Aside0.mk (blk_below (g := gb358) (o := .cells #[.int .i64 a0_0, .int .i64 a0_1, .int .i64 a0_2, .int .i64 a0_3, .int .i64 a0_4, .string a0_5] 23 (0, 0)) (by (with_reducible repeat (first | refine blk_drewN ?_ _ | refine blk_drew ?_ | refine blk_alloc ?_ _)); exact BK358.out) hb); have n1_ := Aside0.mk (below_step (by repeat (first | (with_reducible first | exact HB.out | apply below_alloc | apply pw_below_drewN | apply below_drew1 | refine below_set ?_ GE358.out) | exact HB.out)) hb); clear BK358; clear HB; have BK358 := n0_; have HB := n1_; clear n0_ n1_; (try clear hb); (try clear hb2); (try clear hk); (try clear hi)))
                            have n0_ := Aside0.mk (blk_drew BK358.out)
                            have n1_ := Aside0.mk (below_drew1 HB.out)
                            clear BK358
                            clear HB
                            have BK358 := n0_
                            have HB := n1_
                            clear n0_ n1_
                            have p25 : 0 ≤ ((ji21) : Int) := of_decide_eq_true (by first | (with_reducible assumption) | assumption)
                            have q25 : (ji21) < (t361.size : Int) := of_decide_eq_true (by first | (with_reducible assumption) | assumption)
                            have hx25 := bt_at t361 (ji21)
                            replace p25 := eq_true p25
                            replace q25 := eq_true q25
                            refine start_ (n := 23) (S := fun w' => True) (ds := []) #[false, false, false, false, false, false, false, false, false, false, false, false, false, false, false, false, false, false, false, false, false, false, false] (by kernel_rfl) rfl rfl trivial (fun hHeld => ?_); refine with_tabW scriniumlaw20_AskBytes.tab7 scriniumlaw20_AskBytes.bits7 (fun HT_ HW_ => ?_)
                            generalize w34.drew = w35 at BK358 HB hHeld ⊢
                            refine pure_ (i := 0) (N := some 50) (v := ?_) (a' := ?_) #[true, false, false, false, false, false, false, false, false, false, false, false, false, false, false, false, false, false, false, false, false, false, false] rfl rfl (any_of HT_.out (by kernel_rfl)) (fun _ _ _ h => h) (Or.inl ⟨by rfl, ?_⟩) ?_ ?_
                            rotate_left
                            · intro w'
                              go_simp
                              with_reducible rfl
                            rotate_left
                            · simp only [Act.put, List.setIfInBounds_toArray, List.set_cons_zero, List.set_cons_succ, i64_w, i32_w]
                              rfl
                            refine pure_ (i := 1) (N := some 51) (v := ?_) (a' := ?_) #[true, true, false, false, false, false, false, false, false, false, false, false, false, false, false, false, false, false, false, false, false, false, false] rfl rfl (any_of HT_.out (by kernel_rfl)) (fun _ _ _ h => h) (Or.inl ⟨by rfl, ?_⟩) ?_ ?_
                            rotate_left
                            · intro w'
                              go_simp
                              with_reducible rfl
                            rotate_left
                            · simp only [Act.put, List.setIfInBounds_toArray, List.set_cons_zero, List.set_cons_succ, i64_w, i32_w]
                              rfl
                            refine pure_ (i := 2) (N := some 52) (v := ?_) (a' := ?_) #[true, true, true, false, false, false, false, false, false, false, false, false, false, false, false, false, false, false, false, false, false, false, false] rfl rfl (any_of HT_.out (by kernel_rfl)) (fun _ _ _ h => h) (Or.inl ⟨by rfl, ?_⟩) ?_ ?_
                            rotate_left
                            · intro w'
                              go_simp
                              with_reducible rfl
                            rotate_left
                            · simp only [Act.put, List.setIfInBounds_toArray, List.set_cons_zero, List.set_cons_succ, i64_w, i32_w]
                              rfl
                            refine pure_ (i := 3) (N := some 53) (v := ?_) (a' := ?_) #[true, true, true, true, false, false, false, false, false, false, false, false, false, false, false, false, false, false, false, false, false, false, false] rfl rfl (any_of HT_.out (by kernel_rfl)) (fun _ _ _ h => h) (Or.inl ⟨by rfl, ?_⟩) ?_ ?_
                            rotate_left
                            · intro w'
                              go_simp
                              with_reducible rfl
                            rotate_left
                            · simp only [Act.put, List.setIfInBounds_toArray, List.set_cons_zero, List.set_cons_succ, i64_w, i32_w]
                              rfl
                            refine pure_ (i := 4) (N := some 54) (v := ?_) (a' := ?_) #[true, true, true, true, true, false, false, false, false, false, false, false, false, false, false, false, false, false, false, false, false, false, false] rfl rfl (any_of HT_.out (by kernel_rfl)) (fun _ _ _ h => h) (Or.inl ⟨by rfl, ?_⟩) ?_ ?_
                            rotate_left
                            · intro w'
                              go_simp
                              with_reducible rfl
                            rotate_left
                            · simp only [Act.put, List.setIfInBounds_toArray, List.set_cons_zero, List.set_cons_succ, i64_w, i32_w]
                              rfl
                            refine pure_ (i := 6) (N := some 56) (v := ?_) (a' := ?_) #[true, true, true, true, true, false, true, false, false, false, false, false, false, false, false, false, false, false, false, false, false, false, false] rfl rfl (any_of HT_.out (by kernel_rfl)) (fun _ _ _ h => h) (Or.inl ⟨by rfl, ?_⟩) ?_ ?_
                            rotate_left
                            · intro w'
                              go_simp
                              with_reducible rfl
                            rotate_left
                            · simp only [Act.put, List.setIfInBounds_toArray, List.set_cons_zero, List.set_cons_succ, i64_w, i32_w]
                              rfl
                            refine pure_ (i := 11) (N := some 61) (v := ?_) (a' := ?_) #[true, true, true, true, true, false, true, false, false, false, false, true, false, false, false, false, false, false, false, false, false, false, false] rfl rfl (any_of HT_.out (by kernel_rfl)) (fun _ _ _ h => h) (Or.inl ⟨by rfl, ?_⟩) ?_ ?_
                            rotate_left
                            · intro w'
                              go_simp
                              with_reducible rfl
                            rotate_left
                            · simp only [Act.put, List.setIfInBounds_toArray, List.set_cons_zero, List.set_cons_succ, i64_w, i32_w]
                              rfl
                            refine pure_ (i := 12) (N := some 62) (v := ?_) (a' := ?_) #[true, true, true, true, true, false, true, false, false, false, false, true, true, false, false, false, false, false, false, false, false, false, false] rfl rfl (any_of HT_.out (by kernel_rfl)) (fun _ _ _ h => h) (Or.inl ⟨by rfl, ?_⟩) ?_ ?_
                            rotate_left
                            · intro w'
                              go_simp
                              with_reducible rfl
                            rotate_left
                            · simp only [Act.put, List.setIfInBounds_toArray, List.set_cons_zero, List.set_cons_succ, i64_w, i32_w]
                              rfl
                            refine pure_ (i := 13) (N := some 63) (v := ?_) (a' := ?_) #[true, true, true, true, true, false, true, false, false, false, false, true, true, true, false, false, false, false, false, false, false, false, false] rfl rfl (any_of HT_.out (by kernel_rfl)) (fun _ _ _ h => h) (Or.inl ⟨by rfl, ?_⟩) ?_ ?_
                            rotate_left
                            · intro w'
                              go_simp
                              with_reducible rfl
                            rotate_left
                            · simp only [Act.put, List.setIfInBounds_toArray, List.set_cons_zero, List.set_cons_succ, i64_w, i32_w]
                              rfl
                            refine pure_ (i := 14) (N := some 64) (v := ?_) (a' := ?_) #[true, true, true, true, true, false, true, false, false, false, false, true, true, true, true, false, false, false, false, false, false, false, false] rfl rfl (any_of HT_.out (by kernel_rfl)) (fun _ _ _ h => h) (Or.inl ⟨by rfl, ?_⟩) ?_ ?_
                            rotate_left
                            · intro w'
                              go_simp
                              with_reducible rfl
                            rotate_left
                            · simp only [Act.put, List.setIfInBounds_toArray, List.set_cons_zero, List.set_cons_succ, i64_w, i32_w]
                              rfl
                            refine take_ (i := 5) (N := some 55) (v := ?_) (a' := ?_) #[true, true, true, true, true, true, true, false, false, false, false, true, true, true, true, false, false, false, false, false, false, false, false] rfl rfl (take_ofW HT_.out HW_.out (by kernel_rfl)) (fun _ _ _ h => h) (Or.inl ⟨by rfl, ?_⟩) hHeld ?_ ?_
                            rotate_left
                            · intro w' _
                              go_simp
                              with_reducible rfl
                            rotate_left
                            · simp only [Act.put, List.setIfInBounds_toArray, List.set_cons_zero, List.set_cons_succ, i64_w, i32_w]
                              rfl
                            refine pure_ (i := 7) (N := some 57) (v := ?_) (a' := ?_) #[true, true, true, true, true, true, true, true, false, false, false, true, true, true, true, false, false, false, false, false, false, false, false] rfl rfl (any_of HT_.out (by kernel_rfl)) (fun _ _ _ h => h) (Or.inl ⟨by rfl, ?_⟩) ?_ ?_
                            rotate_left
                            · intro w'
                              go_simp
                              with_reducible rfl
                            rotate_left
                            · simp only [Act.put, List.setIfInBounds_toArray, List.set_cons_zero, List.set_cons_succ, i64_w, i32_w]
                              rfl
                            refine join_ (σ := Value × Nat) 2 #[true, true, true, true, true, true, true, true, true, true, true, true, true, true, true, true, true, true, true, true, true, false, false] (fun s_ => [(58, s_.1), (59, .string (strOfNums y363)), (66, .tuple #[.agg #[.int .i64 t366, .int .i64 t367, .int .i64 t368, .int .i64 t369, .int .i64 t370, .string t371], .bool true]), (10, .pointer (some ⟨s_.2, 0, none⟩)), (60, .string ((t361.extract 0 ((ji21) : Int).toNat) ++ (strOfNums y363))), (65, .string (((t361.extract 0 ((ji21) : Int).toNat) ++ (strOfNums y363)) ++ (t361.extract ((ji27) : Int).toNat t361.size))), (49, .tuple #[.agg #[.int .i64 t366, .int .i64 t367, .int .i64 t368, .int .i64 t369, .int .i64 t370, .string t371], .bool true]), (67, .agg #[.int .i64 t366, .int .i64 t367, .int .i64 t368, .int .i64 t369, .int .i64 t370, .string t371]), (68, .bool true)]) (fun s_ w' => (Kd.R (Kd.int .u8) 5 w' w.heap.size (fun _ => True) s_.1 y363) ∧ (w'.heap[gb358]? = some (.cells #[.int .i64 a0_0, .int .i64 a0_1, .int .i64 a0_2, .int .i64 a0_3, .int .i64 a0_4, .string a0_5] 23 (0, 0))) ∧ (w'.heap[s_.2]? = some (.cells #[.int .i64 0, .int .i64 0, .int .i64 0, .int .i64 0, .int .i64 0, .string (⟨#[]⟩ : ByteArray)] 23 (0, 0))) ∧ (w.heap.size ≤ s_.2) ∧ (w.heap.size ≤ s_.2) ∧ (gb358 ≠ s_.2) ∧ (s_.2 ≠ gb358) ∧ (Below w.heap.size w w')) ?_ ?_
                            rotate_left
                            · intro hCont
                              refine two_ (i := 8) (j := 20) (Ni := some 58) (Nj := some 10) #[true, true, true, true, true, true, true, true, true, false, false, true, true, true, true, false, false, false, false, false, false, false, false] #[true, true, true, true, true, true, true, true, false, false, false, true, true, true, true, false, false, false, false, false, true, false, false] rfl rfl rfl rfl (two_of HT_.out (by kernel_rfl)) (by decide) (by decide) (fun K hK => ?_) (fun K hK => ?_)
                              · skip
                                refine Kd.R_lit_step (Kd.int .u8) _ 5 ?hg (N := 58) ?hd (xs := ([Go.bits .xor .u8 (bt t361 (ji21)) a2] : List Int)) (inner := [.int .u8 (Go.bits .xor .u8 (bt t361 (ji21)) a2)]) (ok := fun _ => True) (okp := fun _ => True) ?hr ?hp (fun _ hk => hk) trivial (Below.refl _ _) (Nat.le_refl _) (by simp) ?_; (case hd => rfl); (case hg => rfl); (case hr => first | (go_simp; done) | (go_simp; rfl)); (case hp => exact (Reps.one (show Kd.M (Kd.int .u8) _ _ _ (Go.bits .xor .u8 (bt t361 (ji21)) a2) [.int .u8 (Go.bits .xor .u8 (bt t361 (ji21)) a2)] from rfl) (Reps.none _ _)))
                                intro v364 w36 ho37 hb hg_ hnew_
                                clear hg_ hnew_
                                (first | rw [← Ny363.out] at ho37 | (simp only [Int.reduceToNat] at ho37; rw [← Ny363.out] at ho37))
                                have n0_ := Aside0.mk (Kd.R_lower ho37 (below_size (by repeat (first | (with_reducible first | exact HB.out | apply below_alloc | apply pw_below_drewN | apply below_drew1 | refine below_set ?_ GE358.out) | exact HB.out))))
                                have n1_ := Aside0.mk (blk_below (g := gb358) (o := .cells #[.int .i64 a0_0, .int .i64 a0_1, .int .i64 a0_2, .int .i64 a0_3, .int .i64 a0_4, .string a0_5] 23 (0, 0)) (by (with_reducible repeat (first | refine blk_drewN ?_ _ | refine blk_drew ?_ | refine blk_alloc ?_ _)); exact BK358.out) hb)
                                have n2_ := Aside0.mk (below_step (by repeat (first | (with_reducible first | exact HB.out | apply below_alloc | apply pw_below_drewN | apply below_drew1 | refine below_set ?_ GE358.out) | exact HB.out)) hb)
                                clear BK358
                                clear HB
                                have HO365 := n0_
                                have BK358 := n1_
                                have HB := n2_
                                clear n0_ n1_ n2_
                                clear hb ho37
                                refine hK.out _ _ trivial (fun hHeld => ?_)
                                clear hK K
                                refine norm_ (a' := ?_) ?_ ?_
                                rotate_left
                                · show Act.put _ (some 58) _ = _
                                  simp only [Act.put, List.setIfInBounds_toArray, List.set_cons_zero, List.set_cons_succ, i64_w, i32_w]
                                  rfl
                                refine two_ (i := 9) (j := 20) (Ni := some 59) (Nj := some 10) #[true, true, true, true, true, true, true, true, true, true, false, true, true, true, true, false, false, false, false, false, false, false, false] #[true, true, true, true, true, true, true, true, true, false, false, true, true, true, true, false, false, false, false, false, true, false, false] rfl rfl rfl rfl (two_of HT_.out (by kernel_rfl)) (by decide) (by decide) (fun K hK => ?_) (fun K hK => ?_)
                                · skip
                                  have hcv38 := own_string (P := Tryd.prog) Tryd.underlying41 Tryd.underlying5 Tryd.underlying9 (Kd.own_of_R HO365.out)
                                  refine value_ (w1 := ?_) (v := ?_) (by rfl) rfl ?_ ?_
                                  rotate_left 2
                                  · go_simp
                                    constructor
                                    · rfl
                                    · rfl
                                  clear hcv38
                                  refine hK.out _ _ trivial (fun hHeld => ?_)
                                  clear hK K
                                  refine norm_ (a' := ?_) ?_ ?_
                                  rotate_left
                                  · show Act.put _ (some 59) _ = _
                                    simp only [Act.put, List.setIfInBounds_toArray, List.set_cons_zero, List.set_cons_succ, i64_w, i32_w]
                                    rfl
                                  refine pure_ (i := 10) (N := some 60) (v := ?_) (a' := ?_) #[true, true, true, true, true, true, true, true, true, true, true, true, true, true, true, false, false, false, false, false, false, false, false] rfl rfl (any_of HT_.out (by kernel_rfl)) (fun _ _ _ h => h) (Or.inl ⟨by rfl, ?_⟩) ?_ ?_
                                  rotate_left
                                  · intro w'
                                    go_simp
                                    with_reducible rfl
                                  rotate_left
                                  · simp only [Act.put, List.setIfInBounds_toArray, List.set_cons_zero, List.set_cons_succ, i64_w, i32_w]
                                    rfl
                                  refine pure_ (i := 15) (N := some 65) (v := ?_) (a' := ?_) #[true, true, true, true, true, true, true, true, true, true, true, true, true, true, true, true, false, false, false, false, false, false, false] rfl rfl (any_of HT_.out (by kernel_rfl)) (fun _ _ _ h => h) (Or.inl ⟨by rfl, ?_⟩) ?_ ?_
                                  rotate_left
                                  · intro w'
                                    go_simp
                                    with_reducible rfl
                                  rotate_left
                                  · simp only [Act.put, List.setIfInBounds_toArray, List.set_cons_zero, List.set_cons_succ, i64_w, i32_w]
                                    rfl
                                  refine two_ (i := 16) (j := 20) (Ni := some 66) (Nj := some 10) #[true, true, true, true, true, true, true, true, true, true, true, true, true, true, true, true, true, false, false, false, false, false, false] #[true, true, true, true, true, true, true, true, true, true, true, true, true, true, true, true, false, false, false, false, true, false, false] rfl rfl rfl rfl (two_of HT_.out (by kernel_rfl)) (by decide) (by decide) (fun K hK => ?_) (fun K hK => ?_)
                                  · skip
                                    refine goes_ Tryd.func14 (by kernel_rfl) rfl #[.string (((t361.extract 0 ((ji21) : Int).toNat) ++ (strOfNums y363)) ++ (t361.extract ((ji27) : Int).toNat t361.size))] (by rfl) rfl rfl (by (try simp only [List.map_toArray, List.map_cons, List.map_nil]); first | done | (simp only [hji21, hji27]; rfl) | rfl | (simp only [List.length_drop, List.length_take]; rfl)) ?_
                                    with_reducible refine (ask_Get.calls (((t361.extract 0 ((ji21) : Int).toNat) ++ (strOfNums y363)) ++ (t361.extract ((ji27) : Int).toNat t361.size)) t366 t367 t368 t369 t370 t371 true _ A31.out).mono ?_
                                    rintro e w39 ⟨rfl, hb⟩
                                    refine ⟨_, rfl, ?_⟩
                                    have n0_ := Aside0.mk (Kd.R_below (by (with_reducible repeat (first | apply Kd.R_alloc | apply Kd.R_drewN | apply Kd.R_drew)); exact HO365.out) hb)
                                    have n1_ := Aside0.mk (blk_below (g := gb358) (o := .cells #[.int .i64 a0_0, .int .i64 a0_1, .int .i64 a0_2, .int .i64 a0_3, .int .i64 a0_4, .string a0_5] 23 (0, 0)) (by (with_reducible repeat (first | refine blk_drewN ?_ _ | refine blk_drew ?_ | refine blk_alloc ?_ _)); exact BK358.out) hb)
                                    have n2_ := Aside0.mk (below_step (by repeat (first | (with_reducible first | exact HB.out | apply below_alloc | apply pw_below_drewN | apply below_drew1 | refine below_set ?_ GE358.out) | exact HB.out)) hb)
                                    clear HO365
                                    clear BK358
                                    clear HB
                                    have HO365 := n0_
                                    have BK358 := n1_
                                    have HB := n2_
                                    clear n0_ n1_ n2_
                                    (try clear hb)
                                    (try clear hb2)
                                    (try clear hk)
                                    (try clear hi)
                                    refine hK.out _ _ trivial (fun hHeld => ?_)
                                    clear hK K
                                    refine norm_ (a' := ?_) ?_ ?_
                                    rotate_left
                                    · show Act.put _ (some 66) _ = _
                                      simp only [Act.put, List.setIfInBounds_toArray, List.set_cons_zero, List.set_cons_succ, i64_w, i32_w]
                                      rfl
                                    refine pure_ (i := 17) (N := some 49) (v := ?_) (a' := ?_) #[true, true, true, true, true, true, true, true, true, true, true, true, true, true, true, true, true, true, false, false, false, false, false] rfl rfl (any_of HT_.out (by kernel_rfl)) (fun _ _ _ h => h) (Or.inl ⟨by rfl, ?_⟩) ?_ ?_
                                    rotate_left
                                    · intro w'
                                      go_simp
                                      with_reducible rfl
                                    rotate_left
                                    · simp only [Act.put, List.setIfInBounds_toArray, List.set_cons_zero, List.set_cons_succ, i64_w, i32_w]
                                      rfl
                                    refine pure_ (i := 18) (N := some 67) (v := ?_) (a' := ?_) #[true, true, true, true, true, true, true, true, true, true, true, true, true, true, true, true, true, true, true, false, false, false, false] rfl rfl (any_of HT_.out (by kernel_rfl)) (fun _ _ _ h => h) (Or.inl ⟨by rfl, ?_⟩) ?_ ?_
                                    rotate_left
                                    · intro w'
                                      go_simp
                                      with_reducible rfl
                                    rotate_left
                                    · simp only [Act.put, List.setIfInBounds_toArray, List.set_cons_zero, List.set_cons_succ, i64_w, i32_w]
                                      rfl
                                    refine pure_ (i := 19) (N := some 68) (v := ?_) (a' := ?_) #[true, true, true, true, true, true, true, true, true, true, true, true, true, true, true, true, true, true, true, true, false, false, false] rfl rfl (any_of HT_.out (by kernel_rfl)) (fun _ _ _ h => h) (Or.inl ⟨by rfl, ?_⟩) ?_ ?_
                                    rotate_left
                                    · intro w'
                                      go_simp
                                      with_reducible rfl
                                    rotate_left
                                    · simp only [Act.put, List.setIfInBounds_toArray, List.set_cons_zero, List.set_cons_succ, i64_w, i32_w]
                                      rfl
                                    refine one_ (i := 20) (N := some 10) #[true, true, true, true, true, true, true, true, true, true, true, true, true, true, true, true, true, true, true, true, true, false, false] rfl rfl (one_of HT_.out (by kernel_rfl)) (by decide) (fun K hK => ?_)
                                    refine box_step ?hg (N := 10) ?hd (cs := #[.int .i64 0, .int .i64 0, .int .i64 0, .int .i64 0, .int .i64 0, .string (⟨#[]⟩ : ByteArray)]) (t := 23) ?hr ?_; (case hd => rfl); (case hg => rfl); (case hr => first | (go_simp; done) | (go_simp; rfl))
                                    intro gb373 hg w40 hbox hb
                                    have n0_ := Aside0.mk (Kd.R_below (by (with_reducible repeat (first | apply Kd.R_alloc | apply Kd.R_drewN | apply Kd.R_drew)); exact HO365.out) hb)
                                    have n1_ := Aside0.mk (blk_below (g := gb358) (o := .cells #[.int .i64 a0_0, .int .i64 a0_1, .int .i64 a0_2, .int .i64 a0_3, .int .i64 a0_4, .string a0_5] 23 (0, 0)) (by (with_reducible repeat (first | refine blk_drewN ?_ _ | refine blk_drew ?_ | refine blk_alloc ?_ _)); exact BK358.out) hb)
                                    have n2_ := Aside0.mk (below_step (by repeat (first | (with_reducible first | exact HB.out | apply below_alloc | apply pw_below_drewN | apply below_drew1 | refine below_set ?_ GE358.out) | exact HB.out)) hb)
                                    have n3_ := Aside0.mk (hbox)
                                    have n4_ := Aside0.mk ((by rw [hg]; exact (below_size (by repeat (first | (with_reducible first | exact HB.out | apply below_alloc | apply pw_below_drewN | apply below_drew1 | refine below_set ?_ GE358.out) | exact HB.out))) : w.heap.size ≤ gb373))
                                    have n5_ := Aside0.mk ((by rw [hg]; exact (below_size (by repeat (first | (with_reducible first | exact HB.out | apply below_alloc | apply pw_below_drewN | apply below_drew1 | refine below_set ?_ GE358.out) | exact HB.out))) : w.heap.size ≤ gb373))
                                    have n6_ := Aside0.mk ((by rw [hg]; exact Nat.ne_of_lt (blk_lt (g := gb358) (o := .cells #[.int .i64 a0_0, .int .i64 a0_1, .int .i64 a0_2, .int .i64 a0_3, .int .i64 a0_4, .string a0_5] 23 (0, 0)) (by (with_reducible repeat (first | refine blk_drewN ?_ _ | refine blk_drew ?_ | refine blk_alloc ?_ _)); exact BK358.out)) : gb358 ≠ gb373))
                                    have n7_ := Aside0.mk ((by rw [hg]; exact Nat.ne_of_gt (blk_lt (g := gb358) (o := .cells #[.int .i64 a0_0, .int .i64 a0_1, .int .i64 a0_2, .int .i64 a0_3, .int .i64 a0_4, .string a0_5] 23 (0, 0)) (by (with_reducible repeat (first | refine blk_drewN ?_ _ | refine blk_drew ?_ | refine blk_alloc ?_ _)); exact BK358.out)) : gb373 ≠ gb358))
                                    clear HO365
                                    clear BK358
                                    clear HB
                                    have HO365 := n0_
                                    have BK358 := n1_
                                    have HB := n2_
                                    have BK373 := n3_
                                    have GW373 := n4_
                                    have GE373 := n5_
                                    have NB358_373 := n6_
                                    have NB373_358 := n7_
                                    clear n0_ n1_ n2_ n3_ n4_ n5_ n6_ n7_
                                    clear hb hbox hg
                                    refine hK.out _ _ trivial (fun hHeld => ?_)
                                    clear hK K
                                    refine norm_ (a' := ?_) ?_ ?_
                                    rotate_left
                                    · show Act.put _ (some 10) _ = _
                                      simp only [Act.put, List.setIfInBounds_toArray, List.set_cons_zero, List.set_cons_succ, i64_w, i32_w]
                                      rfl
                                    exact norm_ (by simp only [putAll, Act.put, List.setIfInBounds_toArray, List.set_cons_zero, List.set_cons_succ]) (hCont (v364, gb373) _ ⟨(by (with_reducible repeat (first | apply Kd.R_alloc | apply Kd.R_drewN | apply Kd.R_drew)); exact HO365.out), (by (with_reducible repeat (first | refine blk_drewN ?_ _ | refine blk_drew ?_ | refine blk_alloc ?_ _)); exact BK358.out), (by (with_reducible repeat (first | refine blk_drewN ?_ _ | refine blk_drew ?_ | refine blk_alloc ?_ _)); exact BK373.out), GW373.out, GE373.out, NB358_373.out, NB373_358.out, (by repeat (first | (with_reducible first | exact HB.out | apply below_alloc | apply pw_below_drewN | apply below_drew1 | refine below_set ?_ GE358.out | refine below_set ?_ GE373.out) | exact HB.out))⟩)
                                  · skip
                                    refine box_step ?hg (N := 10) ?hd (cs := #[.int .i64 0, .int .i64 0, .int .i64 0, .int .i64 0, .int .i64 0, .string (⟨#[]⟩ : ByteArray)]) (t := 23) ?hr ?_; (case hd => rfl); (case hg => rfl); (case hr => first | (go_simp; done) | (go_simp; rfl))
                                    intro gb373 hg w39 hbox hb
                                    have n0_ := Aside0.mk (Kd.R_below (by (with_reducible repeat (first | apply Kd.R_alloc | apply Kd.R_drewN | apply Kd.R_drew)); exact HO365.out) hb)
                                    have n1_ := Aside0.mk (blk_below (g := gb358) (o := .cells #[.int .i64 a0_0, .int .i64 a0_1, .int .i64 a0_2, .int .i64 a0_3, .int .i64 a0_4, .string a0_5] 23 (0, 0)) (by (with_reducible repeat (first | refine blk_drewN ?_ _ | refine blk_drew ?_ | refine blk_alloc ?_ _)); exact BK358.out) hb)
                                    have n2_ := Aside0.mk (below_step (by repeat (first | (with_reducible first | exact HB.out | apply below_alloc | apply pw_below_drewN | apply below_drew1 | refine below_set ?_ GE358.out) | exact HB.out)) hb)
                                    have n3_ := Aside0.mk (hbox)
                                    have n4_ := Aside0.mk ((by rw [hg]; exact (below_size (by repeat (first | (with_reducible first | exact HB.out | apply below_alloc | apply pw_below_drewN | apply below_drew1 | refine below_set ?_ GE358.out) | exact HB.out))) : w.heap.size ≤ gb373))
                                    have n5_ := Aside0.mk ((by rw [hg]; exact (below_size (by repeat (first | (with_reducible first | exact HB.out | apply below_alloc | apply pw_below_drewN | apply below_drew1 | refine below_set ?_ GE358.out) | exact HB.out))) : w.heap.size ≤ gb373))
                                    have n6_ := Aside0.mk ((by rw [hg]; exact Nat.ne_of_lt (blk_lt (g := gb358) (o := .cells #[.int .i64 a0_0, .int .i64 a0_1, .int .i64 a0_2, .int .i64 a0_3, .int .i64 a0_4, .string a0_5] 23 (0, 0)) (by (with_reducible repeat (first | refine blk_drewN ?_ _ | refine blk_drew ?_ | refine blk_alloc ?_ _)); exact BK358.out)) : gb358 ≠ gb373))
                                    have n7_ := Aside0.mk ((by rw [hg]; exact Nat.ne_of_gt (blk_lt (g := gb358) (o := .cells #[.int .i64 a0_0, .int .i64 a0_1, .int .i64 a0_2, .int .i64 a0_3, .int .i64 a0_4, .string a0_5] 23 (0, 0)) (by (with_reducible repeat (first | refine blk_drewN ?_ _ | refine blk_drew ?_ | refine blk_alloc ?_ _)); exact BK358.out)) : gb373 ≠ gb358))
                                    clear HO365
                                    clear BK358
                                    clear HB
                                    have HO365 := n0_
                                    have BK358 := n1_
                                    have HB := n2_
                                    have BK373 := n3_
                                    have GW373 := n4_
                                    have GE373 := n5_
                                    have NB358_373 := n6_
                                    have NB373_358 := n7_
                                    clear n0_ n1_ n2_ n3_ n4_ n5_ n6_ n7_
                                    clear hb hbox hg
                                    refine hK.out _ _ trivial (fun hHeld => ?_)
                                    clear hK K
                                    refine norm_ (a' := ?_) ?_ ?_
                                    rotate_left
                                    · show Act.put _ (some 10) _ = _
                                      simp only [Act.put, List.setIfInBounds_toArray, List.set_cons_zero, List.set_cons_succ, i64_w, i32_w]
                                      rfl
                                    refine one_ (i := 16) (N := some 66) #[true, true, true, true, true, true, true, true, true, true, true, true, true, true, true, true, true, false, false, false, true, false, false] rfl rfl (one_of HT_.out (by kernel_rfl)) (by decide) (fun K hK => ?_)
                                    refine goes_ Tryd.func14 (by kernel_rfl) rfl #[.string (((t361.extract 0 ((ji21) : Int).toNat) ++ (strOfNums y363)) ++ (t361.extract ((ji27) : Int).toNat t361.size))] (by rfl) rfl rfl (by (try simp only [List.map_toArray, List.map_cons, List.map_nil]); first | done | (simp only [hji21, hji27]; rfl) | rfl | (simp only [List.length_drop, List.length_take]; rfl)) ?_
                                    with_reducible refine (ask_Get.calls (((t361.extract 0 ((ji21) : Int).toNat) ++ (strOfNums y363)) ++ (t361.extract ((ji27) : Int).toNat t361.size)) t366 t367 t368 t369 t370 t371 true _ A31.out).mono ?_
                                    rintro e w40 ⟨rfl, hb⟩
                                    refine ⟨_, rfl, ?_⟩
                                    have n0_ := Aside0.mk (Kd.R_below (by (with_reducible repeat (first | apply Kd.R_alloc | apply Kd.R_drewN | apply Kd.R_drew)); exact HO365.out) hb)
                                    have n1_ := Aside0.mk (blk_below (g := gb358) (o := .cells #[.int .i64 a0_0, .int .i64 a0_1, .int .i64 a0_2, .int .i64 a0_3, .int .i64 a0_4, .string a0_5] 23 (0, 0)) (by (with_reducible repeat (first | refine blk_drewN ?_ _ | refine blk_drew ?_ | refine blk_alloc ?_ _)); exact BK358.out) hb)
                                    have n2_ := Aside0.mk (blk_below (g := gb373) (o := .cells #[.int .i64 0, .int .i64 0, .int .i64 0, .int .i64 0, .int .i64 0, .string (⟨#[]⟩ : ByteArray)] 23 (0, 0)) (by (with_reducible repeat (first | refine blk_drewN ?_ _ | refine blk_drew ?_ | refine blk_alloc ?_ _)); exact BK373.out) hb)
                                    have n3_ := Aside0.mk (below_step (by repeat (first | (with_reducible first | exact HB.out | apply below_alloc | apply pw_below_drewN | apply below_drew1 | refine below_set ?_ GE358.out | refine below_set ?_ GE373.out) | exact HB.out)) hb)
                                    clear HO365
                                    clear BK358
                                    clear BK373
                                    clear HB
                                    have HO365 := n0_
                                    have BK358 := n1_
                                    have BK373 := n2_
                                    have HB := n3_
                                    clear n0_ n1_ n2_ n3_
                                    (try clear hb)
                                    (try clear hb2)
                                    (try clear hk)
                                    (try clear hi)
                                    refine hK.out _ _ trivial (fun hHeld => ?_)
                                    clear hK K
                                    refine norm_ (a' := ?_) ?_ ?_
                                    rotate_left
                                    · show Act.put _ (some 66) _ = _
                                      simp only [Act.put, List.setIfInBounds_toArray, List.set_cons_zero, List.set_cons_succ, i64_w, i32_w]
                                      rfl
                                    refine pure_ (i := 17) (N := some 49) (v := ?_) (a' := ?_) #[true, true, true, true, true, true, true, true, true, true, true, true, true, true, true, true, true, true, false, false, true, false, false] rfl rfl (any_of HT_.out (by kernel_rfl)) (fun _ _ _ h => h) (Or.inl ⟨by rfl, ?_⟩) ?_ ?_
                                    rotate_left
                                    · intro w'
                                      go_simp
                                      with_reducible rfl
                                    rotate_left
                                    · simp only [Act.put, List.setIfInBounds_toArray, List.set_cons_zero, List.set_cons_succ, i64_w, i32_w]
                                      rfl
                                    refine pure_ (i := 18) (N := some 67) (v := ?_) (a' := ?_) #[true, true, true, true, true, true, true, true, true, true, true, true, true, true, true, true, true, true, true, false, true, false, false] rfl rfl (any_of HT_.out (by kernel_rfl)) (fun _ _ _ h => h) (Or.inl ⟨by rfl, ?_⟩) ?_ ?_
                                    rotate_left
                                    · intro w'
                                      go_simp
                                      with_reducible rfl
                                    rotate_left
                                    · simp only [Act.put, List.setIfInBounds_toArray, List.set_cons_zero, List.set_cons_succ, i64_w, i32_w]
                                      rfl
                                    refine pure_ (i := 19) (N := some 68) (v := ?_) (a' := ?_) #[true, true, true, true, true, true, true, true, true, true, true, true, true, true, true, true, true, true, true, true, true, false, false] rfl rfl (any_of HT_.out (by kernel_rfl)) (fun _ _ _ h => h) (Or.inl ⟨by rfl, ?_⟩) ?_ ?_
                                    rotate_left
                                    · intro w'
                                      go_simp
                                      with_reducible rfl
                                    rotate_left
                                    · simp only [Act.put, List.setIfInBounds_toArray, List.set_cons_zero, List.set_cons_succ, i64_w, i32_w]
                                      rfl
                                    exact norm_ (by simp only [putAll, Act.put, List.setIfInBounds_toArray, List.set_cons_zero, List.set_cons_succ]) (hCont (v364, gb373) _ ⟨(by (with_reducible repeat (first | apply Kd.R_alloc | apply Kd.R_drewN | apply Kd.R_drew)); exact HO365.out), (by (with_reducible repeat (first | refine blk_drewN ?_ _ | refine blk_drew ?_ | refine blk_alloc ?_ _)); exact BK358.out), (by (with_reducible repeat (first | refine blk_drewN ?_ _ | refine blk_drew ?_ | refine blk_alloc ?_ _)); exact BK373.out), GW373.out, GE373.out, NB358_373.out, NB373_358.out, (by repeat (first | (with_reducible first | exact HB.out | apply below_alloc | apply pw_below_drewN | apply below_drew1 | refine below_set ?_ GE358.out | refine below_set ?_ GE373.out) | exact HB.out))⟩)
                                · skip
                                  refine box_step ?hg (N := 10) ?hd (cs := #[.int .i64 0, .int .i64 0, .int .i64 0, .int .i64 0, .int .i64 0, .string (⟨#[]⟩ : ByteArray)]) (t := 23) ?hr ?_; (case hd => rfl); (case hg => rfl); (case hr => first | (go_simp; done) | (go_simp; rfl))
                                  intro gb373 hg w38 hbox hb
                                  have n0_ := Aside0.mk (Kd.R_below (by (with_reducible repeat (first | apply Kd.R_alloc | apply Kd.R_drewN | apply Kd.R_drew)); exact HO365.out) hb)
                                  have n1_ := Aside0.mk (blk_below (g := gb358) (o := .cells #[.int .i64 a0_0, .int .i64 a0_1, .int .i64 a0_2, .int .i64 a0_3, .int .i64 a0_4, .string a0_5] 23 (0, 0)) (by (with_reducible repeat (first | refine blk_drewN ?_ _ | refine blk_drew ?_ | refine blk_alloc ?_ _)); exact BK358.out) hb)
                                  have n2_ := Aside0.mk (below_step (by repeat (first | (with_reducible first | exact HB.out | apply below_alloc | apply pw_below_drewN | apply below_drew1 | refine below_set ?_ GE358.out) | exact HB.out)) hb)
                                  have n3_ := Aside0.mk (hbox)
                                  have n4_ := Aside0.mk ((by rw [hg]; exact (below_size (by repeat (first | (with_reducible first | exact HB.out | apply below_alloc | apply pw_below_drewN | apply below_drew1 | refine below_set ?_ GE358.out) | exact HB.out))) : w.heap.size ≤ gb373))
                                  have n5_ := Aside0.mk ((by rw [hg]; exact (below_size (by repeat (first | (with_reducible first | exact HB.out | apply below_alloc | apply pw_below_drewN | apply below_drew1 | refine below_set ?_ GE358.out) | exact HB.out))) : w.heap.size ≤ gb373))
                                  have n6_ := Aside0.mk ((by rw [hg]; exact Nat.ne_of_lt (blk_lt (g := gb358) (o := .cells #[.int .i64 a0_0, .int .i64 a0_1, .int .i64 a0_2, .int .i64 a0_3, .int .i64 a0_4, .string a0_5] 23 (0, 0)) (by (with_reducible repeat (first | refine blk_drewN ?_ _ | refine blk_drew ?_ | refine blk_alloc ?_ _)); exact BK358.out)) : gb358 ≠ gb373))
                                  have n7_ := Aside0.mk ((by rw [hg]; exact Nat.ne_of_gt (blk_lt (g := gb358) (o := .cells #[.int .i64 a0_0, .int .i64 a0_1, .int .i64 a0_2, .int .i64 a0_3, .int .i64 a0_4, .string a0_5] 23 (0, 0)) (by (with_reducible repeat (first | refine blk_drewN ?_ _ | refine blk_drew ?_ | refine blk_alloc ?_ _)); exact BK358.out)) : gb373 ≠ gb358))
                                  clear HO365
                                  clear BK358
                                  clear HB
                                  have HO365 := n0_
                                  have BK358 := n1_
                                  have HB := n2_
                                  have BK373 := n3_
                                  have GW373 := n4_
                                  have GE373 := n5_
                                  have NB358_373 := n6_
                                  have NB373_358 := n7_
                                  clear n0_ n1_ n2_ n3_ n4_ n5_ n6_ n7_
                                  clear hb hbox hg
                                  refine hK.out _ _ trivial (fun hHeld => ?_)
                                  clear hK K
                                  refine norm_ (a' := ?_) ?_ ?_
                                  rotate_left
                                  · show Act.put _ (some 10) _ = _
                                    simp only [Act.put, List.setIfInBounds_toArray, List.set_cons_zero, List.set_cons_succ, i64_w, i32_w]
                                    rfl
                                  refine one_ (i := 9) (N := some 59) #[true, true, true, true, true, true, true, true, true, true, false, true, true, true, true, false, false, false, false, false, true, false, false] rfl rfl (one_of HT_.out (by kernel_rfl)) (by decide) (fun K hK => ?_)
                                  have hcv39 := own_string (P := Tryd.prog) Tryd.underlying41 Tryd.underlying5 Tryd.underlying9 (Kd.own_of_R HO365.out)
                                  refine value_ (w1 := ?_) (v := ?_) (by rfl) rfl ?_ ?_
                                  rotate_left 2
                                  · go_simp
                                    constructor
                                    · rfl
                                    · rfl
                                  clear hcv39
                                  refine hK.out _ _ trivial (fun hHeld => ?_)
                                  clear hK K
                                  refine norm_ (a' := ?_) ?_ ?_
                                  rotate_left
                                  · show Act.put _ (some 59) _ = _
                                    simp only [Act.put, List.setIfInBounds_toArray, List.set_cons_zero, List.set_cons_succ, i64_w, i32_w]
                                    rfl
                                  refine pure_ (i := 10) (N := some 60) (v := ?_) (a' := ?_) #[true, true, true, true, true, true, true, true, true, true, true, true, true, true, true, false, false, false, false, false, true, false, false] rfl rfl (any_of HT_.out (by kernel_rfl)) (fun _ _ _ h => h) (Or.inl ⟨by rfl, ?_⟩) ?_ ?_
                                  rotate_left
                                  · intro w'
                                    go_simp
                                    with_reducible rfl
                                  rotate_left
                                  · simp only [Act.put, List.setIfInBounds_toArray, List.set_cons_zero, List.set_cons_succ, i64_w, i32_w]
                                    rfl
                                  refine pure_ (i := 15) (N := some 65) (v := ?_) (a' := ?_) #[true, true, true, true, true, true, true, true, true, true, true, true, true, true, true, true, false, false, false, false, true, false, false] rfl rfl (any_of HT_.out (by kernel_rfl)) (fun _ _ _ h => h) (Or.inl ⟨by rfl, ?_⟩) ?_ ?_
                                  rotate_left
                                  · intro w'
                                    go_simp
                                    with_reducible rfl
                                  rotate_left
                                  · simp only [Act.put, List.setIfInBounds_toArray, List.set_cons_zero, List.set_cons_succ, i64_w, i32_w]
                                    rfl
                                  refine one_ (i := 16) (N := some 66) #[true, true, true, true, true, true, true, true, true, true, true, true, true, true, true, true, true, false, false, false, true, false, false] rfl rfl (one_of HT_.out (by kernel_rfl)) (by decide) (fun K hK => ?_)
                                  refine goes_ Tryd.func14 (by kernel_rfl) rfl #[.string (((t361.extract 0 ((ji21) : Int).toNat) ++ (strOfNums y363)) ++ (t361.extract ((ji27) : Int).toNat t361.size))] (by rfl) rfl rfl (by (try simp only [List.map_toArray, List.map_cons, List.map_nil]); first | done | (simp only [hji21, hji27]; rfl) | rfl | (simp only [List.length_drop, List.length_take]; rfl)) ?_
                                  with_reducible refine (ask_Get.calls (((t361.extract 0 ((ji21) : Int).toNat) ++ (strOfNums y363)) ++ (t361.extract ((ji27) : Int).toNat t361.size)) t366 t367 t368 t369 t370 t371 true _ A31.out).mono ?_
                                  rintro e w40 ⟨rfl, hb⟩
                                  refine ⟨_, rfl, ?_⟩
                                  have n0_ := Aside0.mk (Kd.R_below (by (with_reducible repeat (first | apply Kd.R_alloc | apply Kd.R_drewN | apply Kd.R_drew)); exact HO365.out) hb)
                                  have n1_ := Aside0.mk (blk_below (g := gb358) (o := .cells #[.int .i64 a0_0, .int .i64 a0_1, .int .i64 a0_2, .int .i64 a0_3, .int .i64 a0_4, .string a0_5] 23 (0, 0)) (by (with_reducible repeat (first | refine blk_drewN ?_ _ | refine blk_drew ?_ | refine blk_alloc ?_ _)); exact BK358.out) hb)
                                  have n2_ := Aside0.mk (blk_below (g := gb373) (o := .cells #[.int .i64 0, .int .i64 0, .int .i64 0, .int .i64 0, .int .i64 0, .string (⟨#[]⟩ : ByteArray)] 23 (0, 0)) (by (with_reducible repeat (first | refine blk_drewN ?_ _ | refine blk_drew ?_ | refine blk_alloc ?_ _)); exact BK373.out) hb)
                                  have n3_ := Aside0.mk (below_step (by repeat (first | (with_reducible first | exact HB.out | apply below_alloc | apply pw_below_drewN | apply below_drew1 | refine below_set ?_ GE358.out | refine below_set ?_ GE373.out) | exact HB.out)) hb)
                                  clear HO365
                                  clear BK358
                                  clear BK373
                                  clear HB
                                  have HO365 := n0_
                                  have BK358 := n1_
                                  have BK373 := n2_
                                  have HB := n3_
                                  clear n0_ n1_ n2_ n3_
                                  (try clear hb)
                                  (try clear hb2)
                                  (try clear hk)
                                  (try clear hi)
                                  refine hK.out _ _ trivial (fun hHeld => ?_)
                                  clear hK K
                                  refine norm_ (a' := ?_) ?_ ?_
                                  rotate_left
                                  · show Act.put _ (some 66) _ = _
                                    simp only [Act.put, List.setIfInBounds_toArray, List.set_cons_zero, List.set_cons_succ, i64_w, i32_w]
                                    rfl
                                  refine pure_ (i := 17) (N := some 49) (v := ?_) (a' := ?_) #[true, true, true, true, true, true, true, true, true, true, true, true, true, true, true, true, true, true, false, false, true, false, false] rfl rfl (any_of HT_.out (by kernel_rfl)) (fun _ _ _ h => h) (Or.inl ⟨by rfl, ?_⟩) ?_ ?_
                                  rotate_left
                                  · intro w'
                                    go_simp
                                    with_reducible rfl
                                  rotate_left
                                  · simp only [Act.put, List.setIfInBounds_toArray, List.set_cons_zero, List.set_cons_succ, i64_w, i32_w]
                                    rfl
                                  refine pure_ (i := 18) (N := some 67) (v := ?_) (a' := ?_) #[true, true, true, true, true, true, true, true, true, true, true, true, true, true, true, true, true, true, true, false, true, false, false] rfl rfl (any_of HT_.out (by kernel_rfl)) (fun _ _ _ h => h) (Or.inl ⟨by rfl, ?_⟩) ?_ ?_
                                  rotate_left
                                  · intro w'
                                    go_simp
                                    with_reducible rfl
                                  rotate_left
                                  · simp only [Act.put, List.setIfInBounds_toArray, List.set_cons_zero, List.set_cons_succ, i64_w, i32_w]
                                    rfl
                                  refine pure_ (i := 19) (N := some 68) (v := ?_) (a' := ?_) #[true, true, true, true, true, true, true, true, true, true, true, true, true, true, true, true, true, true, true, true, true, false, false] rfl rfl (any_of HT_.out (by kernel_rfl)) (fun _ _ _ h => h) (Or.inl ⟨by rfl, ?_⟩) ?_ ?_
                                  rotate_left
                                  · intro w'
                                    go_simp
                                    with_reducible rfl
                                  rotate_left
                                  · simp only [Act.put, List.setIfInBounds_toArray, List.set_cons_zero, List.set_cons_succ, i64_w, i32_w]
                                    rfl
                                  exact norm_ (by simp only [putAll, Act.put, List.setIfInBounds_toArray, List.set_cons_zero, List.set_cons_succ]) (hCont (v364, gb373) _ ⟨(by (with_reducible repeat (first | apply Kd.R_alloc | apply Kd.R_drewN | apply Kd.R_drew)); exact HO365.out), (by (with_reducible repeat (first | refine blk_drewN ?_ _ | refine blk_drew ?_ | refine blk_alloc ?_ _)); exact BK358.out), (by (with_reducible repeat (first | refine blk_drewN ?_ _ | refine blk_drew ?_ | refine blk_alloc ?_ _)); exact BK373.out), GW373.out, GE373.out, NB358_373.out, NB373_358.out, (by repeat (first | (with_reducible first | exact HB.out | apply below_alloc | apply pw_below_drewN | apply below_drew1 | refine below_set ?_ GE358.out | refine below_set ?_ GE373.out) | exact HB.out))⟩)
                              · skip
                                refine box_step ?hg (N := 10) ?hd (cs := #[.int .i64 0, .int .i64 0, .int .i64 0, .int .i64 0, .int .i64 0, .string (⟨#[]⟩ : ByteArray)]) (t := 23) ?hr ?_; (case hd => rfl); (case hg => rfl); (case hr => first | (go_simp; done) | (go_simp; rfl))
                                intro gb373 hg w36 hbox hb
                                have n0_ := Aside0.mk (blk_below (g := gb358) (o := .cells #[.int .i64 a0_0, .int .i64 a0_1, .int .i64 a0_2, .int .i64 a0_3, .int .i64 a0_4, .string a0_5] 23 (0, 0)) (by (with_reducible repeat (first | refine blk_drewN ?_ _ | refine blk_drew ?_ | refine blk_alloc ?_ _)); exact BK358.out) hb)
                                have n1_ := Aside0.mk (below_step (by repeat (first | (with_reducible first | exact HB.out | apply below_alloc | apply pw_below_drewN | apply below_drew1 | refine below_set ?_ GE358.out) | exact HB.out)) hb)
                                have n2_ := Aside0.mk (hbox)
                                have n3_ := Aside0.mk ((by rw [hg]; exact (below_size (by repeat (first | (with_reducible first | exact HB.out | apply below_alloc | apply pw_below_drewN | apply below_drew1 | refine below_set ?_ GE358.out) | exact HB.out))) : w.heap.size ≤ gb373))
                                have n4_ := Aside0.mk ((by rw [hg]; exact (below_size (by repeat (first | (with_reducible first | exact HB.out | apply below_alloc | apply pw_below_drewN | apply below_drew1 | refine below_set ?_ GE358.out) | exact HB.out))) : w.heap.size ≤ gb373))
                                have n5_ := Aside0.mk ((by rw [hg]; exact Nat.ne_of_lt (blk_lt (g := gb358) (o := .cells #[.int .i64 a0_0, .int .i64 a0_1, .int .i64 a0_2, .int .i64 a0_3, .int .i64 a0_4, .string a0_5] 23 (0, 0)) (by (with_reducible repeat (first | refine blk_drewN ?_ _ | refine blk_drew ?_ | refine blk_alloc ?_ _)); exact BK358.out)) : gb358 ≠ gb373))
                                have n6_ := Aside0.mk ((by rw [hg]; exact Nat.ne_of_gt (blk_lt (g := gb358) (o := .cells #[.int .i64 a0_0, .int .i64 a0_1, .int .i64 a0_2, .int .i64 a0_3, .int .i64 a0_4, .string a0_5] 23 (0, 0)) (by (with_reducible repeat (first | refine blk_drewN ?_ _ | refine blk_drew ?_ | refine blk_alloc ?_ _)); exact BK358.out)) : gb373 ≠ gb358))
                                clear BK358
                                clear HB
                                have BK358 := n0_
                                have HB := n1_
                                have BK373 := n2_
                                have GW373 := n3_
                                have GE373 := n4_
                                have NB358_373 := n5_
                                have NB373_358 := n6_
                                clear n0_ n1_ n2_ n3_ n4_ n5_ n6_
                                clear hb hbox hg
                                refine hK.out _ _ trivial (fun hHeld => ?_)
                                clear hK K
                                refine norm_ (a' := ?_) ?_ ?_
                                rotate_left
                                · show Act.put _ (some 10) _ = _
                                  simp only [Act.put, List.setIfInBounds_toArray, List.set_cons_zero, List.set_cons_succ, i64_w, i32_w]
                                  rfl
                                refine one_ (i := 8) (N := some 58) #[true, true, true, true, true, true, true, true, true, false, false, true, true, true, true, false, false, false, false, false, true, false, false] rfl rfl (one_of HT_.out (by kernel_rfl)) (by decide) (fun K hK => ?_)
                                refine Kd.R_lit_step (Kd.int .u8) _ 5 ?hg (N := 58) ?hd (xs := ([Go.bits .xor .u8 (bt t361 (ji21)) a2] : List Int)) (inner := [.int .u8 (Go.bits .xor .u8 (bt t361 (ji21)) a2)]) (ok := fun _ => True) (okp := fun _ => True) ?hr ?hp (fun _ hk => hk) trivial (Below.refl _ _) (Nat.le_refl _) (by simp) ?_; (case hd => rfl); (case hg => rfl); (case hr => first | (go_simp; done) | (go_simp; rfl)); (case hp => exact (Reps.one (show Kd.M (Kd.int .u8) _ _ _ (Go.bits .xor .u8 (bt t361 (ji21)) a2) [.int .u8 (Go.bits .xor .u8 (bt t361 (ji21)) a2)] from rfl) (Reps.none _ _)))
                                intro v364 w37 ho38 hb hg_ hnew_
                                clear hg_ hnew_
                                (first | rw [← Ny363.out] at ho38 | (simp only [Int.reduceToNat] at ho38; rw [← Ny363.out] at ho38))
                                have n0_ := Aside0.mk (Kd.R_lower ho38 (below_size (by repeat (first | (with_reducible first | exact HB.out | apply below_alloc | apply pw_below_drewN | apply below_drew1 | refine below_set ?_ GE358.out | refine below_set ?_ GE373.out) | exact HB.out))))
                                have n1_ := Aside0.mk (blk_below (g := gb358) (o := .cells #[.int .i64 a0_0, .int .i64 a0_1, .int .i64 a0_2, .int .i64 a0_3, .int .i64 a0_4, .string a0_5] 23 (0, 0)) (by (with_reducible repeat (first | refine blk_drewN ?_ _ | refine blk_drew ?_ | refine blk_alloc ?_ _)); exact BK358.out) hb)
                                have n2_ := Aside0.mk (blk_below (g := gb373) (o := .cells #[.int .i64 0, .int .i64 0, .int .i64 0, .int .i64 0, .int .i64 0, .string (⟨#[]⟩ : ByteArray)] 23 (0, 0)) (by (with_reducible repeat (first | refine blk_drewN ?_ _ | refine blk_drew ?_ | refine blk_alloc ?_ _)); exact BK373.out) hb)
                                have n3_ := Aside0.mk (below_step (by repeat (first | (with_reducible first | exact HB.out | apply below_alloc | apply pw_below_drewN | apply below_drew1 | refine below_set ?_ GE358.out | refine below_set ?_ GE373.out) | exact HB.out)) hb)
                                clear BK358
                                clear BK373
                                clear HB
                                have HO365 := n0_
                                have BK358 := n1_
                                have BK373 := n2_
                                have HB := n3_
                                clear n0_ n1_ n2_ n3_
                                clear hb ho38
                                refine hK.out _ _ trivial (fun hHeld => ?_)
                                clear hK K
                                refine norm_ (a' := ?_) ?_ ?_
                                rotate_left
                                · show Act.put _ (some 58) _ = _
                                  simp only [Act.put, List.setIfInBounds_toArray, List.set_cons_zero, List.set_cons_succ, i64_w, i32_w]
                                  rfl
                                refine one_ (i := 9) (N := some 59) #[true, true, true, true, true, true, true, true, true, true, false, true, true, true, true, false, false, false, false, false, true, false, false] rfl rfl (one_of HT_.out (by kernel_rfl)) (by decide) (fun K hK => ?_)
                                have hcv39 := own_string (P := Tryd.prog) Tryd.underlying41 Tryd.underlying5 Tryd.underlying9 (Kd.own_of_R HO365.out)
                                refine value_ (w1 := ?_) (v := ?_) (by rfl) rfl ?_ ?_
                                rotate_left 2
                                · go_simp
                                  constructor
                                  · rfl
                                  · rfl
                                clear hcv39
                                refine hK.out _ _ trivial (fun hHeld => ?_)
                                clear hK K
                                refine norm_ (a' := ?_) ?_ ?_
                                rotate_left
                                · show Act.put _ (some 59) _ = _
                                  simp only [Act.put, List.setIfInBounds_toArray, List.set_cons_zero, List.set_cons_succ, i64_w, i32_w]
                                  rfl
                                refine pure_ (i := 10) (N := some 60) (v := ?_) (a' := ?_) #[true, true, true, true, true, true, true, true, true, true, true, true, true, true, true, false, false, false, false, false, true, false, false] rfl rfl (any_of HT_.out (by kernel_rfl)) (fun _ _ _ h => h) (Or.inl ⟨by rfl, ?_⟩) ?_ ?_
                                rotate_left
                                · intro w'
                                  go_simp
                                  with_reducible rfl
                                rotate_left
                                · simp only [Act.put, List.setIfInBounds_toArray, List.set_cons_zero, List.set_cons_succ, i64_w, i32_w]
                                  rfl
                                refine pure_ (i := 15) (N := some 65) (v := ?_) (a' := ?_) #[true, true, true, true, true, true, true, true, true, true, true, true, true, true, true, true, false, false, false, false, true, false, false] rfl rfl (any_of HT_.out (by kernel_rfl)) (fun _ _ _ h => h) (Or.inl ⟨by rfl, ?_⟩) ?_ ?_
                                rotate_left
                                · intro w'
                                  go_simp
                                  with_reducible rfl
                                rotate_left
                                · simp only [Act.put, List.setIfInBounds_toArray, List.set_cons_zero, List.set_cons_succ, i64_w, i32_w]
                                  rfl
                                refine one_ (i := 16) (N := some 66) #[true, true, true, true, true, true, true, true, true, true, true, true, true, true, true, true, true, false, false, false, true, false, false] rfl rfl (one_of HT_.out (by kernel_rfl)) (by decide) (fun K hK => ?_)
                                refine goes_ Tryd.func14 (by kernel_rfl) rfl #[.string (((t361.extract 0 ((ji21) : Int).toNat) ++ (strOfNums y363)) ++ (t361.extract ((ji27) : Int).toNat t361.size))] (by rfl) rfl rfl (by (try simp only [List.map_toArray, List.map_cons, List.map_nil]); first | done | (simp only [hji21, hji27]; rfl) | rfl | (simp only [List.length_drop, List.length_take]; rfl)) ?_
                                with_reducible refine (ask_Get.calls (((t361.extract 0 ((ji21) : Int).toNat) ++ (strOfNums y363)) ++ (t361.extract ((ji27) : Int).toNat t361.size)) t366 t367 t368 t369 t370 t371 true _ A31.out).mono ?_
                                rintro e w40 ⟨rfl, hb⟩
                                refine ⟨_, rfl, ?_⟩
                                have n0_ := Aside0.mk (Kd.R_below (by (with_reducible repeat (first | apply Kd.R_alloc | apply Kd.R_drewN | apply Kd.R_drew)); exact HO365.out) hb)
                                have n1_ := Aside0.mk (blk_below (g := gb358) (o := .cells #[.int .i64 a0_0, .int .i64 a0_1, .int .i64 a0_2, .int .i64 a0_3, .int .i64 a0_4, .string a0_5] 23 (0, 0)) (by (with_reducible repeat (first | refine blk_drewN ?_ _ | refine blk_drew ?_ | refine blk_alloc ?_ _)); exact BK358.out) hb)
                                have n2_ := Aside0.mk (blk_below (g := gb373) (o := .cells #[.int .i64 0, .int .i64 0, .int .i64 0, .int .i64 0, .int .i64 0, .string (⟨#[]⟩ : ByteArray)] 23 (0, 0)) (by (with_reducible repeat (first | refine blk_drewN ?_ _ | refine blk_drew ?_ | refine blk_alloc ?_ _)); exact BK373.out) hb)
                                have n3_ := Aside0.mk (below_step (by repeat (first | (with_reducible first | exact HB.out | apply below_alloc | apply pw_below_drewN | apply below_drew1 | refine below_set ?_ GE358.out | refine below_set ?_ GE373.out) | exact HB.out)) hb)
                                clear HO365
                                clear BK358
                                clear BK373
                                clear HB
                                have HO365 := n0_
                                have BK358 := n1_
                                have BK373 := n2_
                                have HB := n3_
                                clear n0_ n1_ n2_ n3_
                                (try clear hb)
                                (try clear hb2)
                                (try clear hk)
                                (try clear hi)
                                refine hK.out _ _ trivial (fun hHeld => ?_)
                                clear hK K
                                refine norm_ (a' := ?_) ?_ ?_
                                rotate_left
                                · show Act.put _ (some 66) _ = _
                                  simp only [Act.put, List.setIfInBounds_toArray, List.set_cons_zero, List.set_cons_succ, i64_w, i32_w]
                                  rfl
                                refine pure_ (i := 17) (N := some 49) (v := ?_) (a' := ?_) #[true, true, true, true, true, true, true, true, true, true, true, true, true, true, true, true, true, true, false, false, true, false, false] rfl rfl (any_of HT_.out (by kernel_rfl)) (fun _ _ _ h => h) (Or.inl ⟨by rfl, ?_⟩) ?_ ?_
                                rotate_left
                                · intro w'
                                  go_simp
                                  with_reducible rfl
                                rotate_left
                                · simp only [Act.put, List.setIfInBounds_toArray, List.set_cons_zero, List.set_cons_succ, i64_w, i32_w]
                                  rfl
                                refine pure_ (i := 18) (N := some 67) (v := ?_) (a' := ?_) #[true, true, true, true, true, true, true, true, true, true, true, true, true, true, true, true, true, true, true, false, true, false, false] rfl rfl (any_of HT_.out (by kernel_rfl)) (fun _ _ _ h => h) (Or.inl ⟨by rfl, ?_⟩) ?_ ?_
                                rotate_left
                                · intro w'
                                  go_simp
                                  with_reducible rfl
                                rotate_left
                                · simp only [Act.put, List.setIfInBounds_toArray, List.set_cons_zero, List.set_cons_succ, i64_w, i32_w]
                                  rfl
                                refine pure_ (i := 19) (N := some 68) (v := ?_) (a' := ?_) #[true, true, true, true, true, true, true, true, true, true, true, true, true, true, true, true, true, true, true, true, true, false, false] rfl rfl (any_of HT_.out (by kernel_rfl)) (fun _ _ _ h => h) (Or.inl ⟨by rfl, ?_⟩) ?_ ?_
                                rotate_left
                                · intro w'
                                  go_simp
                                  with_reducible rfl
                                rotate_left
                                · simp only [Act.put, List.setIfInBounds_toArray, List.set_cons_zero, List.set_cons_succ, i64_w, i32_w]
                                  rfl
                                exact norm_ (by simp only [putAll, Act.put, List.setIfInBounds_toArray, List.set_cons_zero, List.set_cons_succ]) (hCont (v364, gb373) _ ⟨(by (with_reducible repeat (first | apply Kd.R_alloc | apply Kd.R_drewN | apply Kd.R_drew)); exact HO365.out), (by (with_reducible repeat (first | refine blk_drewN ?_ _ | refine blk_drew ?_ | refine blk_alloc ?_ _)); exact BK358.out), (by (with_reducible repeat (first | refine blk_drewN ?_ _ | refine blk_drew ?_ | refine blk_alloc ?_ _)); exact BK373.out), GW373.out, GE373.out, NB358_373.out, NB373_358.out, (by repeat (first | (with_reducible first | exact HB.out | apply below_alloc | apply pw_below_drewN | apply below_drew1 | refine below_set ?_ GE358.out | refine below_set ?_ GE373.out) | exact HB.out))⟩)
                            rintro ⟨v364, gb373⟩ w41 ⟨h0_, h1_, h2_, h3_, h4_, h5_, h6_, h7_⟩
                            have n0_ : Aside0 (Kd.R (Kd.int .u8) 5 w41 w.heap.size (fun _ => True) v364 y363) := ⟨h0_⟩
                            have n1_ : Aside0 (w41.heap[gb358]? = some (.cells #[.int .i64 a0_0, .int .i64 a0_1, .int .i64 a0_2, .int .i64 a0_3, .int .i64 a0_4, .string a0_5] 23 (0, 0))) := ⟨h1_⟩
                            have n2_ : Aside0 (w41.heap[gb373]? = some (.cells #[.int .i64 0, .int .i64 0, .int .i64 0, .int .i64 0, .int .i64 0, .string (⟨#[]⟩ : ByteArray)] 23 (0, 0))) := ⟨h2_⟩
                            have n3_ : Aside0 (w.heap.size ≤ gb373) := ⟨h3_⟩
                            have n4_ : Aside0 (w.heap.size ≤ gb373) := ⟨h4_⟩
                            have n5_ : Aside0 (gb358 ≠ gb373) := ⟨h5_⟩
                            have n6_ : Aside0 (gb373 ≠ gb358) := ⟨h6_⟩
                            have n7_ : Aside0 (Below w.heap.size w w41) := ⟨h7_⟩
                            clear BK358
                            clear HB
                            clear h0_ h1_ h2_ h3_ h4_ h5_ h6_ h7_
                            have HO365 := n0_
                            have BK358 := n1_
                            have BK373 := n2_
                            have GW373 := n3_
                            have GE373 := n4_
                            have NB358_373 := n5_
                            have NB373_358 := n6_
                            have HB := n7_
                            clear n0_ n1_ n2_ n3_ n4_ n5_ n6_ n7_
                            have hHeld := trivial
                            refine norm_ (a' := ?_) ?_ ?_
                            rotate_left
                            · simp only [putAll, Act.put, List.setIfInBounds_toArray, List.set_cons_zero, List.set_cons_succ]
                              rfl
                            refine one_ (i := 21) (N := none) #[true, true, true, true, true, true, true, true, true, true, true, true, true, true, true, true, true, true, true, true, true, true, false] rfl rfl (one_of HT_.out (by kernel_rfl)) (by decide) (fun K hK => ?_)
                            have hs42 : w41.cell? ⟨gb373, 0, none⟩ = some (.int .i64 0) := (blk_cell BK373.out 0).trans rfl
                            have hfs42 := blk_frozen BK373.out 0
                            have hns42_0 := NB358_373.out
                            have hms42_0 := NB373_358.out
                            have hs43 : w41.cell? ⟨gb373, 1, none⟩ = some (.int .i64 0) := (blk_cell BK373.out 1).trans rfl
                            have hfs43 := blk_frozen BK373.out 1
                            have hns43_0 := NB358_373.out
                            have hms43_0 := NB373_358.out
                            have hs44 : w41.cell? ⟨gb373, 2, none⟩ = some (.int .i64 0) := (blk_cell BK373.out 2).trans rfl
                            have hfs44 := blk_frozen BK373.out 2
                            have hns44_0 := NB358_373.out
                            have hms44_0 := NB373_358.out
                            have hs45 : w41.cell? ⟨gb373, 3, none⟩ = some (.int .i64 0) := (blk_cell BK373.out 3).trans rfl
                            have hfs45 := blk_frozen BK373.out 3
                            have hns45_0 := NB358_373.out
                            have hms45_0 := NB373_358.out
                            have hs46 : w41.cell? ⟨gb373, 4, none⟩ = some (.int .i64 0) := (blk_cell BK373.out 4).trans rfl
                            have hfs46 := blk_frozen BK373.out 4
                            have hns46_0 := NB358_373.out
                            have hms46_0 := NB373_358.out
                            have hs47 : w41.cell? ⟨gb373, 5, none⟩ = some (.string (⟨#[]⟩ : ByteArray)) := (blk_cell BK373.out 5).trans rfl
                            have hfs47 := blk_frozen BK373.out 5
                            have hns47_0 := NB358_373.out
                            have hms47_0 := NB373_358.out
                            refine skip_ (w1 := ?_) (by rfl) rfl ?_ ?_
                            rotate_left
                            · go_simp
                              rfl
                            refine hK.out _ _ trivial (fun hHeld => ?_)
                            clear hK K
                            refine pure_ (i := 22) (N := some 11) (v := ?_) (a' := ?_) #[true, true, true, true, true, true, true, true, true, true, true, true, true, true, true, true, true, true, true, true, true, true, true] rfl rfl (any_of HT_.out (by kernel_rfl)) (fun _ _ _ h => h) (Or.inl ⟨by rfl, ?_⟩) ?_ ?_
                            rotate_left
                            · intro w'
                              go_simp
                              with_reducible rfl
                            rotate_left
                            · simp only [Act.put, List.setIfInBounds_toArray, List.set_cons_zero, List.set_cons_succ, i64_w, i32_w]
                              rfl
                            refine done_ (done_of HT_.out (by kernel_rfl)) ?_
                            have hnb48 := NB373_358.out
                            have hnc48 := NB358_373.out
                            have hcz49_0 : w41.cell? ⟨gb373, 0, none⟩ = some (.int .i64 0) := (blk_cell BK373.out 0).trans rfl
                            have hcz49_1 : w41.cell? ⟨gb373, 1, none⟩ = some (.int .i64 0) := (blk_cell BK373.out 1).trans rfl
                            have hcz49_2 : w41.cell? ⟨gb373, 2, none⟩ = some (.int .i64 0) := (blk_cell BK373.out 2).trans rfl
                            have hcz49_3 : w41.cell? ⟨gb373, 3, none⟩ = some (.int .i64 0) := (blk_cell BK373.out 3).trans rfl
                            have hcz49_4 : w41.cell? ⟨gb373, 4, none⟩ = some (.int .i64 0) := (blk_cell BK373.out 4).trans rfl
                            have hcz49_5 : w41.cell? ⟨gb373, 5, none⟩ = some (.string (⟨#[]⟩ : ByteArray)) := (blk_cell BK373.out 5).trans rfl
                            have hfz49_0 := blk_frozen BK373.out 0
                            have hfz49_1 := blk_frozen BK373.out 1
                            have hfz49_2 := blk_frozen BK373.out 2
                            have hfz49_3 := blk_frozen BK373.out 3
                            have hfz49_4 := blk_frozen BK373.out 4
                            have hfz49_5 := blk_frozen BK373.out 5
                            have hcz50_0 : w41.cell? ⟨gb358, 0, none⟩ = some (.int .i64 a0_0) := (blk_cell BK358.out 0).trans rfl
                            have hcz50_1 : w41.cell? ⟨gb358, 1, none⟩ = some (.int .i64 a0_1) := (blk_cell BK358.out 1).trans rfl
                            have hcz50_2 : w41.cell? ⟨gb358, 2, none⟩ = some (.int .i64 a0_2) := (blk_cell BK358.out 2).trans rfl
                            have hcz50_3 : w41.cell? ⟨gb358, 3, none⟩ = some (.int .i64 a0_3) := (blk_cell BK358.out 3).trans rfl
                            have hcz50_4 : w41.cell? ⟨gb358, 4, none⟩ = some (.int .i64 a0_4) := (blk_cell BK358.out 4).trans rfl
                            have hcz50_5 : w41.cell? ⟨gb358, 5, none⟩ = some (.string a0_5) := (blk_cell BK358.out 5).trans rfl
                            have hfz50_0 := blk_frozen BK358.out 0
                            have hfz50_1 := blk_frozen BK358.out 1
                            have hfz50_2 := blk_frozen BK358.out 2
                            have hfz50_3 := blk_frozen BK358.out 3
                            have hfz50_4 := blk_frozen BK358.out 4
                            have hfz50_5 := blk_frozen BK358.out 5
                            try go_wp2
                            go_ret
                            exact ⟨by first | rfl | (simp [errW_none, errW_some] <;> rfl) | (simp only [← hji21, ← hji27]; first | rfl | (simp [errW_none, errW_some] <;> rfl)) | (simp [*, errW_none, errW_some] <;> rfl), by repeat (first | (with_reducible first | exact HB.out | apply below_alloc | apply pw_below_drewN | apply below_drew1 | refine below_set ?_ GE358.out | refine below_set ?_ GE373.out) | exact HB.out)⟩
                          · replace c32 := Bool.eq_false_iff.mpr c32
                            subst c32
                            have H1 : (some true) = some r := by rw [if_neg (show ¬ (false = true) by decide)] at H; exact H
                            clear H
                            have H := H1
                            clear H1
                            obtain rfl := Option.some.inj H
                            have hcz51_0 : wc.cell? ⟨gb358, 0, none⟩ = some (.int .i64 a0_0) := (blk_cell BK358.out 0).trans rfl
                            have hcz51_1 : wc.cell? ⟨gb358, 1, none⟩ = some (.int .i64 a0_1) := (blk_cell BK358.out 1).trans rfl
                            have hcz51_2 : wc.cell? ⟨gb358, 2, none⟩ = some (.int .i64 a0_2) := (blk_cell BK358.out 2).trans rfl
                            have hcz51_3 : wc.cell? ⟨gb358, 3, none⟩ = some (.int .i64 a0_3) := (blk_cell BK358.out 3).trans rfl
                            have hcz51_4 : wc.cell? ⟨gb358, 4, none⟩ = some (.int .i64 a0_4) := (blk_cell BK358.out 4).trans rfl
                            have hcz51_5 : wc.cell? ⟨gb358, 5, none⟩ = some (.string a0_5) := (blk_cell BK358.out 5).trans rfl
                            have hfz51_0 := blk_frozen BK358.out 0
                            have hfz51_1 := blk_frozen BK358.out 1
                            have hfz51_2 := blk_frozen BK358.out 2
                            have hfz51_3 := blk_frozen BK358.out 3
                            have hfz51_4 := blk_frozen BK358.out 4
                            have hfz51_5 := blk_frozen BK358.out 5
                            try go_wp2_with (first | ((with_reducible refine gate_callee (f := 12) rfl ?_); refine goesL_ (some 27) rfl rfl Tryd.func12 (by kernel_rfl) rfl #[.agg #[.int .i64 a0_0, .int .i64 a0_1, .int .i64 a0_2, .int .i64 a0_3, .int .i64 a0_4, .string a0_5]] rfl (by (try simp only [List.map_toArray, List.map_cons, List.map_nil]); first | done | rfl | (simp only [List.length_drop, List.length_take]; rfl)) ?_; (with_reducible refine (ask_Put.calls kj3 a0_0 a0_1 a0_2 a0_3 a0_4 a0_5 t361 true _ A16.out).mono ?_); rintro e w52 ⟨rfl, hb⟩; refine ⟨_, rfl, ?_⟩; have n0_ := Aside0.mk (blk_below (g := gb358) (o := .cells #[.int .i64 a0_0, .int .i64 a0_1, .int .i64 a0_2, .int .i64 a0_3, .int .i64 a0_4, .string a0_5] 23 (0, 0)) (by (with_reducible repeat (first | refine blk_drewN ?_ _ | refine blk_drew ?_ | refine blk_alloc ?_ _)); exact BK358.out) hb); have n1_ := Aside0.mk (below_step (by repeat (first | (with_reducible first | exact HB.out | apply below_alloc | apply pw_below_drewN | apply below_drew1 | refine below_set ?_ GE358.out) | exact HB.out)) hb); clear BK358; clear HB; have BK358 := n0_; have HB := n1_; clear n0_ n1_; (try clear hb); (try clear hb2); (try clear hk); (try clear hi)))
                            have n0_ := Aside0.mk (blk_drew BK358.out)
                            have n1_ := Aside0.mk (below_drew1 HB.out)
                            clear BK358
                            clear HB
                            have BK358 := n0_
                            have HB := n1_
                            clear n0_ n1_
                            have p25 : 0 ≤ ((ji21) : Int) := of_decide_eq_true (by first | (with_reducible assumption) | assumption)
                            have q25 : (ji21) < (t361.size : Int) := of_decide_eq_true (by first | (with_reducible assumption) | assumption)
                            have hx25 := bt_at t361 (ji21)
                            replace p25 := eq_true p25
                            replace q25 := eq_true q25
                            refine start_ (n := 23) (S := fun w' => True) (ds := []) #[false, false, false, false, false, false, false, false, false, false, false, false, false, false, false, false, false, false, false, false, false, false, false] (by kernel_rfl) rfl rfl trivial (fun hHeld => ?_); refine with_tabW scriniumlaw20_AskBytes.tab7 scriniumlaw20_AskBytes.bits7 (fun HT_ HW_ => ?_)
                            generalize w52.drew = w53 at BK358 HB hHeld ⊢
                            refine pure_ (i := 0) (N := some 50) (v := ?_) (a' := ?_) #[true, false, false, false, false, false, false, false, false, false, false, false, false, false, false, false, false, false, false, false, false, false, false] rfl rfl (any_of HT_.out (by kernel_rfl)) (fun _ _ _ h => h) (Or.inl ⟨by rfl, ?_⟩) ?_ ?_
                            rotate_left
                            · intro w'
                              go_simp
                              with_reducible rfl
                            rotate_left
                            · simp only [Act.put, List.setIfInBounds_toArray, List.set_cons_zero, List.set_cons_succ, i64_w, i32_w]
                              rfl
                            refine pure_ (i := 1) (N := some 51) (v := ?_) (a' := ?_) #[true, true, false, false, false, false, false, false, false, false, false, false, false, false, false, false, false, false, false, false, false, false, false] rfl rfl (any_of HT_.out (by kernel_rfl)) (fun _ _ _ h => h) (Or.inl ⟨by rfl, ?_⟩) ?_ ?_
                            rotate_left
                            · intro w'
                              go_simp
                              with_reducible rfl
                            rotate_left
                            · simp only [Act.put, List.setIfInBounds_toArray, List.set_cons_zero, List.set_cons_succ, i64_w, i32_w]
                              rfl
                            refine pure_ (i := 2) (N := some 52) (v := ?_) (a' := ?_) #[true, true, true, false, false, false, false, false, false, false, false, false, false, false, false, false, false, false, false, false, false, false, false] rfl rfl (any_of HT_.out (by kernel_rfl)) (fun _ _ _ h => h) (Or.inl ⟨by rfl, ?_⟩) ?_ ?_
                            rotate_left
                            · intro w'
                              go_simp
                              with_reducible rfl
                            rotate_left
                            · simp only [Act.put, List.setIfInBounds_toArray, List.set_cons_zero, List.set_cons_succ, i64_w, i32_w]
                              rfl
                            refine pure_ (i := 3) (N := some 53) (v := ?_) (a' := ?_) #[true, true, true, true, false, false, false, false, false, false, false, false, false, false, false, false, false, false, false, false, false, false, false] rfl rfl (any_of HT_.out (by kernel_rfl)) (fun _ _ _ h => h) (Or.inl ⟨by rfl, ?_⟩) ?_ ?_
                            rotate_left
                            · intro w'
                              go_simp
                              with_reducible rfl
                            rotate_left
                            · simp only [Act.put, List.setIfInBounds_toArray, List.set_cons_zero, List.set_cons_succ, i64_w, i32_w]
                              rfl
                            refine pure_ (i := 4) (N := some 54) (v := ?_) (a' := ?_) #[true, true, true, true, true, false, false, false, false, false, false, false, false, false, false, false, false, false, false, false, false, false, false] rfl rfl (any_of HT_.out (by kernel_rfl)) (fun _ _ _ h => h) (Or.inl ⟨by rfl, ?_⟩) ?_ ?_
                            rotate_left
                            · intro w'
                              go_simp
                              with_reducible rfl
                            rotate_left
                            · simp only [Act.put, List.setIfInBounds_toArray, List.set_cons_zero, List.set_cons_succ, i64_w, i32_w]
                              rfl
                            refine pure_ (i := 6) (N := some 56) (v := ?_) (a' := ?_) #[true, true, true, true, true, false, true, false, false, false, false, false, false, false, false, false, false, false, false, false, false, false, false] rfl rfl (any_of HT_.out (by kernel_rfl)) (fun _ _ _ h => h) (Or.inl ⟨by rfl, ?_⟩) ?_ ?_
                            rotate_left
                            · intro w'
                              go_simp
                              with_reducible rfl
                            rotate_left
                            · simp only [Act.put, List.setIfInBounds_toArray, List.set_cons_zero, List.set_cons_succ, i64_w, i32_w]
                              rfl
                            refine pure_ (i := 11) (N := some 61) (v := ?_) (a' := ?_) #[true, true, true, true, true, false, true, false, false, false, false, true, false, false, false, false, false, false, false, false, false, false, false] rfl rfl (any_of HT_.out (by kernel_rfl)) (fun _ _ _ h => h) (Or.inl ⟨by rfl, ?_⟩) ?_ ?_
                            rotate_left
                            · intro w'
                              go_simp
                              with_reducible rfl
                            rotate_left
                            · simp only [Act.put, List.setIfInBounds_toArray, List.set_cons_zero, List.set_cons_succ, i64_w, i32_w]
                              rfl
                            refine pure_ (i := 12) (N := some 62) (v := ?_) (a' := ?_) #[true, true, true, true, true, false, true, false, false, false, false, true, true, false, false, false, false, false, false, false, false, false, false] rfl rfl (any_of HT_.out (by kernel_rfl)) (fun _ _ _ h => h) (Or.inl ⟨by rfl, ?_⟩) ?_ ?_
                            rotate_left
                            · intro w'
                              go_simp
                              with_reducible rfl
                            rotate_left
                            · simp only [Act.put, List.setIfInBounds_toArray, List.set_cons_zero, List.set_cons_succ, i64_w, i32_w]
                              rfl
                            refine pure_ (i := 13) (N := some 63) (v := ?_) (a' := ?_) #[true, true, true, true, true, false, true, false, false, false, false, true, true, true, false, false, false, false, false, false, false, false, false] rfl rfl (any_of HT_.out (by kernel_rfl)) (fun _ _ _ h => h) (Or.inl ⟨by rfl, ?_⟩) ?_ ?_
                            rotate_left
                            · intro w'
                              go_simp
                              with_reducible rfl
                            rotate_left
                            · simp only [Act.put, List.setIfInBounds_toArray, List.set_cons_zero, List.set_cons_succ, i64_w, i32_w]
                              rfl
                            refine pure_ (i := 14) (N := some 64) (v := ?_) (a' := ?_) #[true, true, true, true, true, false, true, false, false, false, false, true, true, true, true, false, false, false, false, false, false, false, false] rfl rfl (any_of HT_.out (by kernel_rfl)) (fun _ _ _ h => h) (Or.inl ⟨by rfl, ?_⟩) ?_ ?_
                            rotate_left
                            · intro w'
                              go_simp
                              with_reducible rfl
                            rotate_left
                            · simp only [Act.put, List.setIfInBounds_toArray, List.set_cons_zero, List.set_cons_succ, i64_w, i32_w]
                              rfl
                            refine take_ (i := 5) (N := some 55) (v := ?_) (a' := ?_) #[true, true, true, true, true, true, true, false, false, false, false, true, true, true, true, false, false, false, false, false, false, false, false] rfl rfl (take_ofW HT_.out HW_.out (by kernel_rfl)) (fun _ _ _ h => h) (Or.inl ⟨by rfl, ?_⟩) hHeld ?_ ?_
                            rotate_left
                            · intro w' _
                              go_simp
                              with_reducible rfl
                            rotate_left
                            · simp only [Act.put, List.setIfInBounds_toArray, List.set_cons_zero, List.set_cons_succ, i64_w, i32_w]
                              rfl
                            refine pure_ (i := 7) (N := some 57) (v := ?_) (a' := ?_) #[true, true, true, true, true, true, true, true, false, false, false, true, true, true, true, false, false, false, false, false, false, false, false] rfl rfl (any_of HT_.out (by kernel_rfl)) (fun _ _ _ h => h) (Or.inl ⟨by rfl, ?_⟩) ?_ ?_
                            rotate_left
                            · intro w'
                              go_simp
                              with_reducible rfl
                            rotate_left
                            · simp only [Act.put, List.setIfInBounds_toArray, List.set_cons_zero, List.set_cons_succ, i64_w, i32_w]
                              rfl
                            refine join_ (σ := Value × Nat) 2 #[true, true, true, true, true, true, true, true, true, true, true, true, true, true, true, true, true, true, true, true, true, false, false] (fun s_ => [(58, s_.1), (59, .string (strOfNums y363)), (66, .tuple #[.agg #[.int .i64 t366, .int .i64 t367, .int .i64 t368, .int .i64 t369, .int .i64 t370, .string t371], .bool false]), (10, .pointer (some ⟨s_.2, 0, none⟩)), (60, .string ((t361.extract 0 ((ji21) : Int).toNat) ++ (strOfNums y363))), (65, .string (((t361.extract 0 ((ji21) : Int).toNat) ++ (strOfNums y363)) ++ (t361.extract ((ji27) : Int).toNat t361.size))), (49, .tuple #[.agg #[.int .i64 t366, .int .i64 t367, .int .i64 t368, .int .i64 t369, .int .i64 t370, .string t371], .bool false]), (67, .agg #[.int .i64 t366, .int .i64 t367, .int .i64 t368, .int .i64 t369, .int .i64 t370, .string t371]), (68, .bool false)]) (fun s_ w' => (Kd.R (Kd.int .u8) 5 w' w.heap.size (fun _ => True) s_.1 y363) ∧ (w'.heap[gb358]? = some (.cells #[.int .i64 a0_0, .int .i64 a0_1, .int .i64 a0_2, .int .i64 a0_3, .int .i64 a0_4, .string a0_5] 23 (0, 0))) ∧ (w'.heap[s_.2]? = some (.cells #[.int .i64 0, .int .i64 0, .int .i64 0, .int .i64 0, .int .i64 0, .string (⟨#[]⟩ : ByteArray)] 23 (0, 0))) ∧ (w.heap.size ≤ s_.2) ∧ (w.heap.size ≤ s_.2) ∧ (gb358 ≠ s_.2) ∧ (s_.2 ≠ gb358) ∧ (Below w.heap.size w w')) ?_ ?_
                            rotate_left
                            · intro hCont
                              refine two_ (i := 8) (j := 20) (Ni := some 58) (Nj := some 10) #[true, true, true, true, true, true, true, true, true, false, false, true, true, true, true, false, false, false, false, false, false, false, false] #[true, true, true, true, true, true, true, true, false, false, false, true, true, true, true, false, false, false, false, false, true, false, false] rfl rfl rfl rfl (two_of HT_.out (by kernel_rfl)) (by decide) (by decide) (fun K hK => ?_) (fun K hK => ?_)
                              · skip
                                refine Kd.R_lit_step (Kd.int .u8) _ 5 ?hg (N := 58) ?hd (xs := ([Go.bits .xor .u8 (bt t361 (ji21)) a2] : List Int)) (inner := [.int .u8 (Go.bits .xor .u8 (bt t361 (ji21)) a2)]) (ok := fun _ => True) (okp := fun _ => True) ?hr ?hp (fun _ hk => hk) trivial (Below.refl _ _) (Nat.le_refl _) (by simp) ?_; (case hd => rfl); (case hg => rfl); (case hr => first | (go_simp; done) | (go_simp; rfl)); (case hp => exact (Reps.one (show Kd.M (Kd.int .u8) _ _ _ (Go.bits .xor .u8 (bt t361 (ji21)) a2) [.int .u8 (Go.bits .xor .u8 (bt t361 (ji21)) a2)] from rfl) (Reps.none _ _)))
                                intro v364 w54 ho55 hb hg_ hnew_
                                clear hg_ hnew_
                                (first | rw [← Ny363.out] at ho55 | (simp only [Int.reduceToNat] at ho55; rw [← Ny363.out] at ho55))
                                have n0_ := Aside0.mk (Kd.R_lower ho55 (below_size (by repeat (first | (with_reducible first | exact HB.out | apply below_alloc | apply pw_below_drewN | apply below_drew1 | refine below_set ?_ GE358.out) | exact HB.out))))
                                have n1_ := Aside0.mk (blk_below (g := gb358) (o := .cells #[.int .i64 a0_0, .int .i64 a0_1, .int .i64 a0_2, .int .i64 a0_3, .int .i64 a0_4, .string a0_5] 23 (0, 0)) (by (with_reducible repeat (first | refine blk_drewN ?_ _ | refine blk_drew ?_ | refine blk_alloc ?_ _)); exact BK358.out) hb)
                                have n2_ := Aside0.mk (below_step (by repeat (first | (with_reducible first | exact HB.out | apply below_alloc | apply pw_below_drewN | apply below_drew1 | refine below_set ?_ GE358.out) | exact HB.out)) hb)
                                clear BK358
                                clear HB
                                have HO365 := n0_
                                have BK358 := n1_
                                have HB := n2_
                                clear n0_ n1_ n2_
                                clear hb ho55
                                refine hK.out _ _ trivial (fun hHeld => ?_)
                                clear hK K
                                refine norm_ (a' := ?_) ?_ ?_
                                rotate_left
                                · show Act.put _ (some 58) _ = _
                                  simp only [Act.put, List.setIfInBounds_toArray, List.set_cons_zero, List.set_cons_succ, i64_w, i32_w]
                                  rfl
                                refine two_ (i := 9) (j := 20) (Ni := some 59) (Nj := some 10) #[true, true, true, true, true, true, true, true, true, true, false, true, true, true, true, false, false, false, false, false, false, false, false] #[true, true, true, true, true, true, true, true, true, false, false, true, true, true, true, false, false, false, false, false, true, false, false] rfl rfl rfl rfl (two_of HT_.out (by kernel_rfl)) (by decide) (by decide) (fun K hK => ?_) (fun K hK => ?_)
                                · skip
                                  have hcv56 := own_string (P := Tryd.prog) Tryd.underlying41 Tryd.underlying5 Tryd.underlying9 (Kd.own_of_R HO365.out)
                                  refine value_ (w1 := ?_) (v := ?_) (by rfl) rfl ?_ ?_
                                  rotate_left 2
                                  · go_simp
                                    constructor
                                    · rfl
                                    · rfl
                                  clear hcv56
                                  refine hK.out _ _ trivial (fun hHeld => ?_)
                                  clear hK K
                                  refine norm_ (a' := ?_) ?_ ?_
                                  rotate_left
                                  · show Act.put _ (some 59) _ = _
                                    simp only [Act.put, List.setIfInBounds_toArray, List.set_cons_zero, List.set_cons_succ, i64_w, i32_w]
                                    rfl
                                  refine pure_ (i := 10) (N := some 60) (v := ?_) (a' := ?_) #[true, true, true, true, true, true, true, true, true, true, true, true, true, true, true, false, false, false, false, false, false, false, false] rfl rfl (any_of HT_.out (by kernel_rfl)) (fun _ _ _ h => h) (Or.inl ⟨by rfl, ?_⟩) ?_ ?_
                                  rotate_left
                                  · intro w'
                                    go_simp
                                    with_reducible rfl
                                  rotate_left
                                  · simp only [Act.put, List.setIfInBounds_toArray, List.set_cons_zero, List.set_cons_succ, i64_w, i32_w]
                                    rfl
                                  refine pure_ (i := 15) (N := some 65) (v := ?_) (a' := ?_) #[true, true, true, true, true, true, true, true, true, true, true, true, true, true, true, true, false, false, false, false, false, false, false] rfl rfl (any_of HT_.out (by kernel_rfl)) (fun _ _ _ h => h) (Or.inl ⟨by rfl, ?_⟩) ?_ ?_
                                  rotate_left
                                  · intro w'
                                    go_simp
                                    with_reducible rfl
                                  rotate_left
                                  · simp only [Act.put, List.setIfInBounds_toArray, List.set_cons_zero, List.set_cons_succ, i64_w, i32_w]
                                    rfl
                                  refine two_ (i := 16) (j := 20) (Ni := some 66) (Nj := some 10) #[true, true, true, true, true, true, true, true, true, true, true, true, true, true, true, true, true, false, false, false, false, false, false] #[true, true, true, true, true, true, true, true, true, true, true, true, true, true, true, true, false, false, false, false, true, false, false] rfl rfl rfl rfl (two_of HT_.out (by kernel_rfl)) (by decide) (by decide) (fun K hK => ?_) (fun K hK => ?_)
                                  · skip
                                    refine goes_ Tryd.func14 (by kernel_rfl) rfl #[.string (((t361.extract 0 ((ji21) : Int).toNat) ++ (strOfNums y363)) ++ (t361.extract ((ji27) : Int).toNat t361.size))] (by rfl) rfl rfl (by (try simp only [List.map_toArray, List.map_cons, List.map_nil]); first | done | (simp only [hji21, hji27]; rfl) | rfl | (simp only [List.length_drop, List.length_take]; rfl)) ?_
                                    with_reducible refine (ask_Get.calls (((t361.extract 0 ((ji21) : Int).toNat) ++ (strOfNums y363)) ++ (t361.extract ((ji27) : Int).toNat t361.size)) t366 t367 t368 t369 t370 t371 false _ A31.out).mono ?_
                                    rintro e w57 ⟨rfl, hb⟩
                                    refine ⟨_, rfl, ?_⟩
                                    have n0_ := Aside0.mk (Kd.R_below (by (with_reducible repeat (first | apply Kd.R_alloc | apply Kd.R_drewN | apply Kd.R_drew)); exact HO365.out) hb)
                                    have n1_ := Aside0.mk (blk_below (g := gb358) (o := .cells #[.int .i64 a0_0, .int .i64 a0_1, .int .i64 a0_2, .int .i64 a0_3, .int .i64 a0_4, .string a0_5] 23 (0, 0)) (by (with_reducible repeat (first | refine blk_drewN ?_ _ | refine blk_drew ?_ | refine blk_alloc ?_ _)); exact BK358.out) hb)
                                    have n2_ := Aside0.mk (below_step (by repeat (first | (with_reducible first | exact HB.out | apply below_alloc | apply pw_below_drewN | apply below_drew1 | refine below_set ?_ GE358.out) | exact HB.out)) hb)
                                    clear HO365
                                    clear BK358
                                    clear HB
                                    have HO365 := n0_
                                    have BK358 := n1_
                                    have HB := n2_
                                    clear n0_ n1_ n2_
                                    (try clear hb)
                                    (try clear hb2)
                                    (try clear hk)
                                    (try clear hi)
                                    refine hK.out _ _ trivial (fun hHeld => ?_)
                                    clear hK K
                                    refine norm_ (a' := ?_) ?_ ?_
                                    rotate_left
                                    · show Act.put _ (some 66) _ = _
                                      simp only [Act.put, List.setIfInBounds_toArray, List.set_cons_zero, List.set_cons_succ, i64_w, i32_w]
                                      rfl
                                    refine pure_ (i := 17) (N := some 49) (v := ?_) (a' := ?_) #[true, true, true, true, true, true, true, true, true, true, true, true, true, true, true, true, true, true, false, false, false, false, false] rfl rfl (any_of HT_.out (by kernel_rfl)) (fun _ _ _ h => h) (Or.inl ⟨by rfl, ?_⟩) ?_ ?_
                                    rotate_left
                                    · intro w'
                                      go_simp
                                      with_reducible rfl
                                    rotate_left
                                    · simp only [Act.put, List.setIfInBounds_toArray, List.set_cons_zero, List.set_cons_succ, i64_w, i32_w]
                                      rfl
                                    refine pure_ (i := 18) (N := some 67) (v := ?_) (a' := ?_) #[true, true, true, true, true, true, true, true, true, true, true, true, true, true, true, true, true, true, true, false, false, false, false] rfl rfl (any_of HT_.out (by kernel_rfl)) (fun _ _ _ h => h) (Or.inl ⟨by rfl, ?_⟩) ?_ ?_
                                    rotate_left
                                    · intro w'
                                      go_simp
                                      with_reducible rfl
                                    rotate_left
                                    · simp only [Act.put, List.setIfInBounds_toArray, List.set_cons_zero, List.set_cons_succ, i64_w, i32_w]
                                      rfl
                                    refine pure_ (i := 19) (N := some 68) (v := ?_) (a' := ?_) #[true, true, true, true, true, true, true, true, true, true, true, true, true, true, true, true, true, true, true, true, false, false, false] rfl rfl (any_of HT_.out (by kernel_rfl)) (fun _ _ _ h => h) (Or.inl ⟨by rfl, ?_⟩) ?_ ?_
                                    rotate_left
                                    · intro w'
                                      go_simp
                                      with_reducible rfl
                                    rotate_left
                                    · simp only [Act.put, List.setIfInBounds_toArray, List.set_cons_zero, List.set_cons_succ, i64_w, i32_w]
                                      rfl
                                    refine one_ (i := 20) (N := some 10) #[true, true, true, true, true, true, true, true, true, true, true, true, true, true, true, true, true, true, true, true, true, false, false] rfl rfl (one_of HT_.out (by kernel_rfl)) (by decide) (fun K hK => ?_)
                                    refine box_step ?hg (N := 10) ?hd (cs := #[.int .i64 0, .int .i64 0, .int .i64 0, .int .i64 0, .int .i64 0, .string (⟨#[]⟩ : ByteArray)]) (t := 23) ?hr ?_; (case hd => rfl); (case hg => rfl); (case hr => first | (go_simp; done) | (go_simp; rfl))
                                    intro gb373 hg w58 hbox hb
                                    have n0_ := Aside0.mk (Kd.R_below (by (with_reducible repeat (first | apply Kd.R_alloc | apply Kd.R_drewN | apply Kd.R_drew)); exact HO365.out) hb)
                                    have n1_ := Aside0.mk (blk_below (g := gb358) (o := .cells #[.int .i64 a0_0, .int .i64 a0_1, .int .i64 a0_2, .int .i64 a0_3, .int .i64 a0_4, .string a0_5] 23 (0, 0)) (by (with_reducible repeat (first | refine blk_drewN ?_ _ | refine blk_drew ?_ | refine blk_alloc ?_ _)); exact BK358.out) hb)
                                    have n2_ := Aside0.mk (below_step (by repeat (first | (with_reducible first | exact HB.out | apply below_alloc | apply pw_below_drewN | apply below_drew1 | refine below_set ?_ GE358.out) | exact HB.out)) hb)
                                    have n3_ := Aside0.mk (hbox)
                                    have n4_ := Aside0.mk ((by rw [hg]; exact (below_size (by repeat (first | (with_reducible first | exact HB.out | apply below_alloc | apply pw_below_drewN | apply below_drew1 | refine below_set ?_ GE358.out) | exact HB.out))) : w.heap.size ≤ gb373))
                                    have n5_ := Aside0.mk ((by rw [hg]; exact (below_size (by repeat (first | (with_reducible first | exact HB.out | apply below_alloc | apply pw_below_drewN | apply below_drew1 | refine below_set ?_ GE358.out) | exact HB.out))) : w.heap.size ≤ gb373))
                                    have n6_ := Aside0.mk ((by rw [hg]; exact Nat.ne_of_lt (blk_lt (g := gb358) (o := .cells #[.int .i64 a0_0, .int .i64 a0_1, .int .i64 a0_2, .int .i64 a0_3, .int .i64 a0_4, .string a0_5] 23 (0, 0)) (by (with_reducible repeat (first | refine blk_drewN ?_ _ | refine blk_drew ?_ | refine blk_alloc ?_ _)); exact BK358.out)) : gb358 ≠ gb373))
                                    have n7_ := Aside0.mk ((by rw [hg]; exact Nat.ne_of_gt (blk_lt (g := gb358) (o := .cells #[.int .i64 a0_0, .int .i64 a0_1, .int .i64 a0_2, .int .i64 a0_3, .int .i64 a0_4, .string a0_5] 23 (0, 0)) (by (with_reducible repeat (first | refine blk_drewN ?_ _ | refine blk_drew ?_ | refine blk_alloc ?_ _)); exact BK358.out)) : gb373 ≠ gb358))
                                    clear HO365
                                    clear BK358
                                    clear HB
                                    have HO365 := n0_
                                    have BK358 := n1_
                                    have HB := n2_
                                    have BK373 := n3_
                                    have GW373 := n4_
                                    have GE373 := n5_
                                    have NB358_373 := n6_
                                    have NB373_358 := n7_
                                    clear n0_ n1_ n2_ n3_ n4_ n5_ n6_ n7_
                                    clear hb hbox hg
                                    refine hK.out _ _ trivial (fun hHeld => ?_)
                                    clear hK K
                                    refine norm_ (a' := ?_) ?_ ?_
                                    rotate_left
                                    · show Act.put _ (some 10) _ = _
                                      simp only [Act.put, List.setIfInBounds_toArray, List.set_cons_zero, List.set_cons_succ, i64_w, i32_w]
                                      rfl
                                    exact norm_ (by simp only [putAll, Act.put, List.setIfInBounds_toArray, List.set_cons_zero, List.set_cons_succ]) (hCont (v364, gb373) _ ⟨(by (with_reducible repeat (first | apply Kd.R_alloc | apply Kd.R_drewN | apply Kd.R_drew)); exact HO365.out), (by (with_reducible repeat (first | refine blk_drewN ?_ _ | refine blk_drew ?_ | refine blk_alloc ?_ _)); exact BK358.out), (by (with_reducible repeat (first | refine blk_drewN ?_ _ | refine blk_drew ?_ | refine blk_alloc ?_ _)); exact BK373.out), GW373.out, GE373.out, NB358_373.out, NB373_358.out, (by repeat (first | (with_reducible first | exact HB.out | apply below_alloc | apply pw_below_drewN | apply below_drew1 | refine below_set ?_ GE358.out | refine below_set ?_ GE373.out) | exact HB.out))⟩)
                                  · skip
                                    refine box_step ?hg (N := 10) ?hd (cs := #[.int .i64 0, .int .i64 0, .int .i64 0, .int .i64 0, .int .i64 0, .string (⟨#[]⟩ : ByteArray)]) (t := 23) ?hr ?_; (case hd => rfl); (case hg => rfl); (case hr => first | (go_simp; done) | (go_simp; rfl))
                                    intro gb373 hg w57 hbox hb
                                    have n0_ := Aside0.mk (Kd.R_below (by (with_reducible repeat (first | apply Kd.R_alloc | apply Kd.R_drewN | apply Kd.R_drew)); exact HO365.out) hb)
                                    have n1_ := Aside0.mk (blk_below (g := gb358) (o := .cells #[.int .i64 a0_0, .int .i64 a0_1, .int .i64 a0_2, .int .i64 a0_3, .int .i64 a0_4, .string a0_5] 23 (0, 0)) (by (with_reducible repeat (first | refine blk_drewN ?_ _ | refine blk_drew ?_ | refine blk_alloc ?_ _)); exact BK358.out) hb)
                                    have n2_ := Aside0.mk (below_step (by repeat (first | (with_reducible first | exact HB.out | apply below_alloc | apply pw_below_drewN | apply below_drew1 | refine below_set ?_ GE358.out) | exact HB.out)) hb)
                                    have n3_ := Aside0.mk (hbox)
                                    have n4_ := Aside0.mk ((by rw [hg]; exact (below_size (by repeat (first | (with_reducible first | exact HB.out | apply below_alloc | apply pw_below_drewN | apply below_drew1 | refine below_set ?_ GE358.out) | exact HB.out))) : w.heap.size ≤ gb373))
                                    have n5_ := Aside0.mk ((by rw [hg]; exact (below_size (by repeat (first | (with_reducible first | exact HB.out | apply below_alloc | apply pw_below_drewN | apply below_drew1 | refine below_set ?_ GE358.out) | exact HB.out))) : w.heap.size ≤ gb373))
                                    have n6_ := Aside0.mk ((by rw [hg]; exact Nat.ne_of_lt (blk_lt (g := gb358) (o := .cells #[.int .i64 a0_0, .int .i64 a0_1, .int .i64 a0_2, .int .i64 a0_3, .int .i64 a0_4, .string a0_5] 23 (0, 0)) (by (with_reducible repeat (first | refine blk_drewN ?_ _ | refine blk_drew ?_ | refine blk_alloc ?_ _)); exact BK358.out)) : gb358 ≠ gb373))
                                    have n7_ := Aside0.mk ((by rw [hg]; exact Nat.ne_of_gt (blk_lt (g := gb358) (o := .cells #[.int .i64 a0_0, .int .i64 a0_1, .int .i64 a0_2, .int .i64 a0_3, .int .i64 a0_4, .string a0_5] 23 (0, 0)) (by (with_reducible repeat (first | refine blk_drewN ?_ _ | refine blk_drew ?_ | refine blk_alloc ?_ _)); exact BK358.out)) : gb373 ≠ gb358))
                                    clear HO365
                                    clear BK358
                                    clear HB
                                    have HO365 := n0_
                                    have BK358 := n1_
                                    have HB := n2_
                                    have BK373 := n3_
                                    have GW373 := n4_
                                    have GE373 := n5_
                                    have NB358_373 := n6_
                                    have NB373_358 := n7_
                                    clear n0_ n1_ n2_ n3_ n4_ n5_ n6_ n7_
                                    clear hb hbox hg
                                    refine hK.out _ _ trivial (fun hHeld => ?_)
                                    clear hK K
                                    refine norm_ (a' := ?_) ?_ ?_
                                    rotate_left
                                    · show Act.put _ (some 10) _ = _
                                      simp only [Act.put, List.setIfInBounds_toArray, List.set_cons_zero, List.set_cons_succ, i64_w, i32_w]
                                      rfl
                                    refine one_ (i := 16) (N := some 66) #[true, true, true, true, true, true, true, true, true, true, true, true, true, true, true, true, true, false, false, false, true, false, false] rfl rfl (one_of HT_.out (by kernel_rfl)) (by decide) (fun K hK => ?_)
                                    refine goes_ Tryd.func14 (by kernel_rfl) rfl #[.string (((t361.extract 0 ((ji21) : Int).toNat) ++ (strOfNums y363)) ++ (t361.extract ((ji27) : Int).toNat t361.size))] (by rfl) rfl rfl (by (try simp only [List.map_toArray, List.map_cons, List.map_nil]); first | done | (simp only [hji21, hji27]; rfl) | rfl | (simp only [List.length_drop, List.length_take]; rfl)) ?_
                                    with_reducible refine (ask_Get.calls (((t361.extract 0 ((ji21) : Int).toNat) ++ (strOfNums y363)) ++ (t361.extract ((ji27) : Int).toNat t361.size)) t366 t367 t368 t369 t370 t371 false _ A31.out).mono ?_
                                    rintro e w58 ⟨rfl, hb⟩
                                    refine ⟨_, rfl, ?_⟩
                                    have n0_ := Aside0.mk (Kd.R_below (by (with_reducible repeat (first | apply Kd.R_alloc | apply Kd.R_drewN | apply Kd.R_drew)); exact HO365.out) hb)
                                    have n1_ := Aside0.mk (blk_below (g := gb358) (o := .cells #[.int .i64 a0_0, .int .i64 a0_1, .int .i64 a0_2, .int .i64 a0_3, .int .i64 a0_4, .string a0_5] 23 (0, 0)) (by (with_reducible repeat (first | refine blk_drewN ?_ _ | refine blk_drew ?_ | refine blk_alloc ?_ _)); exact BK358.out) hb)
                                    have n2_ := Aside0.mk (blk_below (g := gb373) (o := .cells #[.int .i64 0, .int .i64 0, .int .i64 0, .int .i64 0, .int .i64 0, .string (⟨#[]⟩ : ByteArray)] 23 (0, 0)) (by (with_reducible repeat (first | refine blk_drewN ?_ _ | refine blk_drew ?_ | refine blk_alloc ?_ _)); exact BK373.out) hb)
                                    have n3_ := Aside0.mk (below_step (by repeat (first | (with_reducible first | exact HB.out | apply below_alloc | apply pw_below_drewN | apply below_drew1 | refine below_set ?_ GE358.out | refine below_set ?_ GE373.out) | exact HB.out)) hb)
                                    clear HO365
                                    clear BK358
                                    clear BK373
                                    clear HB
                                    have HO365 := n0_
                                    have BK358 := n1_
                                    have BK373 := n2_
                                    have HB := n3_
                                    clear n0_ n1_ n2_ n3_
                                    (try clear hb)
                                    (try clear hb2)
                                    (try clear hk)
                                    (try clear hi)
                                    refine hK.out _ _ trivial (fun hHeld => ?_)
                                    clear hK K
                                    refine norm_ (a' := ?_) ?_ ?_
                                    rotate_left
                                    · show Act.put _ (some 66) _ = _
                                      simp only [Act.put, List.setIfInBounds_toArray, List.set_cons_zero, List.set_cons_succ, i64_w, i32_w]
                                      rfl
                                    refine pure_ (i := 17) (N := some 49) (v := ?_) (a' := ?_) #[true, true, true, true, true, true, true, true, true, true, true, true, true, true, true, true, true, true, false, false, true, false, false] rfl rfl (any_of HT_.out (by kernel_rfl)) (fun _ _ _ h => h) (Or.inl ⟨by rfl, ?_⟩) ?_ ?_
                                    rotate_left
                                    · intro w'
                                      go_simp
                                      with_reducible rfl
                                    rotate_left
                                    · simp only [Act.put, List.setIfInBounds_toArray, List.set_cons_zero, List.set_cons_succ, i64_w, i32_w]
                                      rfl
                                    refine pure_ (i := 18) (N := some 67) (v := ?_) (a' := ?_) #[true, true, true, true, true, true, true, true, true, true, true, true, true, true, true, true, true, true, true, false, true, false, false] rfl rfl (any_of HT_.out (by kernel_rfl)) (fun _ _ _ h => h) (Or.inl ⟨by rfl, ?_⟩) ?_ ?_
                                    rotate_left
                                    · intro w'
                                      go_simp
                                      with_reducible rfl
                                    rotate_left
                                    · simp only [Act.put, List.setIfInBounds_toArray, List.set_cons_zero, List.set_cons_succ, i64_w, i32_w]
                                      rfl
                                    refine pure_ (i := 19) (N := some 68) (v := ?_) (a' := ?_) #[true, true, true, true, true, true, true, true, true, true, true, true, true, true, true, true, true, true, true, true, true, false, false] rfl rfl (any_of HT_.out (by kernel_rfl)) (fun _ _ _ h => h) (Or.inl ⟨by rfl, ?_⟩) ?_ ?_
                                    rotate_left
                                    · intro w'
                                      go_simp
                                      with_reducible rfl
                                    rotate_left
                                    · simp only [Act.put, List.setIfInBounds_toArray, List.set_cons_zero, List.set_cons_succ, i64_w, i32_w]
                                      rfl
                                    exact norm_ (by simp only [putAll, Act.put, List.setIfInBounds_toArray, List.set_cons_zero, List.set_cons_succ]) (hCont (v364, gb373) _ ⟨(by (with_reducible repeat (first | apply Kd.R_alloc | apply Kd.R_drewN | apply Kd.R_drew)); exact HO365.out), (by (with_reducible repeat (first | refine blk_drewN ?_ _ | refine blk_drew ?_ | refine blk_alloc ?_ _)); exact BK358.out), (by (with_reducible repeat (first | refine blk_drewN ?_ _ | refine blk_drew ?_ | refine blk_alloc ?_ _)); exact BK373.out), GW373.out, GE373.out, NB358_373.out, NB373_358.out, (by repeat (first | (with_reducible first | exact HB.out | apply below_alloc | apply pw_below_drewN | apply below_drew1 | refine below_set ?_ GE358.out | refine below_set ?_ GE373.out) | exact HB.out))⟩)
                                · skip
                                  refine box_step ?hg (N := 10) ?hd (cs := #[.int .i64 0, .int .i64 0, .int .i64 0, .int .i64 0, .int .i64 0, .string (⟨#[]⟩ : ByteArray)]) (t := 23) ?hr ?_; (case hd => rfl); (case hg => rfl); (case hr => first | (go_simp; done) | (go_simp; rfl))
                                  intro gb373 hg w56 hbox hb
                                  have n0_ := Aside0.mk (Kd.R_below (by (with_reducible repeat (first | apply Kd.R_alloc | apply Kd.R_drewN | apply Kd.R_drew)); exact HO365.out) hb)
                                  have n1_ := Aside0.mk (blk_below (g := gb358) (o := .cells #[.int .i64 a0_0, .int .i64 a0_1, .int .i64 a0_2, .int .i64 a0_3, .int .i64 a0_4, .string a0_5] 23 (0, 0)) (by (with_reducible repeat (first | refine blk_drewN ?_ _ | refine blk_drew ?_ | refine blk_alloc ?_ _)); exact BK358.out) hb)
                                  have n2_ := Aside0.mk (below_step (by repeat (first | (with_reducible first | exact HB.out | apply below_alloc | apply pw_below_drewN | apply below_drew1 | refine below_set ?_ GE358.out) | exact HB.out)) hb)
                                  have n3_ := Aside0.mk (hbox)
                                  have n4_ := Aside0.mk ((by rw [hg]; exact (below_size (by repeat (first | (with_reducible first | exact HB.out | apply below_alloc | apply pw_below_drewN | apply below_drew1 | refine below_set ?_ GE358.out) | exact HB.out))) : w.heap.size ≤ gb373))
                                  have n5_ := Aside0.mk ((by rw [hg]; exact (below_size (by repeat (first | (with_reducible first | exact HB.out | apply below_alloc | apply pw_below_drewN | apply below_drew1 | refine below_set ?_ GE358.out) | exact HB.out))) : w.heap.size ≤ gb373))
                                  have n6_ := Aside0.mk ((by rw [hg]; exact Nat.ne_of_lt (blk_lt (g := gb358) (o := .cells #[.int .i64 a0_0, .int .i64 a0_1, .int .i64 a0_2, .int .i64 a0_3, .int .i64 a0_4, .string a0_5] 23 (0, 0)) (by (with_reducible repeat (first | refine blk_drewN ?_ _ | refine blk_drew ?_ | refine blk_alloc ?_ _)); exact BK358.out)) : gb358 ≠ gb373))
                                  have n7_ := Aside0.mk ((by rw [hg]; exact Nat.ne_of_gt (blk_lt (g := gb358) (o := .cells #[.int .i64 a0_0, .int .i64 a0_1, .int .i64 a0_2, .int .i64 a0_3, .int .i64 a0_4, .string a0_5] 23 (0, 0)) (by (with_reducible repeat (first | refine blk_drewN ?_ _ | refine blk_drew ?_ | refine blk_alloc ?_ _)); exact BK358.out)) : gb373 ≠ gb358))
                                  clear HO365
                                  clear BK358
                                  clear HB
                                  have HO365 := n0_
                                  have BK358 := n1_
                                  have HB := n2_
                                  have BK373 := n3_
                                  have GW373 := n4_
                                  have GE373 := n5_
                                  have NB358_373 := n6_
                                  have NB373_358 := n7_
                                  clear n0_ n1_ n2_ n3_ n4_ n5_ n6_ n7_
                                  clear hb hbox hg
                                  refine hK.out _ _ trivial (fun hHeld => ?_)
                                  clear hK K
                                  refine norm_ (a' := ?_) ?_ ?_
                                  rotate_left
                                  · show Act.put _ (some 10) _ = _
                                    simp only [Act.put, List.setIfInBounds_toArray, List.set_cons_zero, List.set_cons_succ, i64_w, i32_w]
                                    rfl
                                  refine one_ (i := 9) (N := some 59) #[true, true, true, true, true, true, true, true, true, true, false, true, true, true, true, false, false, false, false, false, true, false, false] rfl rfl (one_of HT_.out (by kernel_rfl)) (by decide) (fun K hK => ?_)
                                  have hcv57 := own_string (P := Tryd.prog) Tryd.underlying41 Tryd.underlying5 Tryd.underlying9 (Kd.own_of_R HO365.out)
                                  refine value_ (w1 := ?_) (v := ?_) (by rfl) rfl ?_ ?_
                                  rotate_left 2
                                  · go_simp
                                    constructor
                                    · rfl
                                    · rfl
                                  clear hcv57
                                  refine hK.out _ _ trivial (fun hHeld => ?_)
                                  clear hK K
                                  refine norm_ (a' := ?_) ?_ ?_
                                  rotate_left
                                  · show Act.put _ (some 59) _ = _
                                    simp only [Act.put, List.setIfInBounds_toArray, List.set_cons_zero, List.set_cons_succ, i64_w, i32_w]
                                    rfl
                                  refine pure_ (i := 10) (N := some 60) (v := ?_) (a' := ?_) #[true, true, true, true, true, true, true, true, true, true, true, true, true, true, true, false, false, false, false, false, true, false, false] rfl rfl (any_of HT_.out (by kernel_rfl)) (fun _ _ _ h => h) (Or.inl ⟨by rfl, ?_⟩) ?_ ?_
                                  rotate_left
                                  · intro w'
                                    go_simp
                                    with_reducible rfl
                                  rotate_left
                                  · simp only [Act.put, List.setIfInBounds_toArray, List.set_cons_zero, List.set_cons_succ, i64_w, i32_w]
                                    rfl
                                  refine pure_ (i := 15) (N := some 65) (v := ?_) (a' := ?_) #[true, true, true, true, true, true, true, true, true, true, true, true, true, true, true, true, false, false, false, false, true, false, false] rfl rfl (any_of HT_.out (by kernel_rfl)) (fun _ _ _ h => h) (Or.inl ⟨by rfl, ?_⟩) ?_ ?_
                                  rotate_left
                                  · intro w'
                                    go_simp
                                    with_reducible rfl
                                  rotate_left
                                  · simp only [Act.put, List.setIfInBounds_toArray, List.set_cons_zero, List.set_cons_succ, i64_w, i32_w]
                                    rfl
                                  refine one_ (i := 16) (N := some 66) #[true, true, true, true, true, true, true, true, true, true, true, true, true, true, true, true, true, false, false, false, true, false, false] rfl rfl (one_of HT_.out (by kernel_rfl)) (by decide) (fun K hK => ?_)
                                  refine goes_ Tryd.func14 (by kernel_rfl) rfl #[.string (((t361.extract 0 ((ji21) : Int).toNat) ++ (strOfNums y363)) ++ (t361.extract ((ji27) : Int).toNat t361.size))] (by rfl) rfl rfl (by (try simp only [List.map_toArray, List.map_cons, List.map_nil]); first | done | (simp only [hji21, hji27]; rfl) | rfl | (simp only [List.length_drop, List.length_take]; rfl)) ?_
                                  with_reducible refine (ask_Get.calls (((t361.extract 0 ((ji21) : Int).toNat) ++ (strOfNums y363)) ++ (t361.extract ((ji27) : Int).toNat t361.size)) t366 t367 t368 t369 t370 t371 false _ A31.out).mono ?_
                                  rintro e w58 ⟨rfl, hb⟩
                                  refine ⟨_, rfl, ?_⟩
                                  have n0_ := Aside0.mk (Kd.R_below (by (with_reducible repeat (first | apply Kd.R_alloc | apply Kd.R_drewN | apply Kd.R_drew)); exact HO365.out) hb)
                                  have n1_ := Aside0.mk (blk_below (g := gb358) (o := .cells #[.int .i64 a0_0, .int .i64 a0_1, .int .i64 a0_2, .int .i64 a0_3, .int .i64 a0_4, .string a0_5] 23 (0, 0)) (by (with_reducible repeat (first | refine blk_drewN ?_ _ | refine blk_drew ?_ | refine blk_alloc ?_ _)); exact BK358.out) hb)
                                  have n2_ := Aside0.mk (blk_below (g := gb373) (o := .cells #[.int .i64 0, .int .i64 0, .int .i64 0, .int .i64 0, .int .i64 0, .string (⟨#[]⟩ : ByteArray)] 23 (0, 0)) (by (with_reducible repeat (first | refine blk_drewN ?_ _ | refine blk_drew ?_ | refine blk_alloc ?_ _)); exact BK373.out) hb)
                                  have n3_ := Aside0.mk (below_step (by repeat (first | (with_reducible first | exact HB.out | apply below_alloc | apply pw_below_drewN | apply below_drew1 | refine below_set ?_ GE358.out | refine below_set ?_ GE373.out) | exact HB.out)) hb)
                                  clear HO365
                                  clear BK358
                                  clear BK373
                                  clear HB
                                  have HO365 := n0_
                                  have BK358 := n1_
                                  have BK373 := n2_
                                  have HB := n3_
                                  clear n0_ n1_ n2_ n3_
                                  (try clear hb)
                                  (try clear hb2)
                                  (try clear hk)
                                  (try clear hi)
                                  refine hK.out _ _ trivial (fun hHeld => ?_)
                                  clear hK K
                                  refine norm_ (a' := ?_) ?_ ?_
                                  rotate_left
                                  · show Act.put _ (some 66) _ = _
                                    simp only [Act.put, List.setIfInBounds_toArray, List.set_cons_zero, List.set_cons_succ, i64_w, i32_w]
                                    rfl
                                  refine pure_ (i := 17) (N := some 49) (v := ?_) (a' := ?_) #[true, true, true, true, true, true, true, true, true, true, true, true, true, true, true, true, true, true, false, false, true, false, false] rfl rfl (any_of HT_.out (by kernel_rfl)) (fun _ _ _ h => h) (Or.inl ⟨by rfl, ?_⟩) ?_ ?_
                                  rotate_left
                                  · intro w'
                                    go_simp
                                    with_reducible rfl
                                  rotate_left
                                  · simp only [Act.put, List.setIfInBounds_toArray, List.set_cons_zero, List.set_cons_succ, i64_w, i32_w]
                                    rfl
                                  refine pure_ (i := 18) (N := some 67) (v := ?_) (a' := ?_) #[true, true, true, true, true, true, true, true, true, true, true, true, true, true, true, true, true, true, true, false, true, false, false] rfl rfl (any_of HT_.out (by kernel_rfl)) (fun _ _ _ h => h) (Or.inl ⟨by rfl, ?_⟩) ?_ ?_
                                  rotate_left
                                  · intro w'
                                    go_simp
                                    with_reducible rfl
                                  rotate_left
                                  · simp only [Act.put, List.setIfInBounds_toArray, List.set_cons_zero, List.set_cons_succ, i64_w, i32_w]
                                    rfl
                                  refine pure_ (i := 19) (N := some 68) (v := ?_) (a' := ?_) #[true, true, true, true, true, true, true, true, true, true, true, true, true, true, true, true, true, true, true, true, true, false, false] rfl rfl (any_of HT_.out (by kernel_rfl)) (fun _ _ _ h => h) (Or.inl ⟨by rfl, ?_⟩) ?_ ?_
                                  rotate_left
                                  · intro w'
                                    go_simp
                                    with_reducible rfl
                                  rotate_left
                                  · simp only [Act.put, List.setIfInBounds_toArray, List.set_cons_zero, List.set_cons_succ, i64_w, i32_w]
                                    rfl
                                  exact norm_ (by simp only [putAll, Act.put, List.setIfInBounds_toArray, List.set_cons_zero, List.set_cons_succ]) (hCont (v364, gb373) _ ⟨(by (with_reducible repeat (first | apply Kd.R_alloc | apply Kd.R_drewN | apply Kd.R_drew)); exact HO365.out), (by (with_reducible repeat (first | refine blk_drewN ?_ _ | refine blk_drew ?_ | refine blk_alloc ?_ _)); exact BK358.out), (by (with_reducible repeat (first | refine blk_drewN ?_ _ | refine blk_drew ?_ | refine blk_alloc ?_ _)); exact BK373.out), GW373.out, GE373.out, NB358_373.out, NB373_358.out, (by repeat (first | (with_reducible first | exact HB.out | apply below_alloc | apply pw_below_drewN | apply below_drew1 | refine below_set ?_ GE358.out | refine below_set ?_ GE373.out) | exact HB.out))⟩)
                              · skip
                                refine box_step ?hg (N := 10) ?hd (cs := #[.int .i64 0, .int .i64 0, .int .i64 0, .int .i64 0, .int .i64 0, .string (⟨#[]⟩ : ByteArray)]) (t := 23) ?hr ?_; (case hd => rfl); (case hg => rfl); (case hr => first | (go_simp; done) | (go_simp; rfl))
                                intro gb373 hg w54 hbox hb
                                have n0_ := Aside0.mk (blk_below (g := gb358) (o := .cells #[.int .i64 a0_0, .int .i64 a0_1, .int .i64 a0_2, .int .i64 a0_3, .int .i64 a0_4, .string a0_5] 23 (0, 0)) (by (with_reducible repeat (first | refine blk_drewN ?_ _ | refine blk_drew ?_ | refine blk_alloc ?_ _)); exact BK358.out) hb)
                                have n1_ := Aside0.mk (below_step (by repeat (first | (with_reducible first | exact HB.out | apply below_alloc | apply pw_below_drewN | apply below_drew1 | refine below_set ?_ GE358.out) | exact HB.out)) hb)
                                have n2_ := Aside0.mk (hbox)
                                have n3_ := Aside0.mk ((by rw [hg]; exact (below_size (by repeat (first | (with_reducible first | exact HB.out | apply below_alloc | apply pw_below_drewN | apply below_drew1 | refine below_set ?_ GE358.out) | exact HB.out))) : w.heap.size ≤ gb373))
                                have n4_ := Aside0.mk ((by rw [hg]; exact (below_size (by repeat (first | (with_reducible first | exact HB.out | apply below_alloc | apply pw_below_drewN | apply below_drew1 | refine below_set ?_ GE358.out) | exact HB.out))) : w.heap.size ≤ gb373))
                                have n5_ := Aside0.mk ((by rw [hg]; exact Nat.ne_of_lt (blk_lt (g := gb358) (o := .cells #[.int .i64 a0_0, .int .i64 a0_1, .int .i64 a0_2, .int .i64 a0_3, .int .i64 a0_4, .string a0_5] 23 (0, 0)) (by (with_reducible repeat (first | refine blk_drewN ?_ _ | refine blk_drew ?_ | refine blk_alloc ?_ _)); exact BK358.out)) : gb358 ≠ gb373))
                                have n6_ := Aside0.mk ((by rw [hg]; exact Nat.ne_of_gt (blk_lt (g := gb358) (o := .cells #[.int .i64 a0_0, .int .i64 a0_1, .int .i64 a0_2, .int .i64 a0_3, .int .i64 a0_4, .string a0_5] 23 (0, 0)) (by (with_reducible repeat (first | refine blk_drewN ?_ _ | refine blk_drew ?_ | refine blk_alloc ?_ _)); exact BK358.out)) : gb373 ≠ gb358))
                                clear BK358
                                clear HB
                                have BK358 := n0_
                                have HB := n1_
                                have BK373 := n2_
                                have GW373 := n3_
                                have GE373 := n4_
                                have NB358_373 := n5_
                                have NB373_358 := n6_
                                clear n0_ n1_ n2_ n3_ n4_ n5_ n6_
                                clear hb hbox hg
                                refine hK.out _ _ trivial (fun hHeld => ?_)
                                clear hK K
                                refine norm_ (a' := ?_) ?_ ?_
                                rotate_left
                                · show Act.put _ (some 10) _ = _
                                  simp only [Act.put, List.setIfInBounds_toArray, List.set_cons_zero, List.set_cons_succ, i64_w, i32_w]
                                  rfl
                                refine one_ (i := 8) (N := some 58) #[true, true, true, true, true, true, true, true, true, false, false, true, true, true, true, false, false, false, false, false, true, false, false] rfl rfl (one_of HT_.out (by kernel_rfl)) (by decide) (fun K hK => ?_)
                                refine Kd.R_lit_step (Kd.int .u8) _ 5 ?hg (N := 58) ?hd (xs := ([Go.bits .xor .u8 (bt t361 (ji21)) a2] : List Int)) (inner := [.int .u8 (Go.bits .xor .u8 (bt t361 (ji21)) a2)]) (ok := fun _ => True) (okp := fun _ => True) ?hr ?hp (fun _ hk => hk) trivial (Below.refl _ _) (Nat.le_refl _) (by simp) ?_; (case hd => rfl); (case hg => rfl); (case hr => first | (go_simp; done) | (go_simp; rfl)); (case hp => exact (Reps.one (show Kd.M (Kd.int .u8) _ _ _ (Go.bits .xor .u8 (bt t361 (ji21)) a2) [.int .u8 (Go.bits .xor .u8 (bt t361 (ji21)) a2)] from rfl) (Reps.none _ _)))
                                intro v364 w55 ho56 hb hg_ hnew_
                                clear hg_ hnew_
                                (first | rw [← Ny363.out] at ho56 | (simp only [Int.reduceToNat] at ho56; rw [← Ny363.out] at ho56))
                                have n0_ := Aside0.mk (Kd.R_lower ho56 (below_size (by repeat (first | (with_reducible first | exact HB.out | apply below_alloc | apply pw_below_drewN | apply below_drew1 | refine below_set ?_ GE358.out | refine below_set ?_ GE373.out) | exact HB.out))))
                                have n1_ := Aside0.mk (blk_below (g := gb358) (o := .cells #[.int .i64 a0_0, .int .i64 a0_1, .int .i64 a0_2, .int .i64 a0_3, .int .i64 a0_4, .string a0_5] 23 (0, 0)) (by (with_reducible repeat (first | refine blk_drewN ?_ _ | refine blk_drew ?_ | refine blk_alloc ?_ _)); exact BK358.out) hb)
                                have n2_ := Aside0.mk (blk_below (g := gb373) (o := .cells #[.int .i64 0, .int .i64 0, .int .i64 0, .int .i64 0, .int .i64 0, .string (⟨#[]⟩ : ByteArray)] 23 (0, 0)) (by (with_reducible repeat (first | refine blk_drewN ?_ _ | refine blk_drew ?_ | refine blk_alloc ?_ _)); exact BK373.out) hb)
                                have n3_ := Aside0.mk (below_step (by repeat (first | (with_reducible first | exact HB.out | apply below_alloc | apply pw_below_drewN | apply below_drew1 | refine below_set ?_ GE358.out | refine below_set ?_ GE373.out) | exact HB.out)) hb)
                                clear BK358
                                clear BK373
                                clear HB
                                have HO365 := n0_
                                have BK358 := n1_
                                have BK373 := n2_
                                have HB := n3_
                                clear n0_ n1_ n2_ n3_
                                clear hb ho56
                                refine hK.out _ _ trivial (fun hHeld => ?_)
                                clear hK K
                                refine norm_ (a' := ?_) ?_ ?_
                                rotate_left
                                · show Act.put _ (some 58) _ = _
                                  simp only [Act.put, List.setIfInBounds_toArray, List.set_cons_zero, List.set_cons_succ, i64_w, i32_w]
                                  rfl
                                refine one_ (i := 9) (N := some 59) #[true, true, true, true, true, true, true, true, true, true, false, true, true, true, true, false, false, false, false, false, true, false, false] rfl rfl (one_of HT_.out (by kernel_rfl)) (by decide) (fun K hK => ?_)
                                have hcv57 := own_string (P := Tryd.prog) Tryd.underlying41 Tryd.underlying5 Tryd.underlying9 (Kd.own_of_R HO365.out)
                                refine value_ (w1 := ?_) (v := ?_) (by rfl) rfl ?_ ?_
                                rotate_left 2
                                · go_simp
                                  constructor
                                  · rfl
                                  · rfl
                                clear hcv57
                                refine hK.out _ _ trivial (fun hHeld => ?_)
                                clear hK K
                                refine norm_ (a' := ?_) ?_ ?_
                                rotate_left
                                · show Act.put _ (some 59) _ = _
                                  simp only [Act.put, List.setIfInBounds_toArray, List.set_cons_zero, List.set_cons_succ, i64_w, i32_w]
                                  rfl
                                refine pure_ (i := 10) (N := some 60) (v := ?_) (a' := ?_) #[true, true, true, true, true, true, true, true, true, true, true, true, true, true, true, false, false, false, false, false, true, false, false] rfl rfl (any_of HT_.out (by kernel_rfl)) (fun _ _ _ h => h) (Or.inl ⟨by rfl, ?_⟩) ?_ ?_
                                rotate_left
                                · intro w'
                                  go_simp
                                  with_reducible rfl
                                rotate_left
                                · simp only [Act.put, List.setIfInBounds_toArray, List.set_cons_zero, List.set_cons_succ, i64_w, i32_w]
                                  rfl
                                refine pure_ (i := 15) (N := some 65) (v := ?_) (a' := ?_) #[true, true, true, true, true, true, true, true, true, true, true, true, true, true, true, true, false, false, false, false, true, false, false] rfl rfl (any_of HT_.out (by kernel_rfl)) (fun _ _ _ h => h) (Or.inl ⟨by rfl, ?_⟩) ?_ ?_
                                rotate_left
                                · intro w'
                                  go_simp
                                  with_reducible rfl
                                rotate_left
                                · simp only [Act.put, List.setIfInBounds_toArray, List.set_cons_zero, List.set_cons_succ, i64_w, i32_w]
                                  rfl
                                refine one_ (i := 16) (N := some 66) #[true, true, true, true, true, true, true, true, true, true, true, true, true, true, true, true, true, false, false, false, true, false, false] rfl rfl (one_of HT_.out (by kernel_rfl)) (by decide) (fun K hK => ?_)
                                refine goes_ Tryd.func14 (by kernel_rfl) rfl #[.string (((t361.extract 0 ((ji21) : Int).toNat) ++ (strOfNums y363)) ++ (t361.extract ((ji27) : Int).toNat t361.size))] (by rfl) rfl rfl (by (try simp only [List.map_toArray, List.map_cons, List.map_nil]); first | done | (simp only [hji21, hji27]; rfl) | rfl | (simp only [List.length_drop, List.length_take]; rfl)) ?_
                                with_reducible refine (ask_Get.calls (((t361.extract 0 ((ji21) : Int).toNat) ++ (strOfNums y363)) ++ (t361.extract ((ji27) : Int).toNat t361.size)) t366 t367 t368 t369 t370 t371 false _ A31.out).mono ?_
                                rintro e w58 ⟨rfl, hb⟩
                                refine ⟨_, rfl, ?_⟩
                                have n0_ := Aside0.mk (Kd.R_below (by (with_reducible repeat (first | apply Kd.R_alloc | apply Kd.R_drewN | apply Kd.R_drew)); exact HO365.out) hb)
                                have n1_ := Aside0.mk (blk_below (g := gb358) (o := .cells #[.int .i64 a0_0, .int .i64 a0_1, .int .i64 a0_2, .int .i64 a0_3, .int .i64 a0_4, .string a0_5] 23 (0, 0)) (by (with_reducible repeat (first | refine blk_drewN ?_ _ | refine blk_drew ?_ | refine blk_alloc ?_ _)); exact BK358.out) hb)
                                have n2_ := Aside0.mk (blk_below (g := gb373) (o := .cells #[.int .i64 0, .int .i64 0, .int .i64 0, .int .i64 0, .int .i64 0, .string (⟨#[]⟩ : ByteArray)] 23 (0, 0)) (by (with_reducible repeat (first | refine blk_drewN ?_ _ | refine blk_drew ?_ | refine blk_alloc ?_ _)); exact BK373.out) hb)
                                have n3_ := Aside0.mk (below_step (by repeat (first | (with_reducible first | exact HB.out | apply below_alloc | apply pw_below_drewN | apply below_drew1 | refine below_set ?_ GE358.out | refine below_set ?_ GE373.out) | exact HB.out)) hb)
                                clear HO365
                                clear BK358
                                clear BK373
                                clear HB
                                have HO365 := n0_
                                have BK358 := n1_
                                have BK373 := n2_
                                have HB := n3_
                                clear n0_ n1_ n2_ n3_
                                (try clear hb)
                                (try clear hb2)
                                (try clear hk)
                                (try clear hi)
                                refine hK.out _ _ trivial (fun hHeld => ?_)
                                clear hK K
                                refine norm_ (a' := ?_) ?_ ?_
                                rotate_left
                                · show Act.put _ (some 66) _ = _
                                  simp only [Act.put, List.setIfInBounds_toArray, List.set_cons_zero, List.set_cons_succ, i64_w, i32_w]
                                  rfl
                                refine pure_ (i := 17) (N := some 49) (v := ?_) (a' := ?_) #[true, true, true, true, true, true, true, true, true, true, true, true, true, true, true, true, true, true, false, false, true, false, false] rfl rfl (any_of HT_.out (by kernel_rfl)) (fun _ _ _ h => h) (Or.inl ⟨by rfl, ?_⟩) ?_ ?_
                                rotate_left
                                · intro w'
                                  go_simp
                                  with_reducible rfl
                                rotate_left
                                · simp only [Act.put, List.setIfInBounds_toArray, List.set_cons_zero, List.set_cons_succ, i64_w, i32_w]
                                  rfl
                                refine pure_ (i := 18) (N := some 67) (v := ?_) (a' := ?_) #[true, true, true, true, true, true, true, true, true, true, true, true, true, true, true, true, true, true, true, false, true, false, false] rfl rfl (any_of HT_.out (by kernel_rfl)) (fun _ _ _ h => h) (Or.inl ⟨by rfl, ?_⟩) ?_ ?_
                                rotate_left
                                · intro w'
                                  go_simp
                                  with_reducible rfl
                                rotate_left
                                · simp only [Act.put, List.setIfInBounds_toArray, List.set_cons_zero, List.set_cons_succ, i64_w, i32_w]
                                  rfl
                                refine pure_ (i := 19) (N := some 68) (v := ?_) (a' := ?_) #[true, true, true, true, true, true, true, true, true, true, true, true, true, true, true, true, true, true, true, true, true, false, false] rfl rfl (any_of HT_.out (by kernel_rfl)) (fun _ _ _ h => h) (Or.inl ⟨by rfl, ?_⟩) ?_ ?_
                                rotate_left
                                · intro w'
                                  go_simp
                                  with_reducible rfl
                                rotate_left
                                · simp only [Act.put, List.setIfInBounds_toArray, List.set_cons_zero, List.set_cons_succ, i64_w, i32_w]
                                  rfl
                                exact norm_ (by simp only [putAll, Act.put, List.setIfInBounds_toArray, List.set_cons_zero, List.set_cons_succ]) (hCont (v364, gb373) _ ⟨(by (with_reducible repeat (first | apply Kd.R_alloc | apply Kd.R_drewN | apply Kd.R_drew)); exact HO365.out), (by (with_reducible repeat (first | refine blk_drewN ?_ _ | refine blk_drew ?_ | refine blk_alloc ?_ _)); exact BK358.out), (by (with_reducible repeat (first | refine blk_drewN ?_ _ | refine blk_drew ?_ | refine blk_alloc ?_ _)); exact BK373.out), GW373.out, GE373.out, NB358_373.out, NB373_358.out, (by repeat (first | (with_reducible first | exact HB.out | apply below_alloc | apply pw_below_drewN | apply below_drew1 | refine below_set ?_ GE358.out | refine below_set ?_ GE373.out) | exact HB.out))⟩)
                            rintro ⟨v364, gb373⟩ w59 ⟨h0_, h1_, h2_, h3_, h4_, h5_, h6_, h7_⟩
                            have n0_ : Aside0 (Kd.R (Kd.int .u8) 5 w59 w.heap.size (fun _ => True) v364 y363) := ⟨h0_⟩
                            have n1_ : Aside0 (w59.heap[gb358]? = some (.cells #[.int .i64 a0_0, .int .i64 a0_1, .int .i64 a0_2, .int .i64 a0_3, .int .i64 a0_4, .string a0_5] 23 (0, 0))) := ⟨h1_⟩
                            have n2_ : Aside0 (w59.heap[gb373]? = some (.cells #[.int .i64 0, .int .i64 0, .int .i64 0, .int .i64 0, .int .i64 0, .string (⟨#[]⟩ : ByteArray)] 23 (0, 0))) := ⟨h2_⟩
                            have n3_ : Aside0 (w.heap.size ≤ gb373) := ⟨h3_⟩
                            have n4_ : Aside0 (w.heap.size ≤ gb373) := ⟨h4_⟩
                            have n5_ : Aside0 (gb358 ≠ gb373) := ⟨h5_⟩
                            have n6_ : Aside0 (gb373 ≠ gb358) := ⟨h6_⟩
                            have n7_ : Aside0 (Below w.heap.size w w59) := ⟨h7_⟩
                            clear BK358
                            clear HB
                            clear h0_ h1_ h2_ h3_ h4_ h5_ h6_ h7_
                            have HO365 := n0_
                            have BK358 := n1_
                            have BK373 := n2_
                            have GW373 := n3_
                            have GE373 := n4_
                            have NB358_373 := n5_
                            have NB373_358 := n6_
                            have HB := n7_
                            clear n0_ n1_ n2_ n3_ n4_ n5_ n6_ n7_
                            have hHeld := trivial
                            refine norm_ (a' := ?_) ?_ ?_
                            rotate_left
                            · simp only [putAll, Act.put, List.setIfInBounds_toArray, List.set_cons_zero, List.set_cons_succ]
                              rfl
                            refine one_ (i := 21) (N := none) #[true, true, true, true, true, true, true, true, true, true, true, true, true, true, true, true, true, true, true, true, true, true, false] rfl rfl (one_of HT_.out (by kernel_rfl)) (by decide) (fun K hK => ?_)
                            have hs60 : w59.cell? ⟨gb373, 0, none⟩ = some (.int .i64 0) := (blk_cell BK373.out 0).trans rfl
                            have hfs60 := blk_frozen BK373.out 0
                            have hns60_0 := NB358_373.out
                            have hms60_0 := NB373_358.out
                            have hs61 : w59.cell? ⟨gb373, 1, none⟩ = some (.int .i64 0) := (blk_cell BK373.out 1).trans rfl
                            have hfs61 := blk_frozen BK373.out 1
                            have hns61_0 := NB358_373.out
                            have hms61_0 := NB373_358.out
                            have hs62 : w59.cell? ⟨gb373, 2, none⟩ = some (.int .i64 0) := (blk_cell BK373.out 2).trans rfl
                            have hfs62 := blk_frozen BK373.out 2
                            have hns62_0 := NB358_373.out
                            have hms62_0 := NB373_358.out
                            have hs63 : w59.cell? ⟨gb373, 3, none⟩ = some (.int .i64 0) := (blk_cell BK373.out 3).trans rfl
                            have hfs63 := blk_frozen BK373.out 3
                            have hns63_0 := NB358_373.out
                            have hms63_0 := NB373_358.out
                            have hs64 : w59.cell? ⟨gb373, 4, none⟩ = some (.int .i64 0) := (blk_cell BK373.out 4).trans rfl
                            have hfs64 := blk_frozen BK373.out 4
                            have hns64_0 := NB358_373.out
                            have hms64_0 := NB373_358.out
                            have hs65 : w59.cell? ⟨gb373, 5, none⟩ = some (.string (⟨#[]⟩ : ByteArray)) := (blk_cell BK373.out 5).trans rfl
                            have hfs65 := blk_frozen BK373.out 5
                            have hns65_0 := NB358_373.out
                            have hms65_0 := NB373_358.out
                            refine skip_ (w1 := ?_) (by rfl) rfl ?_ ?_
                            rotate_left
                            · go_simp
                              rfl
                            refine hK.out _ _ trivial (fun hHeld => ?_)
                            clear hK K
                            refine pure_ (i := 22) (N := some 11) (v := ?_) (a' := ?_) #[true, true, true, true, true, true, true, true, true, true, true, true, true, true, true, true, true, true, true, true, true, true, true] rfl rfl (any_of HT_.out (by kernel_rfl)) (fun _ _ _ h => h) (Or.inl ⟨by rfl, ?_⟩) ?_ ?_
                            rotate_left
                            · intro w'
                              go_simp
                              with_reducible rfl
                            rotate_left
                            · simp only [Act.put, List.setIfInBounds_toArray, List.set_cons_zero, List.set_cons_succ, i64_w, i32_w]
                              rfl
                            refine done_ (done_of HT_.out (by kernel_rfl)) ?_
                            try go_wp2
                            go_ret
                            exact ⟨by first | rfl | (simp [errW_none, errW_some] <;> rfl) | (simp only [← hji21, ← hji27]; first | rfl | (simp [errW_none, errW_some] <;> rfl)) | (simp [*, errW_none, errW_some] <;> rfl), by repeat (first | (with_reducible first | exact HB.out | apply below_alloc | apply pw_below_drewN | apply below_drew1 | refine below_set ?_ GE358.out | refine below_set ?_ GE373.out) | exact HB.out)⟩
                        · rw [if_neg c30] at H
                          exact absurd H (by simp)
                      · rw [if_neg c29] at H
                        exact absurd H (by simp)
                    · rw [if_neg c28] at H
                      exact absurd H (by simp)
                  · rw [if_neg c26] at H
                    exact absurd H (by simp)
                · rw [if_neg c24] at H
                  exact absurd H (by simp)
              · rw [if_neg c23] at H
                exact absurd H (by simp)
            · rw [if_neg c22] at H
              exact absurd H (by simp)
        · replace c17 := Bool.eq_false_iff.mpr c17
          subst c17
          have H1 : (some (!false)) = some r := by rw [if_neg (show ¬ (false = true) by decide)] at H; exact H
          clear H
          have H := H1
          clear H1
          obtain rfl := Option.some.inj H
          have hcz66_0 : wc.cell? ⟨gb358, 0, none⟩ = some (.int .i64 a0_0) := (blk_cell BK358.out 0).trans rfl
          have hcz66_1 : wc.cell? ⟨gb358, 1, none⟩ = some (.int .i64 a0_1) := (blk_cell BK358.out 1).trans rfl
          have hcz66_2 : wc.cell? ⟨gb358, 2, none⟩ = some (.int .i64 a0_2) := (blk_cell BK358.out 2).trans rfl
          have hcz66_3 : wc.cell? ⟨gb358, 3, none⟩ = some (.int .i64 a0_3) := (blk_cell BK358.out 3).trans rfl
          have hcz66_4 : wc.cell? ⟨gb358, 4, none⟩ = some (.int .i64 a0_4) := (blk_cell BK358.out 4).trans rfl
          have hcz66_5 : wc.cell? ⟨gb358, 5, none⟩ = some (.string a0_5) := (blk_cell BK358.out 5).trans rfl
          have hfz66_0 := blk_frozen BK358.out 0
          have hfz66_1 := blk_frozen BK358.out 1
          have hfz66_2 := blk_frozen BK358.out 2
          have hfz66_3 := blk_frozen BK358.out 3
          have hfz66_4 := blk_frozen BK358.out 4
          have hfz66_5 := blk_frozen BK358.out 5
          go_wp2_with (first | ((with_reducible refine gate_callee (f := 12) rfl ?_); refine goesL_ (some 27) rfl rfl Tryd.func12 (by kernel_rfl) rfl #[.agg #[.int .i64 a0_0, .int .i64 a0_1, .int .i64 a0_2, .int .i64 a0_3, .int .i64 a0_4, .string a0_5]] rfl (by (try simp only [List.map_toArray, List.map_cons, List.map_nil]); first | done | rfl | (simp only [List.length_drop, List.length_take]; rfl)) ?_; (with_reducible refine (ask_Put.calls kj3 a0_0 a0_1 a0_2 a0_3 a0_4 a0_5 t361 false _ A16.out).mono ?_); rintro e w67 ⟨rfl, hb⟩; refine ⟨_, rfl, ?_⟩; have n0_ := Aside0.mk (blk_below (g := gb358) (o := .cells #[.int .i64 a0_0, .int .i64 a0_1, .int .i64 a0_2, .int .i64 a0_3, .int .i64 a0_4, .string a0_5] 23 (0, 0)) (by (with_reducible repeat (first | refine blk_drewN ?_ _ | refine blk_drew ?_ | refine blk_alloc ?_ _)); exact BK358.out) hb); have n1_ := Aside0.mk (below_step (by repeat (first | (with_reducible first | exact HB.out | apply below_alloc | apply pw_below_drewN | apply below_drew1 | refine below_set ?_ GE358.out) | exact HB.out)) hb); clear BK358; clear HB; have BK358 := n0_; have HB := n1_; clear n0_ n1_; (try clear hb); (try clear hb2); (try clear hk); (try clear hi)))
          go_ret
          exact ⟨by first | rfl | (simp [errW_none, errW_some] <;> rfl) | (simp [*, errW_none, errW_some] <;> rfl), by repeat (first | (with_reducible first | exact HB.out | apply below_alloc | apply pw_below_drewN | apply below_drew1 | refine below_set ?_ GE358.out) | exact HB.out)⟩

end Go.Proofs.YtbmjekekpmabbaaDoor.P
