/- The first call of story's statements: it is true. Conditions: none. -/
import Derived.Test.YtgnmpfjpcdidjaaStS
set_option linter.unusedVariables false
set_option linter.unusedSimpArgs false
namespace Go.Proofs.Ytgnmpfjpcdidjaa.P
open Go.RowKit Go.Proofs.YtgnmpfjpcdidjaaW.PrintWords Go.Proofs.YtgnmpfjpcdidjaaW.PrintLast Go.Proofs.YtgnmpfjpcdidjaaW.PrintMore

theorem ra_two {W : World} {g : Nat} {a b : List Value} {cs : Array Value} {t : TypeId} {k : Nat} (h : W.heap[g]? = some (.cells cs t (0, 0))) (e : cs = (a ++ b).toArray) (hk : a.length = k) : W.rangeAt g 0 a ∧ W.rangeAt g k b := by
  subst e
  subst hk
  refine ⟨fun j v hj => ?_, fun j v hj => ?_⟩
  · rw [Nat.zero_add, blk_cell' h]
    have hl : j < a.length := (List.getElem?_eq_some_iff.1 hj).1
    simpa [List.getElem?_append_left hl] using hj
  · rw [blk_cell' h]
    simpa [List.getElem?_append_right] using hj
/-- A List and its return, side by side. -/
def twoC (m : Int) : Array Value := #[.int .i64 0, .bool false, .int .i64 0, .int .i64 6, .int .i64 0, .int .i64 0, .int .i64 0, .int .i64 0, .string ⟨#[]⟩, .int .i64 0, .int .i64 0, .int .i64 0, .string ⟨#[]⟩, .slice none 0 0, .slice none 0 0, .slice none 0 0, .complex .f64 0 0,
  .int .i64 0, .bool true, .int .i64 0, .int .i64 6, .int .i64 0, .int .i64 0, .int .i64 0, .int .i64 0, .string ⟨#[]⟩, .int .i64 0, .int .i64 0, .int .i64 m, .string ⟨#[]⟩, .slice none 0 0, .slice none 0 0, .slice none 0 0, .complex .f64 0 0]
theorem int_one (W : World) : Kd.C (Kd.int .i64) (W.alloc (.cells #[.int .i64 1] 3)) (some ⟨W.heap.size, 0, none⟩) 1 [1] := by
  refine ⟨rfl, by decide, fun _ => ⟨⟨W.heap.size, 0, none⟩, rfl, fun j p hp => ?_⟩⟩
  cases j with
  | zero =>
    cases hp
    refine ⟨[.int .i64 1], rfl, rfl, fun i u hu => ?_⟩
    rw [add_at, Nat.zero_mul, Nat.zero_add, Nat.zero_add, blk_cell' (blk_last rfl)]
    simpa using hu
  | succ j => cases hp
theorem same_ints : scriniumbook_SameInts.f 3 [1] [1] = some true := by decide +kernel
set_option maxRecDepth 100000 in
set_option maxHeartbeats 8000000 in
theorem alive_calls (w : World) : Calls Try.prog 4 #[] w fun e w' => e = .returned (.bool true) ∧ Below w.heap.size w w' := by
  obtain ⟨X, hX⟩ : ∃ X, (w.alloc (.cells askL.toArray 23)).alloc (.cells (twoC 0) 33) = X := ⟨_, rfl⟩
  have HB := Aside0.mk (show Below w.heap.size w X by rw [← hX]; exact below_alloc (below_alloc (Below.refl _ _) _) _)
  have HA := Aside0.mk (show X.rangeAt w.heap.size 0 askL by rw [← hX]; exact ra_alloc _ (ra_last rfl))
  have HE := Aside0.mk (ra_two (a := evA false 0) (b := evA true 0) (k := 17) (show X.heap[w.heap.size + 1]? = some (.cells (twoC 0) 33 (0, 0)) by rw [← hX]; exact blk_last (by go_simp)) rfl rfl)
  have HX := Aside0.mk hX
  have OL := Aside0.mk (order_list (w.heap.size + 1) 2 X HE.out.1 HE.out.2)
  clear hX
  unfold askL twoC at HX
  go_enter Try.func4, Try.ntmps4
  go_wp2_with fail
  rw [HX.out]
  refine OL.out.mono ?_
  rintro en w1 ⟨A1, c1, rfl, hc1, hC1, hb⟩
  have HB1 := Aside0.mk (below_step HB.out hb)
  have HA1 := Aside0.mk (ra_below HA.out hb)
  have HE1 := Aside0.mk (ra_below HE.out.1 hb)
  have HF1 := Aside0.mk (ra_below HE.out.2 hb)
  have HC1 := Aside0.mk hC1
  have hc1' := Aside0.mk hc1
  have k0 : w1.cell? ⟨w.heap.size, 0, none⟩ = some (.int .i64 6) := HA1.out 0 _ rfl
  have k1 : w1.cell? ⟨w.heap.size, 1, none⟩ = some (.int .i64 0) := HA1.out 1 _ rfl
  have k2 : w1.cell? ⟨w.heap.size, 2, none⟩ = some (.int .i64 0) := HA1.out 2 _ rfl
  have k3 : w1.cell? ⟨w.heap.size, 3, none⟩ = some (.int .i64 0) := HA1.out 3 _ rfl
  have k4 : w1.cell? ⟨w.heap.size, 4, none⟩ = some (.int .i64 0) := HA1.out 4 _ rfl
  have k5 : w1.cell? ⟨w.heap.size, 5, none⟩ = some (.string ⟨#[]⟩) := HA1.out 5 _ rfl
  clear hb hC1 hc1 OL HX
  obtain ⟨X2, hX2⟩ : ∃ X, w1.alloc (.cells (twoC 1) 33) = X := ⟨_, rfl⟩
  have hb2 : Below w1.heap.size w1 X2 := by rw [← hX2]; exact below_alloc (Below.refl _ _) _
  have HG2 := Aside0.mk (ra_two (a := evA false 0) (b := evA true 1) (k := 17) (show X2.heap[w1.heap.size]? = some (.cells (twoC 1) 33 (0, 0)) by rw [← hX2]; exact blk_last rfl) rfl rfl)
  have HB2 := Aside0.mk (below_step HB1.out hb2)
  have HE2 := Aside0.mk (ra_below HE1.out hb2)
  have HF2 := Aside0.mk (ra_below HF1.out hb2)
  have HC2 := Aside0.mk (Kd.C_below HC1.out hb2)
  have HX2 := Aside0.mk hX2
  unfold twoC at HX2
  clear hX2 hb2
  have CL := Aside0.mk (check_list (w.heap.size + 1) 2 0 X2 HE2.out HF2.out true rfl)
  go_wp2_with fail
  rw [HX2.out]
  refine CL.out.mono ?_
  rintro en w3 ⟨rfl, hb⟩
  have HB3 := Aside0.mk (below_step HB2.out hb)
  have HE3 := Aside0.mk (ra_below HE2.out hb)
  have HC3 := Aside0.mk (Kd.C_below HC2.out hb)
  have CB := Aside0.mk (check_list w1.heap.size 2 1 w3 (ra_below HG2.out.1 hb) (ra_below HG2.out.2 hb) false rfl)
  clear hb CL k0 k1 k2 k3 k4 k5
  go_wp2_with fail
  refine CB.out.mono ?_
  rintro en w4 ⟨rfl, hb⟩
  have HB4 := Aside0.mk (below_step HB3.out hb)
  have HE4 := Aside0.mk (ra_below HE3.out hb)
  have HC4 := Aside0.mk (Kd.C_below HC3.out hb)
  clear hb CB
  obtain ⟨X5, hX5⟩ : ∃ X, w4.alloc (.cells #[.int .i64 1] 3) = X := ⟨_, rfl⟩
  have hb5 : Below w4.heap.size w4 X5 := by rw [← hX5]; exact below_alloc (Below.refl _ _) _
  have SI := Aside0.mk (scriniumbook_SameInts.calls 3 A1 c1 [1] (some ⟨w4.heap.size, 0, none⟩) 1 [1] true X5 (Kd.C_below HC4.out hb5) hc1'.out (by rw [← hX5]; exact int_one w4) (by decide) same_ints)
  have HB5 := Aside0.mk (below_step HB4.out hb5)
  have HE5 := Aside0.mk (ra_below HE4.out hb5)
  have HX5 := Aside0.mk hX5
  clear hX5 hb5
  go_wp2_with fail
  rw [HX5.out]
  refine SI.out.mono ?_
  rintro en w6 ⟨rfl, hd⟩
  have HB6 := Aside0.mk (below_step HB5.out (Drawn0.below hd))
  have HE6 := Aside0.mk (ra_below HE5.out (Drawn0.below hd))
  have PN := Aside0.mk (pending_one w6.heap.size 1 (w6.alloc (.cells (evA false 0).toArray 33)) (ra_last rfl))
  have HL6 := Aside0.mk HE6.out
  unfold evA at PN HL6
  clear hd SI
  go_wp2_with (first | ((try (refine gate_guard (by rfl) ?_; dsimp only)); refine load_ev 40 rfl rfl rfl HL6.out ?_))
  refine PN.out.mono ?_
  rintro en w7 ⟨A7, c7, rfl, hb⟩
  have HB7 := Aside0.mk (below_step (below_alloc HB6.out _) hb)
  clear hb PN
  go_wp2_with fail
  go_ret
  exact ⟨rfl, HB7.out⟩
end Go.Proofs.Ytgnmpfjpcdidjaa.P
