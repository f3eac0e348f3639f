/- The function Less of package rows computes lessB for all rows, also for those that are none; its contract in the print's form. Conditions: how the list lies in memory. -/
import Derived.Test.YthoapfagcdbpeaaRowsL
set_option linter.unusedVariables false
set_option linter.unusedSimpArgs false
namespace Go.Proofs.Ythoapfagcdbpeaa.P
open Go.RowKit Go.Proofs.YthoapfagcdbpeaaW.PrintWords Go.Proofs.YthoapfagcdbpeaaW.PrintLast Go.Proofs.YthoapfagcdbpeaaW.PrintMore

set_option maxRecDepth 100000 in
set_option maxHeartbeats 4000000 in
theorem less_no (A0 : Option Addr) (c0 : Nat) (l0 : List ByteArray) (d i e j : Int) (w : World) (hr0 : Kd.C Kd.string w A0 l0.length l0) (hc0 : l0.length ≤ c0) (o : (rowOk l0 d i && rowOk l0 e j) = false) :
    Calls Try.prog 24 #[.slice A0 l0.length c0, .agg #[.int .i64 d, .int .i64 i], .agg #[.int .i64 e, .int .i64 j]] w fun en w' => en = .returned (.bool false) ∧ G w w' := by
  have I1 := Aside0.mk (fun w' (hr : Kd.C Kd.string w' A0 l0.length l0) => is_calls A0 c0 l0 d i w' hr hc0)
  have I2 := Aside0.mk (fun w' (hr : Kd.C Kd.string w' A0 l0.length l0) => is_calls A0 c0 l0 e j w' hr hc0)
  have HC := Aside0.mk hr0
  have hu24 := Try.underlying24
  obtain ⟨W0, hW0⟩ : ∃ W0, (w.alloc (.cells #[.int .i64 d, .int .i64 i] 24)).alloc (.cells #[.int .i64 e, .int .i64 j] 24) = W0 := ⟨_, rfl⟩
  have HBW0 : Aside0 (G w W0) := ⟨by rw [← hW0]; exact (G.alloc _ _).trans (G.alloc _ _)⟩
  have z1 : W0.cell? ⟨w.heap.size, 0, none⟩ = some (.int .i64 d) := by rw [← hW0]; exact pw_cell_below (below_alloc (Below.refl _ _) _) (cell_new w _ _ 0 _ rfl)
  have z2 : W0.cell? ⟨w.heap.size, 1, none⟩ = some (.int .i64 i) := by rw [← hW0]; exact pw_cell_below (below_alloc (Below.refl _ _) _) (cell_new w _ _ 1 _ rfl)
  have z3 : W0.cell? ⟨w.heap.size + 1, 0, none⟩ = some (.int .i64 e) := by rw [← hW0]; have := cell_new (w.alloc (.cells #[.int .i64 d, .int .i64 i] 24)) #[.int .i64 e, .int .i64 j] 24 0 _ rfl; rwa [size_alloc] at this
  have z4 : W0.cell? ⟨w.heap.size + 1, 1, none⟩ = some (.int .i64 j) := by rw [← hW0]; have := cell_new (w.alloc (.cells #[.int .i64 d, .int .i64 i] 24)) #[.int .i64 e, .int .i64 j] 24 1 _ rfl; rwa [size_alloc] at this
  have W0E := Aside0.mk hW0
  clear hr0 hW0
  by_cases o1 : rowOk l0 d i = true
  · rw [o1, Bool.true_and] at o
    rw [o1] at I1
    rw [o] at I2
    clear o o1
    go_enter Try.func24, Try.ntmps24
    go_wp2_with fail
    rw [W0E.out]
    refine wp_scope_jumps 0 (fun _ _ => False) (fun _ _ => 0) rfl ?_ (by rintro a' w' h; exact h.elim)
    go_wp2_with fail
    refine (I1.out _ (Kd.C_below HC.out HBW0.out.below)).mono ?_
    rintro en w1 ⟨rfl, hg⟩
    have hb := hg.below
    have y3 := pw_cell_below hb z3
    have y4 := pw_cell_below hb z4
    have HB1 := Aside0.mk (HBW0.out.trans hg)
    clear z1 z2 z3 z4 hb hg
    go_wp2_with fail
    refine (I2.out _ (Kd.C_below HC.out HB1.out.below)).mono ?_
    rintro en w2 ⟨rfl, hg⟩
    have HBW := Aside0.mk (HB1.out.trans hg)
    clear y3 y4 hg
    go_wp2_with fail
    (try simp only [Exit.jump])
    (try rw [Exit.noGoto_ret])
    go_ret
    exact ⟨rfl, HBW.out⟩
  · have o2 : rowOk l0 d i = false := by revert o1; cases rowOk l0 d i <;> simp
    rw [o2] at I1
    clear o o1 o2
    go_enter Try.func24, Try.ntmps24
    go_wp2_with fail
    rw [W0E.out]
    refine wp_scope_jumps 0 (fun _ _ => False) (fun _ _ => 0) rfl ?_ (by rintro a' w' h; exact h.elim)
    go_wp2_with fail
    refine (I1.out _ (Kd.C_below HC.out HBW0.out.below)).mono ?_
    rintro en w1 ⟨rfl, hg⟩
    have HBW := Aside0.mk (HBW0.out.trans hg)
    clear z1 z2 z3 z4 hg
    go_wp2_with fail
    (try simp only [Exit.jump])
    (try rw [Exit.noGoto_ret])
    go_ret
    exact ⟨rfl, HBW.out⟩

theorem less_any (A0 : Option Addr) (c0 : Nat) (l0 : List ByteArray) (d i e j : Int) (w : World) (hr0 : Kd.C Kd.string w A0 l0.length l0) (hc0 : l0.length ≤ c0) (hsz : (docAt l0 d).size ≤ 140737488351232) :
    Calls Try.prog 24 #[.slice A0 l0.length c0, .agg #[.int .i64 d, .int .i64 i], .agg #[.int .i64 e, .int .i64 j]] w fun en w' => en = .returned (.bool (lessB l0 d i e j)) ∧ G w w' := by
  by_cases o1 : rowOk l0 d i = true
  · by_cases o2 : rowOk l0 e j = true
    · exact less_ok A0 c0 l0 d i e j w hr0 hc0 o1 o2 hsz
    · have o3 : rowOk l0 e j = false := by revert o2; cases rowOk l0 e j <;> simp
      have : lessB l0 d i e j = false := by unfold lessB; rw [o3, Bool.false_and, Bool.and_false]
      rw [this]
      exact less_no A0 c0 l0 d i e j w hr0 hc0 (by rw [o3, Bool.and_false])
  · have o3 : rowOk l0 d i = false := by revert o1; cases rowOk l0 d i <;> simp
    have : lessB l0 d i e j = false := by unfold lessB; rw [o3, Bool.false_and]
    rw [this]
    exact less_no A0 c0 l0 d i e j w hr0 hc0 (by rw [o3, Bool.false_and])

theorem rows_Less.calls (A0 : Option Addr) (c0 : Nat) (l0 : List ByteArray) (a1_0 a1_1 a2_0 a2_1 : Int) (r : Bool) (w : World) (hr0 : Kd.C Kd.string w A0 l0.length l0) (hc0 : l0.length ≤ c0) (h : rows_Less.f l0 a1_0 a1_1 a2_0 a2_1 = some r) :
    Calls Try.prog 24 #[.slice A0 l0.length c0, .agg #[.int .i64 a1_0, .int .i64 a1_1], .agg #[.int .i64 a2_0, .int .i64 a2_1]] w fun e w' => e = .returned (.bool r) ∧ Below w.heap.size w w' := by
  unfold rows_Less.f at h
  by_cases hs : (docAt l0 a1_0).size ≤ 140737488351232
  · rw [if_pos hs] at h
    injection h with h
    subst h
    exact (less_any A0 c0 l0 a1_0 a1_1 a2_0 a2_1 w hr0 hc0 hs).mono fun en w' ⟨h1, h2⟩ => ⟨h1, h2.below⟩
  · rw [if_neg hs] at h
    cases h
end Go.Proofs.Ythoapfagcdbpeaa.P
