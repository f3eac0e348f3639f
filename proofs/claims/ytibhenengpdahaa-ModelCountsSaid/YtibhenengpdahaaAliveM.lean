/- The first call of the model's laws. Conditions: none. -/
import Derived.Test.YtibhenengpdahaaAnswerL
set_option linter.unusedVariables false
set_option linter.unusedSimpArgs false
namespace Go.Proofs.Ytibhenengpdahaa.P
open Go.RowKit Go.Proofs.YtibhenengpdahaaW.PrintWords Go.Proofs.YtibhenengpdahaaW.PrintLast Go.Proofs.YtibhenengpdahaaW.PrintMore

def abaT : ByteArray := ⟨#[97, 98, 97]⟩
def aT : ByteArray := ⟨#[97]⟩
theorem alive_change : changeOf [] 1 0 0 0 0 abaT 7 = ([⟨7, abaT⟩], 0) := by
  have h : mayB [] 1 0 0 0 0 abaT = true := by decide +kernel
  unfold changeOf
  rw [if_pos ⟨h, by decide, by decide⟩, if_neg (by decide), if_neg (by decide), if_neg (by decide)]
  rfl
theorem alive_may : mayB [⟨7, abaT⟩] 4 0 0 0 0 aT = true := by decide +kernel
theorem alive_naive : back_Naive.f 20 aT (textsOf [⟨7, abaT⟩]) = some [⟨0, 0⟩, ⟨0, 2⟩] := by kernel_rfl
theorem alive_right : modelB [⟨7, abaT⟩] = true := by decide +kernel
theorem eqA39 (d : Nat) (w : World) (x0 y0 x1 y1 : Int) :
    (Op.equalIn (d + 2) 39 (.agg #[.int .i64 x0, .int .i64 x1]) (.agg #[.int .i64 y0, .int .i64 y1])).run Try.prog w = .ok (x0 == y0 && x1 == y1) w := by
  refine eqA_of Try.underlying39 (by kernel_rfl) ?_
  refine eqf_cons (by rfl) (by go_simp; rfl) (by go_simp; rfl) (by go_simp) ?_
  exact eqf_last (by rfl) (by go_simp; rfl) (by go_simp; rfl) (by go_simp)
theorem run_store_cx {P : Program} {a : Addr} {m} {w : World} (k : FloatKind) (x y : Nat) : (store a (.complex k x y) m).run P w = stored P w a (.complex k x y) m := run_store P w a _ m rfl
theorem alive_at0 {w : World} {A : Option Addr} (h : Kd.C k42 w A 1 [⟨7, abaT⟩]) : ∃ ad, A = some ad ∧ w.cell? ad = some (.int .i64 7) ∧ w.cell? ⟨ad.block, ad.off + 1, none⟩ = some (.string ⟨#[97, 98, 97]⟩) := at_T42 h 0 (by decide) (by decide)
theorem alive_at1 {w : World} {A : Option Addr} (h : Kd.C k57 w A 2 [⟨7, 0⟩, ⟨7, 2⟩]) : ∃ ad, A = some ad ∧ w.cell? ⟨ad.block, ad.off + 2, none⟩ = some (.int .i64 7) ∧ w.cell? ⟨ad.block, ad.off + 2 + 1, none⟩ = some (.int .i64 2) := at_T57 h 1 (by decide) (by decide)
attribute [local go_sem high] eqA42 eqA39
attribute [local go_sem] run_store_cx
set_option maxRecDepth 100000 in
set_option maxHeartbeats 4000000 in
theorem aliveM_calls (w : World) : Calls Try.prog 10 #[] w fun e w' => e = .returned (.bool true) ∧ Below w.heap.size w w' := by
  have CH := Aside0.mk (change_calls none 0 [] 1 0 0 0 0 abaT 7 w (Kd.C_nil _ _) (Nat.le_refl _) (by decide))
  rw [alive_change] at CH
  have LO := Aside0.mk (fun A c w' hr hc => answer_locate A c [⟨7, abaT⟩] 4 0 0 0 0 aT w' hr hc (by decide) alive_may rfl _ 20 alive_naive (by intro x hx; simp at hx; rcases hx with rfl | rfl <;> decide) (by decide))
  unfold repCells nilS zeroC at LO
  have MR := Aside0.mk (fun A c w' hr hc => model_Right.calls 4 A c [⟨7, abaT⟩] true w' hr hc ((modelRight_ok _ (by decide) 4 (by decide)).trans (by rw [alive_right])))
  go_enter Try.func10, Try.ntmps10
  go_wp2_with fail
  refine CH.out.mono ?_
  rintro en w1 ⟨A1, c1, rfl, hc1, hC1, hb⟩
  have HB1 := Aside0.mk hb
  go_wp2_with fail
  refine (LO.out A1 c1 w1 hC1 hc1).mono ?_
  rintro en w2 ⟨A2, c2, rfl, hC2, hb2⟩
  have HB2 := Aside0.mk (below_step HB1.out hb2)
  have hb23 : Below w2.heap.size w2 (w2.alloc (.cells #[.int .i64 0, .int .i64 0, .int .i64 2, .string ⟨#[]⟩, .slice A2 2 c2, .slice none 0 0, .slice none 0 0, .complex .f64 0 0] 34)) := below_alloc (Below.refl _ _) _
  have HB3 := Aside0.mk (below_step HB2.out hb23)
  have HC1c := Aside0.mk hc1
  have HC3 := Aside0.mk (Kd.C_below (Kd.C_below hC1 hb2) hb23)
  obtain ⟨ad, hA, x0, x1⟩ := alive_at0 HC3.out
  obtain ⟨asp, hS, y0, y1⟩ := alive_at1 (Kd.C_below hC2 hb23)
  subst hA hS
  clear hb hb2 hb23 hC2 hC1 hc1
  go_wp2_with fail
  refine (MR.out _ _ _ HC3.out HC1c.out).mono ?_
  rintro en w4 ⟨rfl, hb4⟩
  have HB4 := Aside0.mk (below_step HB3.out hb4)
  go_wp2_with fail
  all_goals go_ret
  exact ⟨rfl, HB4.out⟩
end Go.Proofs.Ytibhenengpdahaa.P
