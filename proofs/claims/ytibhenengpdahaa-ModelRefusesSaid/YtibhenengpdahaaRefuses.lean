/- The law ModelRefuses, walked. Conditions: how the list lies in memory. -/
import Derived.Test.YtibhenengpdahaaAny
set_option linter.unusedVariables false
set_option linter.unusedSimpArgs false
namespace Go.Proofs.Ytibhenengpdahaa.P
open Go.RowKit Go.Proofs.YtibhenengpdahaaW.PrintWords Go.Proofs.YtibhenengpdahaaW.PrintLast Go.Proofs.YtibhenengpdahaaW.PrintMore
attribute [local go_sem] run_store_cx

set_option maxRecDepth 100000 in
set_option maxHeartbeats 8000000 in
theorem refuses_calls (A0 : Option Addr) (c0 : Nat) (l0 : List S42) (kind id fr tt snap : Int) (text : ByteArray) (a2 : Int) (w : World) (hr0 : Kd.C k42 w A0 l0.length l0) (hc0 : l0.length ≤ c0) :
    Calls Try.prog 6 #[.slice A0 l0.length c0, .agg #[.int .i64 kind, .int .i64 id, .int .i64 fr, .int .i64 tt, .int .i64 snap, .string text], .int .i64 a2] w fun e w' => e = .returned (.bool true) ∧ Below w.heap.size w w' := by
  have HR := Aside0.mk hr0
  have HC := Aside0.mk hc0
  have AL := Aside0.mk aliveM_calls
  obtain ⟨W1, hW1⟩ : ∃ W1, w.alloc (.cells #[.int .i64 kind, .int .i64 id, .int .i64 fr, .int .i64 tt, .int .i64 snap, .string text] 29) = W1 := ⟨_, rfl⟩
  have HB1 : Aside0 (Below w.heap.size w W1) := ⟨by rw [← hW1]; exact below_alloc (Below.refl _ _) _⟩
  have g0 : Aside0 (W1.cell? ⟨w.heap.size, 0, none⟩ = some (.int .i64 kind)) := ⟨by rw [← hW1]; exact cell_newA w _ _ 0 _ rfl⟩
  have g1 : Aside0 (W1.cell? ⟨w.heap.size, 1, none⟩ = some (.int .i64 id)) := ⟨by rw [← hW1]; exact cell_newA w _ _ 1 _ rfl⟩
  have g2 : Aside0 (W1.cell? ⟨w.heap.size, 2, none⟩ = some (.int .i64 fr)) := ⟨by rw [← hW1]; exact cell_newA w _ _ 2 _ rfl⟩
  have g3 : Aside0 (W1.cell? ⟨w.heap.size, 3, none⟩ = some (.int .i64 tt)) := ⟨by rw [← hW1]; exact cell_newA w _ _ 3 _ rfl⟩
  have g4 : Aside0 (W1.cell? ⟨w.heap.size, 4, none⟩ = some (.int .i64 snap)) := ⟨by rw [← hW1]; exact cell_newA w _ _ 4 _ rfl⟩
  have g5 : Aside0 (W1.cell? ⟨w.heap.size, 5, none⟩ = some (.string text)) := ⟨by rw [← hW1]; exact cell_newA w _ _ 5 _ rfl⟩
  have W1E := Aside0.mk hW1
  clear hW1
  go_enter Try.func6, Try.ntmps6
  by_cases h1 : 14 < l0.length
  · have t1 : decide ((14 : Int) < (l0.length : Int)) = true := decide_eq_true (by omega)
    go_wp2_with fail
    rw [W1E.out]
    refine (AL.out _).mono ?_
    rintro en w2 ⟨rfl, hb⟩
    have HB2 := Aside0.mk (below_step HB1.out hb)
    clear hb
    go_wp2_with fail
    go_ret
    exact ⟨rfl, HB2.out⟩
  have t1 : decide ((14 : Int) < (l0.length : Int)) = false := decide_eq_false (by omega)
  by_cases h2 : 100 < text.size
  · have t2 : decide ((100 : Int) < (text.size : Int)) = true := decide_eq_true (by omega)
    go_wp2_with fail
    rw [W1E.out]
    refine (AL.out _).mono ?_
    rintro en w2 ⟨rfl, hb⟩
    have HB2 := Aside0.mk (below_step HB1.out hb)
    clear hb
    go_wp2_with fail
    go_ret
    exact ⟨rfl, HB2.out⟩
  have t2 : decide ((100 : Int) < (text.size : Int)) = false := decide_eq_false (by omega)
  go_wp2_with fail
  rw [W1E.out]
  refine (AL.out _).mono ?_
  rintro en w2 ⟨rfl, hb⟩
  have HB12 := Aside0.mk hb
  have HB2 := Aside0.mk (below_step HB1.out hb)
  clear hb
  have k0 := pw_cell_below HB12.out g0.out
  have k1 := pw_cell_below HB12.out g1.out
  have k2 := pw_cell_below HB12.out g2.out
  have k3 := pw_cell_below HB12.out g3.out
  have k4 := pw_cell_below HB12.out g4.out
  have k5 := pw_cell_below HB12.out g5.out
  go_wp2_with fail
  refine (answer_any A0 c0 l0 kind id fr tt snap text w2 (Kd.C_below HR.out HB2.out) HC.out (by omega)).mono ?_
  rintro en w3 ⟨er, n, tx, A1, n1, c1, A2, n2, c2, A3, n3, c3, x, y, rfl, hbad, hgood, hb⟩
  have HBAD := Aside0.mk hbad
  have HGOOD := Aside0.mk hgood
  have HB13 := Aside0.mk (below_step HB12.out hb)
  have HB3 := Aside0.mk (below_step HB2.out hb)
  clear hb hbad hgood k0 k1 k2 k3 k4 k5
  obtain ⟨W3, hW3, hb3, hc3⟩ := rep_alloc w3 #[.int .i64 er, .int .i64 0, .int .i64 n, .string tx, .slice A1 n1 c1, .slice A2 n2 c2, .slice A3 n3 c3, .complex .f64 x y]
  have HX0 := Aside0.mk (hc3 0 _ rfl)
  have HX2 := Aside0.mk (hc3 2 _ rfl)
  have HB1W := Aside0.mk (below_step HB13.out hb3)
  have HBW := Aside0.mk (below_step HB3.out hb3)
  have k0 := pw_cell_below HB1W.out g0.out
  have k1 := pw_cell_below HB1W.out g1.out
  have k2 := pw_cell_below HB1W.out g2.out
  have k3 := pw_cell_below HB1W.out g3.out
  have k4 := pw_cell_below HB1W.out g4.out
  have k5 := pw_cell_below HB1W.out g5.out
  have CH := Aside0.mk (change_calls A0 c0 l0 kind id fr tt snap text a2 W3 (Kd.C_below HR.out HBW.out) HC.out (by omega))
  have CC := change_cases l0 kind id fr tt snap text a2
  obtain ⟨⟨m, e⟩, hme⟩ : ∃ q, changeOf l0 kind id fr tt snap text a2 = q := ⟨_, rfl⟩
  rw [hme] at CH CC
  dsimp only at CH CC
  have HCB := Aside0.mk CC.1
  have HCG := Aside0.mk CC.2
  subst hW3
  clear hme CC hb3 hc3
  go_wp2_with fail
  refine CH.out.mono ?_
  rintro en w4 ⟨A4, c4, rfl, hc4, hC4, hb⟩
  have HC4 := Aside0.mk hc4
  have HM4 := Aside0.mk hC4
  have HB14 := Aside0.mk (below_step HB1W.out hb)
  have HB4 := Aside0.mk (below_step HBW.out hb)
  have HY0 := Aside0.mk (pw_cell_below hb HX0.out)
  have HY2 := Aside0.mk (pw_cell_below hb HX2.out)
  clear hb hc4 hC4 CH k0 k1 k2 k3 k4 k5 HX0 HX2
  have MR := Aside0.mk (model_Right.calls (2 * l0.length + 2) A0 c0 l0 (modelB l0) w4 (Kd.C_below HR.out HB4.out) HC.out (modelRight_ok l0 (by omega) _ (Nat.le_refl _)))
  go_wp2_with fail
  refine MR.out.mono ?_
  rintro en w5 ⟨rfl, hb⟩
  have HB45 := Aside0.mk hb
  have HB5 := Aside0.mk (below_step HB4.out hb)
  have HB15 := Aside0.mk (below_step HB14.out hb)
  have y0 := pw_cell_below hb HY0.out
  have y2 := pw_cell_below hb HY2.out
  have k0 := pw_cell_below HB15.out g0.out
  have k1 := pw_cell_below HB15.out g1.out
  have k2 := pw_cell_below HB15.out g2.out
  have k3 := pw_cell_below HB15.out g3.out
  have k4 := pw_cell_below HB15.out g4.out
  have k5 := pw_cell_below HB15.out g5.out
  clear hb
  cases e1 : modelB l0 with
  | false =>
    have hmay : mayB l0 kind id fr tt snap text = false := by unfold mayB; rw [e1]; rfl
    obtain ⟨rfl, rfl⟩ := HBAD.out (Or.inl hmay)
    have hcb := HCB.out (Or.inl hmay)
    injection hcb with hm he
    subst hm he
    clear hmay
    go_wp2_with fail
    go_ret
    exact ⟨rfl, HB5.out⟩
  | true =>
    have AR := Aside0.mk (scriniumref1_AskRight.calls 20 kind id fr tt snap text (askB kind id fr tt snap text) w5 (askRight_same kind id fr tt snap text))
    go_wp2_with fail
    refine AR.out.mono ?_
    rintro en w6 ⟨rfl, hb⟩
    have HB46 := Aside0.mk (below_step HB45.out hb)
    have HB6 := Aside0.mk (below_step HB5.out hb)
    have y0' := pw_cell_below hb y0
    have y2' := pw_cell_below hb y2
    have k0' := pw_cell_below hb k0
    have HY0' := Aside0.mk y0'
    clear hb y0 y2 k0 k1 k2 k3 k4 k5
    cases e2 : askB kind id fr tt snap text with
    | false =>
      have hmay : mayB l0 kind id fr tt snap text = false := by unfold mayB; rw [e1, e2]; rfl
      obtain ⟨rfl, rfl⟩ := HBAD.out (Or.inl hmay)
      have hcb := HCB.out (Or.inl hmay)
      injection hcb with hm he
      subst hm he
      clear hmay
      go_wp2_with fail
      go_ret
      exact ⟨rfl, HB6.out⟩
    | true =>
      have hmay : mayB l0 kind id fr tt snap text = true := by unfold mayB; rw [e1, e2]; rfl
      have hpos : 1 ≤ kind := by
        rcases Int.lt_or_le kind 1 with h | h
        · have hn := name_out kind (Or.inl h)
          unfold askB at e2
          rw [hn, show (⟨#[]⟩ : ByteArray).toList.isEmpty = true by decide +kernel] at e2
          cases e2
        · exact h
      by_cases h3 : 2 < kind
      · have t3 : decide (2 < kind) = true := decide_eq_true h3
        have hcb := HCB.out (Or.inr (Or.inr h3))
        injection hcb with hm he
        subst hm he
        by_cases h4 : 7 < kind
        · have t4 : decide (7 < kind) = true := decide_eq_true h4
          obtain ⟨rfl, rfl⟩ := HBAD.out (Or.inr (Or.inr h4))
          clear hmay
          go_wp2_with fail
          go_ret
          exact ⟨rfl, HB6.out⟩
        · have t4 : decide (7 < kind) = false := decide_eq_false h4
          have her := HGOOD.out (by rw [hmay]; rintro (h | h | h); cases h; omega; omega)
          have t5 : (er == 1) = false := beq_eq_false_iff_ne.2 her
          clear hmay her
          go_wp2_with fail
          go_ret
          exact ⟨rfl, HB6.out⟩
      · have t3 : decide (2 < kind) = false := decide_eq_false h3
        obtain ⟨rfl, rfl⟩ := HBAD.out (Or.inr (Or.inl (by omega)))
        have hcg := HCG.out (by rw [hmay]; rintro (h | h | h); cases h; omega; omega)
        clear hmay
        rcases hcg with ⟨rfl, hD⟩ | ⟨he, rfl⟩
        · have MR2 := Aside0.mk (fun w' (hr : Kd.C k42 w' A4 m.length m) => model_Right.calls (2 * m.length + 2) A4 c4 m true w' hr HC4.out ((modelRight_ok m (by have := hD.len; omega) _ (Nat.le_refl _)).trans (by rw [(modelB_iff m).2 hD])))
          clear hD
          go_wp2_with fail
          refine (MR2.out _ (Kd.C_below HM4.out HB46.out)).mono ?_
          rintro en w7 ⟨rfl, hb⟩
          have HB7 := Aside0.mk (below_step HB6.out hb)
          clear hb y0' y2' k0'
          go_wp2_with fail
          go_ret
          exact ⟨rfl, HB7.out⟩
        · have t6 : (e == 0) = false := beq_eq_false_iff_ne.2 he
          have SD := Aside0.mk (scriniumbook_SameDocs.calls (m.length + 1) A4 c4 m A0 c0 m true w6 (Kd.C_below HM4.out HB46.out) HC4.out (Kd.C_below HR.out HB6.out) HC.out (same_ok m (by omega)))
          go_wp2_with fail
          refine SD.out.mono ?_
          rintro en w7 ⟨rfl, hb⟩
          have HB7 := Aside0.mk (below_step HB6.out hb.below)
          clear hb y0' y2' k0'
          go_wp2_with fail
          go_ret
          exact ⟨rfl, HB7.out⟩
/-- The same, in the row's form. -/
theorem ModelRefuses_all (A0 : Option Addr) (c0 : Nat) (l0 : List S42) (kind id fr tt snap : Int) (text : ByteArray) (a2 : Int) (w : World) (hr0 : Kd.C k42 w A0 l0.length l0) (hc0 : l0.length ≤ c0) (hs : ∀ x ∈ l0, (Lit.int .i64 x.f0).wf = true ∧ x.f1.size ≤ 9223372036854775807) (hl : l0.length * 24 ≤ 140737488351232)
    (ws : (Lit.int .i64 kind).wf = true ∧ (Lit.int .i64 id).wf = true ∧ (Lit.int .i64 fr).wf = true ∧ (Lit.int .i64 tt).wf = true ∧ (Lit.int .i64 snap).wf = true) (wt : text.size ≤ 9223372036854775807) (w2 : (Lit.int .i64 a2).wf = true) :
    Calls Try.prog 6 #[.slice A0 l0.length c0, .agg #[.int .i64 kind, .int .i64 id, .int .i64 fr, .int .i64 tt, .int .i64 snap, .string text], .int .i64 a2] w fun e w' => e = .returned (.bool true) ∧ Below w.heap.size w w' := refuses_calls A0 c0 l0 kind id fr tt snap text a2 w hr0 hc0
end Go.Proofs.Ytibhenengpdahaa.P
