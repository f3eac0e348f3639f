/- The function Change of package model. Conditions: how the list lies in memory, and its length. -/
import Derived.Test.YtibhenengpdahaaGreatJD
import Derived.Test.YtibhenengpdahaaGreatAskWalk
set_option linter.unusedVariables false
set_option linter.unusedSimpArgs false
namespace Go.Proofs.YtibhenengpdahaaGreat.P
open Go.RowKit Go.Proofs.YtibhenengpdahaaGreatW.PrintWords Go.Proofs.YtibhenengpdahaaGreatW.PrintLast Go.Proofs.YtibhenengpdahaaGreatW.PrintMore

/-- May documents be asked, or changed, so? -/
def mayB (l : List S27) (kind id fr tt snap : Int) (text : ByteArray) : Bool := modelB l && askB kind id fr tt snap text
def changeOf (l : List S27) (kind id fr tt snap : Int) (text : ByteArray) (nid : Int) : List S27 × Int :=
  if mayB l kind id fr tt snap text = true ∧ 1 ≤ kind ∧ kind ≤ 2 then
    (if kind = 2 then (if findOf l id < 0 then (l, 4) else (l.eraseIdx (findOf l id).toNat, 0))
     else if nid < 1 ∨ 0 ≤ findOf l nid then (l, 1) else if 10 ≤ l.length then (l, 8) else (l ++ [⟨nid, text⟩], 0))
  else ([], 1)
theorem one_doc (W : World) (nid : Int) (text : ByteArray) : Kd.C k27 (W.alloc (.cells #[.int .i64 nid, .string text] 27)) (some ⟨W.heap.size, 0, none⟩) 1 [⟨nid, text⟩] := by
  refine ⟨rfl, by decide, fun _ => ⟨_, rfl, fun j p hj => ?_⟩⟩
  obtain rfl : j = 0 := by
    rcases Nat.eq_zero_or_pos j with h | h
    · exact h
    · rw [List.getElem?_eq_none (by simp; omega)] at hj; cases hj
  have hp : p = ⟨nid, text⟩ := by simpa using hj.symm
  subst hp
  refine ⟨[.int .i64 nid, .string text], rfl, k27_mk _ _, fun i u hu => ?_⟩
  rcases i with _ | _ | i
  · have : u = .int .i64 nid := by simpa using hu.symm
    subst this
    exact cell_newA W _ _ 0 _ rfl
  · have : u = .string text := by simpa using hu.symm
    subst this
    exact cell_newA W _ _ 1 _ rfl
  · simp at hu
def modelChange.T12 : Bool × List (List Nat × List Nat) := (true, [([], []), ([0], [0]), ([], []), ([], []), ([3], [3]), ([2, 4], [2, 4]), ([5], [5]), ([1, 6, 1], [1, 6]), ([7, 7, 0, 1, 2, 3, 4, 5, 6, 7], [7]), ([8, 0, 1, 2, 3, 4, 5, 6, 7, 8], [])])
def modelChange.B12 : List Nat := [0, 1, 0, 0, 8, 28, 60, 127, 255, 511]
theorem modelChange.tab12 : rtab .any (opsOf Tryz.f8 12) = modelChange.T12 := by kernel_rfl
theorem modelChange.bits12 : waitsOk modelChange.T12.2 modelChange.B12 = true := by kernel_rfl
set_option maxRecDepth 100000 in
set_option maxHeartbeats 4000000 in
theorem change_owns (A0 : Option Addr) (c0 : Nat) (l0 : List S27) (kind id fr tt snap : Int) (text : ByteArray) (nid : Int) (w : World) (hr0 : Kd.C k27 w A0 l0.length l0) (hc0 : l0.length ≤ c0) (hl : l0.length ≤ 1000000) :
    Calls Tryz.prog 8 #[.slice A0 l0.length c0, .agg #[.int .i64 kind, .int .i64 id, .int .i64 fr, .int .i64 tt, .int .i64 snap, .string text], .int .i64 nid] w fun e w' =>
      ∃ (A : Option Addr) (c : Nat), e = .returned (.tuple #[.slice A (changeOf l0 kind id fr tt snap text nid).1.length c, .int .i64 (changeOf l0 kind id fr tt snap text nid).2]) ∧ (changeOf l0 kind id fr tt snap text nid).1.length ≤ c ∧
        Kd.C k27 w' A (changeOf l0 kind id fr tt snap text nid).1.length (changeOf l0 kind id fr tt snap text nid).1 ∧ Below w.heap.size w w' ∧
        ((changeOf l0 kind id fr tt snap text nid).2 = 0 → Kd.R k27 27 w' w.heap.size (fun _ => True) (.slice A (changeOf l0 kind id fr tt snap text nid).1.length c) (changeOf l0 kind id fr tt snap text nid).1) ∧
        ((changeOf l0 kind id fr tt snap text nid).2 ≠ 0 → (A = A0 ∧ c = c0 ∧ (changeOf l0 kind id fr tt snap text nid).1 = l0) ∨ (A = none ∧ c = 0 ∧ (changeOf l0 kind id fr tt snap text nid).1 = [])) := by
  have MR := Aside0.mk (fun w' (hr : Kd.C k27 w' A0 l0.length l0) => model_Right.calls (2 * l0.length + 2) A0 c0 l0 (modelB l0) w' hr hc0 (modelRight_ok l0 hl _ (Nat.le_refl _)))
  have AR := Aside0.mk (ask_Right.told kind id fr tt snap text)
  have FI := Aside0.mk (fun x w' (hr : Kd.C k27 w' A0 l0.length l0) => model_find.calls A0 c0 l0 x (findOf l0 x) w' hr hc0 rfl)
  have CL := Aside0.mk (fun w' (hr : Kd.C k27 w' A0 l0.length l0) => clone_calls A0 c0 l0 w' hr hc0 (by omega))
  have DE := Aside0.mk (fun i v w' hB ho hi => delete_calls i v l0 w w' hB ho hi hl)
  have FL := Aside0.mk (find_lt l0)
  have HR := Aside0.mk hr0
  have HC := Aside0.mk hc0
  have HL := Aside0.mk hl
  obtain ⟨W1, hW1⟩ : ∃ W1, w.alloc (.cells #[.int .i64 kind, .int .i64 id, .int .i64 fr, .int .i64 tt, .int .i64 snap, .string text] 24) = W1 := ⟨_, rfl⟩
  have HB1 : Aside0 (Below w.heap.size w W1) := ⟨by rw [← hW1]; exact below_alloc (Below.refl _ _) _⟩
  have g0 : Aside0 (W1.cell? ⟨w.heap.size, 0, none⟩ = some (.int .i64 kind)) := ⟨by rw [← hW1]; exact cell_newA w _ _ 0 _ rfl⟩
  have g1 : Aside0 (W1.cell? ⟨w.heap.size, 1, none⟩ = some (.int .i64 id)) := ⟨by rw [← hW1]; exact cell_newA w _ _ 1 _ rfl⟩
  have g2 : Aside0 (W1.cell? ⟨w.heap.size, 2, none⟩ = some (.int .i64 fr)) := ⟨by rw [← hW1]; exact cell_newA w _ _ 2 _ rfl⟩
  have g3 : Aside0 (W1.cell? ⟨w.heap.size, 3, none⟩ = some (.int .i64 tt)) := ⟨by rw [← hW1]; exact cell_newA w _ _ 3 _ rfl⟩
  have g4 : Aside0 (W1.cell? ⟨w.heap.size, 4, none⟩ = some (.int .i64 snap)) := ⟨by rw [← hW1]; exact cell_newA w _ _ 4 _ rfl⟩
  have g5 : Aside0 (W1.cell? ⟨w.heap.size, 5, none⟩ = some (.string text)) := ⟨by rw [← hW1]; exact cell_newA w _ _ 5 _ rfl⟩
  have W1E := Aside0.mk hW1
  clear hW1 hr0 hc0 hl
  go_enter Tryz.func8, Tryz.ntmps8
  go_wp2_with fail
  rw [W1E.out]
  refine (MR.out _ (Kd.C_below HR.out HB1.out)).mono ?_
  rintro en w2 ⟨rfl, hb⟩
  have HB12 := Aside0.mk hb
  have HB2 := Aside0.mk (below_step HB1.out hb)
  clear hb W1E
  cases e1 : modelB l0 with
  | false =>
    have HE : Aside0 (changeOf l0 kind id fr tt snap text nid = ([], 1)) := ⟨if_neg (by unfold mayB; rw [e1]; simp)⟩
    go_wp2_with fail
    go_ret2
    rw [HE.out]
    exact ⟨none, 0, rfl, Nat.le_refl _, Kd.C_nil _ _, HB2.out, by intro h; simp at h, fun _ => Or.inr ⟨rfl, rfl, rfl⟩⟩
  | true =>
    have k0 := pw_cell_below HB12.out g0.out
    have k1 := pw_cell_below HB12.out g1.out
    have k2 := pw_cell_below HB12.out g2.out
    have k3 := pw_cell_below HB12.out g3.out
    have k4 := pw_cell_below HB12.out g4.out
    have k5 := pw_cell_below HB12.out g5.out
    go_wp2_with fail
    refine (AR.out _).mono ?_
    rintro en w3 ⟨rfl, hb⟩
    have HB13 := Aside0.mk (below_step HB12.out hb)
    have HB3 := Aside0.mk (below_step HB2.out hb)
    clear hb k0 k1 k2 k3 k4 k5
    cases e2 : askB kind id fr tt snap text with
    | false =>
      have HE : Aside0 (changeOf l0 kind id fr tt snap text nid = ([], 1)) := ⟨if_neg (by unfold mayB; rw [e1, e2]; simp)⟩
      go_wp2_with fail
      go_ret2
      rw [HE.out]
      exact ⟨none, 0, rfl, Nat.le_refl _, Kd.C_nil _ _, HB3.out, by intro h; simp at h, fun _ => Or.inr ⟨rfl, rfl, rfl⟩⟩
    | true =>
      have k0 := pw_cell_below HB13.out g0.out
      have k1 := pw_cell_below HB13.out g1.out
      by_cases h1 : kind < 1
      · have t1 : decide (kind < 1) = true := decide_eq_true h1
        have HE : Aside0 (changeOf l0 kind id fr tt snap text nid = ([], 1)) := ⟨if_neg (by omega)⟩
        go_wp2_with fail
        go_ret2
        rw [HE.out]
        exact ⟨none, 0, rfl, Nat.le_refl _, Kd.C_nil _ _, HB3.out, by intro h; simp at h, fun _ => Or.inr ⟨rfl, rfl, rfl⟩⟩
      have t1 : decide (kind < 1) = false := decide_eq_false h1
      by_cases h2 : 2 < kind
      · have t2 : decide (2 < kind) = true := decide_eq_true h2
        have HE : Aside0 (changeOf l0 kind id fr tt snap text nid = ([], 1)) := ⟨if_neg (by omega)⟩
        go_wp2_with fail
        go_ret2
        rw [HE.out]
        exact ⟨none, 0, rfl, Nat.le_refl _, Kd.C_nil _ _, HB3.out, by intro h; simp at h, fun _ => Or.inr ⟨rfl, rfl, rfl⟩⟩
      have t2 : decide (2 < kind) = false := decide_eq_false h2
      have hM : mayB l0 kind id fr tt snap text = true ∧ 1 ≤ kind ∧ kind ≤ 2 := ⟨by unfold mayB; rw [e1, e2]; rfl, by omega, by omega⟩
      by_cases h3 : kind = 2
      · have t3 : (kind == 2) = true := beq_iff_eq.2 h3
        go_wp2_with fail
        refine (FI.out id _ (Kd.C_below HR.out HB3.out)).mono ?_
        rintro en w4 ⟨rfl, hb⟩
        have HB4 := Aside0.mk (below_step HB3.out hb)
        clear hb k0 k1
        by_cases h4 : findOf l0 id < 0
        · have t4 : decide (findOf l0 id < 0) = true := decide_eq_true h4
          have HE : Aside0 (changeOf l0 kind id fr tt snap text nid = (l0, 4)) := ⟨(if_pos hM).trans ((if_pos h3).trans (if_pos h4))⟩
          go_wp2_with fail
          go_ret2
          rw [HE.out]
          exact ⟨A0, c0, rfl, HC.out, Kd.C_below HR.out HB4.out, HB4.out, by intro h; simp at h, fun _ => Or.inl ⟨rfl, rfl, rfl⟩⟩
        · have t4 : decide (findOf l0 id < 0) = false := decide_eq_false h4
          have HE : Aside0 (changeOf l0 kind id fr tt snap text nid = (l0.eraseIdx (findOf l0 id).toNat, 0)) := ⟨(if_pos hM).trans ((if_pos h3).trans (if_neg h4))⟩
          obtain ⟨q, hq⟩ : ∃ q : Nat, findOf l0 id = (q : Int) := ⟨(findOf l0 id).toNat, by omega⟩
          have hql : q < l0.length := by have := FL.out id; omega
          rw [hq, Int.toNat_natCast] at HE
          rw [hq] at t4
          rw [hq]
          have v1 : IntKind.i64.wrap ((q : Int) + 1) = (q : Int) + 1 := IntWalk.i64_in _ (by have := HL.out; omega)
          go_wp2_with fail
          refine (CL.out _ (Kd.C_below HR.out HB4.out)).mono ?_
          rintro en w5 ⟨v5, rfl, ho, hb⟩
          have HB5 := Aside0.mk (below_step HB4.out hb)
          have HO5 := Aside0.mk (Kd.R_lower ho HB4.out.size)
          clear ho hb
          go_wp2_with fail
          refine (DE.out q v5 _ HB5.out HO5.out hql).mono ?_
          rintro en w6 ⟨v6, rfl, ho, hb⟩
          have HB6 := Aside0.mk hb
          obtain ⟨A6, c6, rfl⟩ := Kd.R_slice ho
          have HO6 := Aside0.mk (Kd.R_reads' ho)
          have HO6R := Aside0.mk ho
          clear ho hb
          go_wp2_with fail
          go_ret2
          rw [HE.out]
          exact ⟨A6, c6, rfl, HO6.out.2.1, HO6.out.2.2, HB6.out, fun _ => HO6R.out, fun h => absurd rfl h⟩
      · have t3 : (kind == 2) = false := beq_eq_false_iff_ne.2 h3
        have hN : changeOf l0 kind id fr tt snap text nid = if nid < 1 ∨ 0 ≤ findOf l0 nid then (l0, 1) else if 10 ≤ l0.length then (l0, 8) else (l0 ++ [⟨nid, text⟩], 0) := (if_pos hM).trans (if_neg h3)
        by_cases h4 : nid < 1
        · have t4 : decide (nid < 1) = true := decide_eq_true h4
          have HE : Aside0 (changeOf l0 kind id fr tt snap text nid = (l0, 1)) := ⟨hN.trans (if_pos (Or.inl h4))⟩
          clear hN
          go_wp2_with fail
          go_ret2
          rw [HE.out]
          exact ⟨A0, c0, rfl, HC.out, Kd.C_below HR.out HB3.out, HB3.out, by intro h; simp at h, fun _ => Or.inl ⟨rfl, rfl, rfl⟩⟩
        have t4 : decide (nid < 1) = false := decide_eq_false h4
        have HN := Aside0.mk hN
        clear hN
        go_wp2_with fail
        refine (FI.out nid _ (Kd.C_below HR.out HB3.out)).mono ?_
        rintro en w4 ⟨rfl, hb⟩
        have HB4 := Aside0.mk (below_step HB3.out hb)
        have HB14 := Aside0.mk (below_step HB13.out hb)
        clear hb k0 k1
        by_cases h5 : 0 ≤ findOf l0 nid
        · have t5 : decide (0 ≤ findOf l0 nid) = true := decide_eq_true h5
          have HE : Aside0 (changeOf l0 kind id fr tt snap text nid = (l0, 1)) := ⟨HN.out.trans (if_pos (Or.inr h5))⟩
          go_wp2_with fail
          go_ret2
          rw [HE.out]
          exact ⟨A0, c0, rfl, HC.out, Kd.C_below HR.out HB4.out, HB4.out, by intro h; simp at h, fun _ => Or.inl ⟨rfl, rfl, rfl⟩⟩
        have t5 : decide (0 ≤ findOf l0 nid) = false := decide_eq_false h5
        by_cases h6 : 10 ≤ l0.length
        · have t6 : decide ((10 : Int) ≤ (l0.length : Int)) = true := decide_eq_true (by omega)
          have HE : Aside0 (changeOf l0 kind id fr tt snap text nid = (l0, 8)) := ⟨HN.out.trans ((if_neg (by omega)).trans (if_pos h6))⟩
          go_wp2_with fail
          go_ret2
          rw [HE.out]
          exact ⟨A0, c0, rfl, HC.out, Kd.C_below HR.out HB4.out, HB4.out, by intro h; simp at h, fun _ => Or.inl ⟨rfl, rfl, rfl⟩⟩
        have t6 : decide ((10 : Int) ≤ (l0.length : Int)) = false := decide_eq_false (by omega)
        have HE : Aside0 (changeOf l0 kind id fr tt snap text nid = (l0 ++ [⟨nid, text⟩], 0)) := ⟨HN.out.trans ((if_neg (by omega)).trans (if_neg h6))⟩
        go_wp2_with fail
        try go_wp2
        refine start_ (n := 10) (S := fun w' => Below w4.heap.size w4 w') (ds := []) (bs 10 0) (by kernel_rfl) rfl rfl (below_drew1 (Below.refl _ _)) (fun hHeld => ?_)
        refine with_tabW modelChange.tab12 modelChange.bits12 (fun HT_ HW_ => ?_)
        have k5 := pw_cell_below HB14.out g5.out
        refine take_ (i := 0) (N := some 58) (v := ?_) (a' := ?_) (bs 10 1) rfl rfl (take_ofW HT_.out HW_.out (by kernel_rfl)) (fun _ _ _ h => h) (Or.inl ⟨by rfl, ?_⟩) hHeld ?_ ?_
        rotate_left
        · intro w' s
          go_simp
          with_reducible rfl
        rotate_left
        · simp only [putAll, Act.put, List.setIfInBounds_toArray, List.set_cons_zero, List.set_cons_succ, i64_w, i32_w]
          rfl
        refine take_ (i := 2) (N := some 60) (v := ?_) (a' := ?_) (bs 10 5) rfl rfl (take_ofW HT_.out HW_.out (by kernel_rfl)) (fun _ _ _ h => h) (Or.inl ⟨by rfl, ?_⟩) hHeld ?_ ?_
        rotate_left
        · intro w' s
          go_simp
          with_reducible rfl
        rotate_left
        · simp only [putAll, Act.put, List.setIfInBounds_toArray, List.set_cons_zero, List.set_cons_succ, i64_w, i32_w]
          rfl
        refine take_ (i := 3) (N := some 61) (v := ?_) (a' := ?_) (bs 10 13) rfl rfl (take_ofW HT_.out HW_.out (by kernel_rfl)) (fun _ _ _ h => h) (Or.inl ⟨by rfl, ?_⟩) hHeld ?_ ?_
        rotate_left
        · intro w' s
          go_simp
          with_reducible rfl
        rotate_left
        · simp only [putAll, Act.put, List.setIfInBounds_toArray, List.set_cons_zero, List.set_cons_succ, i64_w, i32_w]
          rfl
        refine take_ (i := 4) (N := some 62) (v := ?_) (a' := ?_) (bs 10 29) rfl rfl (take_ofW HT_.out HW_.out (by kernel_rfl)) (fun _ _ _ h => h) (Or.inl ⟨by rfl, ?_⟩) hHeld ?_ ?_
        rotate_left
        · intro w' s
          have s0 := pw_cell_below s k5
          go_simp
          with_reducible rfl
        rotate_left
        · simp only [putAll, Act.put, List.setIfInBounds_toArray, List.set_cons_zero, List.set_cons_succ, i64_w, i32_w]
          rfl
        refine take_ (i := 5) (N := some 63) (v := ?_) (a' := ?_) (bs 10 61) rfl rfl (take_ofW HT_.out HW_.out (by kernel_rfl)) (fun _ _ _ h => h) (Or.inl ⟨by rfl, ?_⟩) hHeld ?_ ?_
        rotate_left
        · intro w' s
          go_simp
          with_reducible rfl
        rotate_left
        · simp only [putAll, Act.put, List.setIfInBounds_toArray, List.set_cons_zero, List.set_cons_succ, i64_w, i32_w]
          rfl
        clear k5
        refine join_ (σ := Value × Nat) 3 (bs 10 127) (fun s => [(59, s.1), (64, .slice (some ⟨s.2, 0, none⟩) 1 1)]) (fun s w' => Kd.R k27 27 w' w4.heap.size (fun _ => True) s.1 l0 ∧ Kd.C k27 w' (some ⟨s.2, 0, none⟩) 1 [⟨nid, text⟩] ∧ Below w4.heap.size w4 w') ?_ ?_
        · rintro ⟨v5, bb⟩ w5 ⟨ho5, hc5, hb5⟩
          refine norm_ (a' := ?_) ?_ ?_
          rotate_left
          · simp only [putAll, Act.put, List.setIfInBounds_toArray, List.set_cons_zero, List.set_cons_succ, i64_w, i32_w]
            rfl
          refine one_ (i := 7) (N := some 65) (bs 10 255) rfl rfl (one_of HT_.out (by kernel_rfl)) (by decide) (fun K hK => ?_)
          refine Kd.R_append_rows_step k27 (Rr := k27.K w5) (w0 := w4) w4.heap.size (by rfl) (.tmp 59) (.tmp 64) 22 27 (.agg #[.int .i64 0, .string ⟨#[]⟩]) 24 rfl Tryz.underlying22 infoDoc rfl (by decide) (by omega) v5 l0 [⟨nid, text⟩] (some ⟨bb, 0, none⟩) 1 1 (fun _ => True) (fun _ => False) rfl rfl ho5 hc5 (fun _ _ h => docM h) (fun _ h => h.elim) (fun _ _ => trivial) hb5 hb5.size (by omega) ?_
          intro v7 w7 ho7 hb7 hg hat
          have HO7 := Aside0.mk ho7
          have HB7 := Aside0.mk hb7
          clear ho7 hg hat ho5 hc5 hb5
          refine hK.out _ _ hb7 (fun hHeld => ?_)
          clear hK K hb7
          refine norm_ (a' := ?_) ?_ ?_
          rotate_left
          · show Act.put _ (some 65) _ = _
            simp only [putAll, Act.put, List.setIfInBounds_toArray, List.set_cons_zero, List.set_cons_succ, i64_w, i32_w]
            rfl
          iterate 2
            refine tk_ (N := some _) (v := ?_) (a' := ?_) rfl rfl (take_ofW HT_.out HW_.out (by kernel_rfl)) (fun _ _ _ h => h) (Or.inl ⟨by rfl, ?_⟩) hHeld ?_ ?_
            rotate_left
            · intro w' s
              go_simp
              with_reducible rfl
            rotate_left
            · simp only [putAll, Act.put, List.setIfInBounds_toArray, List.set_cons_zero, List.set_cons_succ, i64_w, i32_w]
              rfl
          refine done_ (done_of HT_.out (by kernel_rfl)) ?_
          obtain ⟨A7, c7, hv7⟩ := Kd.R_slice HO7.out
          subst hv7
          have HR7 := Aside0.mk (Kd.R_reads' HO7.out)
          have HBz := Aside0.mk (below_step HB4.out HB7.out)
          clear hHeld
          go_wp2_with fail
          go_ret2
          rw [HE.out]
          exact ⟨A7, c7, by first | rfl | (rw [List.length_append]; rfl), HR7.out.2.1, HR7.out.2.2, HBz.out, fun _ => Kd.R_lower HO7.out HB4.out.size, fun h => absurd rfl h⟩
        · intro hjoin
          generalize w4.drew = wd at hHeld ⊢
          refine two_ (i := 1) (j := 6) (bs 10 63) (bs 10 125) rfl rfl rfl rfl (two_of HT_.out (by kernel_rfl)) (by decide) (by decide) (fun K hK => ?_) (fun K hK => ?_)
          · refine goes_ Tryz.func33 (by kernel_rfl) rfl #[.slice A0 l0.length c0] (by rfl) rfl rfl (by (try simp only [List.map_toArray, List.map_cons, List.map_nil]); first | done | rfl | (simp only [List.length_drop, List.length_take]; rfl)) ?_
            refine (CL.out _ (Kd.C_below HR.out (below_step HB4.out hHeld))).mono ?_
            rintro en w5 ⟨v5, rfl, ho, hb⟩
            refine ⟨_, rfl, ?_⟩
            have hS5 := below_step hHeld hb
            have ho5 := Kd.R_lower ho hHeld.size
            refine hK.out _ _ hS5 (fun _ => ?_)
            clear hK K
            refine norm_ (a' := ?_) ?_ ?_
            rotate_left
            · show Act.put _ (some 59) _ = _
              simp only [putAll, Act.put, List.setIfInBounds_toArray, List.set_cons_zero, List.set_cons_succ, i64_w, i32_w]
              rfl
            refine one_ (i := 6) (N := some 64) (bs 10 127) rfl rfl (one_of HT_.out (by kernel_rfl)) (by decide) (fun K hK => ?_)
            refine value_ (v := .slice (some ⟨w5.heap.size, 0, none⟩) 1 1) (w1 := w5.alloc (.cells #[.int .i64 nid, .string text] 27)) (by rfl) rfl (by first | (go_simp; done) | (go_simp; rfl)) (hK.out _ _ (below_alloc hS5 _) (fun _ => ?_))
            exact hjoin (v5, w5.heap.size) _ ⟨Kd.R_alloc ho5 _, one_doc w5 nid text, below_alloc hS5 _⟩
          · refine value_ (v := .slice (some ⟨wd.heap.size, 0, none⟩) 1 1) (w1 := wd.alloc (.cells #[.int .i64 nid, .string text] 27)) (by rfl) rfl (by first | (go_simp; done) | (go_simp; rfl)) (hK.out _ _ (below_alloc hHeld _) (fun _ => ?_))
            clear hK K
            have hS6 := below_alloc hHeld (.cells #[.int .i64 nid, .string text] 27)
            have hC6 := one_doc wd nid text
            obtain ⟨w6, hw6⟩ : ∃ w6, wd.alloc (.cells #[.int .i64 nid, .string text] 27) = w6 := ⟨_, rfl⟩
            rw [hw6] at hS6 hC6 ⊢
            refine norm_ (a' := ?_) ?_ ?_
            rotate_left
            · show Act.put _ (some 64) _ = _
              simp only [putAll, Act.put, List.setIfInBounds_toArray, List.set_cons_zero, List.set_cons_succ, i64_w, i32_w]
              rfl
            refine one_ (i := 1) (N := some 59) (bs 10 127) rfl rfl (one_of HT_.out (by kernel_rfl)) (by decide) (fun K hK => ?_)
            refine goes_ Tryz.func33 (by kernel_rfl) rfl #[.slice A0 l0.length c0] (by rfl) rfl rfl (by (try simp only [List.map_toArray, List.map_cons, List.map_nil]); first | done | rfl | (simp only [List.length_drop, List.length_take]; rfl)) ?_
            refine (CL.out _ (Kd.C_below HR.out (below_step HB4.out hS6))).mono ?_
            rintro en w5 ⟨v5, rfl, ho, hb⟩
            refine ⟨_, rfl, ?_⟩
            have hS5 := below_step hS6 hb
            have ho5 := Kd.R_lower ho hS6.size
            refine hK.out _ _ hS5 (fun _ => ?_)
            exact hjoin (v5, wd.heap.size) _ ⟨ho5, Kd.C_below hC6 hb, hS5⟩
theorem change_calls (A0 : Option Addr) (c0 : Nat) (l0 : List S27) (kind id fr tt snap : Int) (text : ByteArray) (nid : Int) (w : World) (hr0 : Kd.C k27 w A0 l0.length l0) (hc0 : l0.length ≤ c0) (hl : l0.length ≤ 1000000) :
    Calls Tryz.prog 8 #[.slice A0 l0.length c0, .agg #[.int .i64 kind, .int .i64 id, .int .i64 fr, .int .i64 tt, .int .i64 snap, .string text], .int .i64 nid] w fun e w' =>
      ∃ (A : Option Addr) (c : Nat), e = .returned (.tuple #[.slice A (changeOf l0 kind id fr tt snap text nid).1.length c, .int .i64 (changeOf l0 kind id fr tt snap text nid).2]) ∧ (changeOf l0 kind id fr tt snap text nid).1.length ≤ c ∧
        Kd.C k27 w' A (changeOf l0 kind id fr tt snap text nid).1.length (changeOf l0 kind id fr tt snap text nid).1 ∧ Below w.heap.size w w' :=
  (change_owns A0 c0 l0 kind id fr tt snap text nid w hr0 hc0 hl).mono fun _ _ ⟨A, c, h1, h2, h3, h4, _⟩ => ⟨A, c, h1, h2, h3, h4⟩
end Go.Proofs.YtibhenengpdahaaGreat.P
