/- The law ModelThere, walked. Conditions: how the list lies in memory. -/
import Derived.Test.YtibhenengpdahaaLaw0
set_option linter.unusedVariables false
set_option linter.unusedSimpArgs false
namespace Go.Proofs.Ytibhenengpdahaa.P
open Go.RowKit Go.Proofs.YtibhenengpdahaaW.PrintWords Go.Proofs.YtibhenengpdahaaW.PrintLast Go.Proofs.YtibhenengpdahaaW.PrintMore
attribute [local go_sem high] eqA42
attribute [local go_sem] run_store_cx

theorem rep_alloc (w : World) (cs : Array Value) : ∃ W, w.alloc (.cells cs 34) = W ∧ Below w.heap.size w W ∧ ∀ i v, cs[i]? = some v → W.cell? ⟨w.heap.size, i, none⟩ = some v :=
  ⟨_, rfl, below_alloc (Below.refl _ _) _, fun i v h => cell_newA w cs _ i v h⟩
theorem texts_size {l : List S42} (h : Docs0 l) (d : Nat) : (textAt (textsOf l) d).size ≤ 1000 := by
  unfold textAt
  rw [List.getD_eq_getElem?_getD]
  cases e : (textsOf l)[d]? with
  | none => exact Nat.zero_le _
  | some s =>
    obtain ⟨x, hx, rfl⟩ := List.mem_map.1 (List.mem_of_getElem? e)
    exact Nat.le_trans (h.short x hx) (by decide)
theorem naive_docs {l : List S42} (h : Docs0 l) (p : ByteArray) : ∃ k, back_Naive.f k p (textsOf l) = some (naiveM (textsOf l) p l.length) := by
  have h1 := naiveM_ok (textsOf l) p (by unfold textsOf; rw [List.length_map]; have := h.len; omega) (texts_size h)
  unfold textsOf at h1 ⊢
  rwa [List.length_map] at h1
/-- What an insert that is let in makes. -/
theorem insert_cases {l : List S42} (h : Docs0 l) (text : ByteArray) (id : Int) : (changeOf l 1 0 0 0 0 text id).2 ≠ 0 ∨ (changeOf l 1 0 0 0 0 text id = (l ++ [⟨id, text⟩], 0) ∧ l.length < 10 ∧ 1 ≤ id ∧ (∀ d ∈ l, d.f0 ≠ id) ∧ text.size ≤ 40) := by
  unfold changeOf mayB
  rw [(modelB_iff l).2 h, ask_insert, Bool.true_and]
  by_cases h1 : (text.size : Int) ≤ 40
  · rw [if_pos ⟨decide_eq_true h1, by decide, by decide⟩, if_neg (by decide)]
    by_cases h2 : id < 1 ∨ 0 ≤ findOf l id
    · rw [if_pos h2]; exact Or.inl (show (1 : Int) ≠ 0 by decide)
    · rw [if_neg h2]
      by_cases h3 : 10 ≤ l.length
      · rw [if_pos h3]; exact Or.inl (show (8 : Int) ≠ 0 by decide)
      · rw [if_neg h3]
        exact Or.inr ⟨rfl, by omega, by omega, find_neg (by omega), by omega⟩
  · rw [if_neg (fun h => h1 (of_decide_eq_true h.1))]
    left; decide
theorem delete_far {l : List S42} (id : Int) (h : 65535 < id) : changeOf l 2 id 0 0 0 ⟨#[]⟩ 0 = ([], 1) := by
  unfold changeOf mayB
  rw [ask_delete, decide_eq_false (show ¬ id ≤ 65535 by omega), Bool.and_false, Bool.and_false, if_neg (by simp)]
theorem delete_none {l : List S42} (h : Docs0 l) (id : Int) (h1 : 1 ≤ id) (h2 : id ≤ 65535) (h3 : ∀ d ∈ l, d.f0 ≠ id) : changeOf l 2 id 0 0 0 ⟨#[]⟩ 0 = (l, 4) := by
  unfold changeOf mayB
  rw [(modelB_iff l).2 h, ask_delete, decide_eq_true h2, decide_eq_true (show 0 ≤ id by omega), if_pos ⟨rfl, by decide, by decide⟩, if_pos rfl, find_neg_of h3, if_pos (by decide)]
theorem delete_last {l : List S42} (id : Int) (text : ByteArray) (h : Docs0 (l ++ [⟨id, text⟩])) (h2 : id ≤ 65535) : changeOf (l ++ [⟨id, text⟩]) 2 id 0 0 0 ⟨#[]⟩ 0 = (l, 0) := by
  have hl : l.length < (l ++ [(⟨id, text⟩ : S42)]).length := by rw [List.length_append]; simp
  have hg : (l ++ [(⟨id, text⟩ : S42)])[l.length] = ⟨id, text⟩ := by simp
  have h1 := change_delete h l.length hl (by rw [hg]; exact h2)
  rw [hg] at h1
  rw [h1, List.eraseIdx_append_of_length_le (Nat.le_refl _), Nat.sub_self]
  simp
theorem same_l (l : List S42) (hl : l.length ≤ 1000000) : ∀ (m j k : Nat), m = l.length - j → j ≤ l.length → m + 1 ≤ k → scriniumbook_SameDocs.l0 k l l (j : Int) = some true := by
  intro m
  induction m with
  | zero =>
    intro j k hm hj hk
    obtain rfl : j = l.length := by omega
    obtain ⟨k1, rfl⟩ : ∃ k1, k = k1 + 1 := ⟨k - 1, by omega⟩
    rw [scriniumbook_SameDocs.l0, if_neg (by omega)]
  | succ m ih =>
    intro j k hm hj hk
    obtain ⟨k1, rfl⟩ : ∃ k1, k = k1 + 1 := ⟨k - 1, by omega⟩
    have hrec := ih (j + 1) k1 (by omega) (by omega) (by omega)
    have hw : wrap64 ((j : Int) + 1) = ((j + 1 : Nat) : Int) := w64n (j + 1) (by omega)
    rw [scriniumbook_SameDocs.l0, if_pos (by omega), if_pos (by omega), if_pos (by omega), hw]
    rw [if_pos (by simp)]
    exact hrec
theorem same_ok (l : List S42) (hl : l.length ≤ 1000000) : scriniumbook_SameDocs.f (l.length + 1) l l = some true := by
  unfold scriniumbook_SameDocs.f
  rw [if_pos rfl]
  exact same_l l hl l.length 0 _ rfl (Nat.zero_le _) (Nat.le_refl _)
set_option maxRecDepth 100000 in
set_option maxHeartbeats 4000000 in
theorem there_calls (A0 : Option Addr) (c0 : Nat) (l0 : List S42) (a1 : ByteArray) (a2 : Int) (w : World) (hr0 : Kd.C k42 w A0 l0.length l0) (hc0 : l0.length ≤ c0) :
    Calls Try.prog 3 #[.slice A0 l0.length c0, .string a1, .int .i64 a2] w fun e w' => e = .returned (.bool true) ∧ Below w.heap.size w w' := by
  have HR := Aside0.mk hr0
  have HC := Aside0.mk hc0
  have AL := Aside0.mk aliveM_calls
  go_enter Try.func3, Try.ntmps3
  by_cases h1 : 14 < l0.length
  · have t1 : decide ((14 : Int) < (l0.length : Int)) = true := decide_eq_true (by omega)
    go_wp2_with fail
    refine (AL.out _).mono ?_
    rintro en w2 ⟨rfl, hb⟩
    have HB2 := Aside0.mk hb
    clear hb
    go_wp2_with fail
    go_ret
    exact ⟨rfl, HB2.out⟩
  have t1 : decide ((14 : Int) < (l0.length : Int)) = false := decide_eq_false (by omega)
  by_cases h2 : 60 < a1.size
  · have t2 : decide ((60 : Int) < (a1.size : Int)) = true := decide_eq_true (by omega)
    go_wp2_with fail
    refine (AL.out _).mono ?_
    rintro en w2 ⟨rfl, hb⟩
    have HB2 := Aside0.mk hb
    clear hb
    go_wp2_with fail
    go_ret
    exact ⟨rfl, HB2.out⟩
  have t2 : decide ((60 : Int) < (a1.size : Int)) = false := decide_eq_false (by omega)
  have MR := Aside0.mk (fun w' (hr : Kd.C k42 w' A0 l0.length l0) => model_Right.calls (2 * l0.length + 2) A0 c0 l0 (modelB l0) w' hr hc0 (modelRight_ok l0 (by omega) _ (Nat.le_refl _)))
  go_wp2_with fail
  refine (MR.out _ HR.out).mono ?_
  rintro en w2 ⟨rfl, hb⟩
  have HB2 := Aside0.mk hb
  clear hb
  cases e1 : modelB l0 with
  | false =>
    go_wp2_with fail
    refine (AL.out _).mono ?_
    rintro en w3 ⟨rfl, hb⟩
    have HB3 := Aside0.mk (below_step HB2.out hb)
    clear hb
    go_wp2_with fail
    go_ret
    exact ⟨rfl, HB3.out⟩
  | true =>
    have D0 := (modelB_iff l0).1 e1
    go_wp2_with fail
    refine (AL.out _).mono ?_
    rintro en w3 ⟨rfl, hb⟩
    have HB3 := Aside0.mk (below_step HB2.out hb)
    clear hb
    have HD := Aside0.mk D0
    have CH := Aside0.mk (change_calls A0 c0 l0 1 0 0 0 0 a1 a2 w3 (Kd.C_below HR.out HB3.out) HC.out (by omega))
    have IC := Aside0.mk (insert_cases D0 a1 a2)
    obtain ⟨⟨m, e⟩, hme⟩ : ∃ q, changeOf l0 1 0 0 0 0 a1 a2 = q := ⟨_, rfl⟩
    rw [hme] at CH IC
    dsimp only at CH IC
    clear D0 hme
    go_wp2_with fail
    refine CH.out.mono ?_
    rintro en w4 ⟨A4, c4, rfl, hc4, hC4, hb⟩
    have HC4 := Aside0.mk hc4
    have HM4 := Aside0.mk hC4
    have HB4 := Aside0.mk (below_step HB3.out hb)
    clear hb hc4 hC4 CH
    by_cases h3 : e = 0
    · obtain ⟨hq, hl, hi, hn, hs⟩ := IC.out.resolve_left (fun h => h h3)
      injection hq with hm he
      have DM : Docs0 m := by rw [hm]; exact docs_push HD.out a2 a1 hl hi hn hs
      have HDM := Aside0.mk DM
      subst h3
      clear IC he
      obtain ⟨k1, hk1⟩ := naive_docs DM a1
      obtain ⟨k2, hk2⟩ := naive_docs HD.out a1
      have hmore : (naiveM (textsOf l0) a1 l0.length).length < (naiveM (textsOf m) a1 m.length).length := by
        have h := naiveM_more (textsOf l0) a1
        have e1 : textsOf l0 ++ [a1] = textsOf m := by rw [hm]; unfold textsOf; rw [List.map_append]; rfl
        rw [e1] at h
        unfold textsOf at h ⊢
        rwa [List.length_map, List.length_map] at h
      have hm1 : mayB m 3 0 0 0 0 a1 = true := by unfold mayB; rw [(modelB_iff m).2 DM, ask_text 3 a1 (Or.inl rfl), decide_eq_true (by omega)]; rfl
      have hm2 : mayB l0 3 0 0 0 0 a1 = true := by unfold mayB; rw [(modelB_iff l0).2 HD.out, ask_text 3 a1 (Or.inl rfl), decide_eq_true (by omega)]; rfl
      have AC1 := Aside0.mk (fun w' (hr : Kd.C k42 w' A4 m.length m) => answer_count A4 c4 m 3 0 0 0 0 a1 w' hr HC4.out (by have := DM.len; omega) hm1 rfl _ k1 hk1)
      have AC2 := Aside0.mk (fun w' (hr : Kd.C k42 w' A0 l0.length l0) => answer_count A0 c0 l0 3 0 0 0 0 a1 w' hr HC.out (by omega) hm2 rfl _ k2 hk2)
      unfold repCells nilS zeroC at AC1 AC2
      obtain ⟨n1, hn1⟩ : ∃ n, (naiveM (textsOf m) a1 m.length).length = n := ⟨_, rfl⟩
      obtain ⟨n2, hn2⟩ : ∃ n, (naiveM (textsOf l0) a1 l0.length).length = n := ⟨_, rfl⟩
      rw [hn1] at AC1 hmore
      rw [hn2] at AC2 hmore
      have HMO := Aside0.mk hmore
      have HMM := Aside0.mk hm
      have HI := Aside0.mk hi
      have HN := Aside0.mk hn
      clear hn1 hn2 hmore hk1 hk2 hm1 hm2 hs hl hm DM hi hn
      go_wp2_with fail
      refine (AC1.out _ HM4.out).mono ?_
      rintro en w5 ⟨rfl, hb⟩
      have HB45 := Aside0.mk hb
      clear hb
      obtain ⟨W5, hW5, hb5, hc5⟩ := rep_alloc w5 #[.int .i64 0, .int .i64 0, .int .i64 n1, .string ⟨#[]⟩, .slice none 0 0, .slice none 0 0, .slice none 0 0, .complex .f64 0 0]
      have HW5 := Aside0.mk hW5
      have HB4W := Aside0.mk (below_step HB45.out hb5)
      have HX5 := Aside0.mk (hc5 2 _ rfl)
      clear hW5 hb5 hc5
      go_wp2_with fail
      rw [HW5.out]
      refine (AC2.out _ (Kd.C_below HR.out (below_step HB4.out HB4W.out))).mono ?_
      rintro en w6 ⟨rfl, hb⟩
      have HBW6 := Aside0.mk hb
      clear hb
      obtain ⟨W6, hW6, hb6, hc6⟩ := rep_alloc w6 #[.int .i64 0, .int .i64 0, .int .i64 n2, .string ⟨#[]⟩, .slice none 0 0, .slice none 0 0, .slice none 0 0, .complex .f64 0 0]
      have HW6 := Aside0.mk hW6
      have HX6 := Aside0.mk (hc6 2 _ rfl)
      have HY6 := Aside0.mk (pw_cell_below (below_step HBW6.out hb6) HX5.out)
      have HB4X := Aside0.mk (below_step HB4W.out (below_step HBW6.out hb6))
      clear hW6 hb6 hc6
      go_wp2_with fail
      rw [HW6.out]
      have HBX := Aside0.mk (below_step HB4.out HB4X.out)
      have CD1 := Aside0.mk (change_calls A4 c4 m 2 a2 0 0 0 ⟨#[]⟩ 0 W6 (Kd.C_below HM4.out HB4X.out) HC4.out (by have := HDM.out.len; omega))
      have CD2 := Aside0.mk (fun w' (hr : Kd.C k42 w' A0 l0.length l0) => change_calls A0 c0 l0 2 a2 0 0 0 ⟨#[]⟩ 0 w' hr HC.out (by omega))
      by_cases h4 : 65535 < a2
      · have t4 : decide ((65535 : Int) < a2) = true := decide_eq_true h4
        rw [delete_far a2 h4] at CD1 CD2
        refine CD1.out.mono ?_
        rintro en w7 ⟨A7, c7, rfl, hc7, hC7, hb⟩
        have HB7 := Aside0.mk (below_step HBX.out hb)
        clear hb hC7 hc7
        go_wp2_with fail
        refine (CD2.out _ (Kd.C_below HR.out HB7.out)).mono ?_
        rintro en w8 ⟨A8, c8, rfl, hc8, hC8, hb⟩
        have HB8 := Aside0.mk (below_step HB7.out hb)
        clear hb hC8 hc8
        go_wp2_with fail
        go_ret
        exact ⟨rfl, HB8.out⟩
      · have t4 : decide ((65535 : Int) < a2) = false := decide_eq_false h4
        have h5 := delete_last (l := l0) a2 a1 (by rw [← HMM.out]; exact HDM.out) (by omega)
        rw [← HMM.out] at h5
        rw [h5] at CD1
        rw [delete_none HD.out a2 HI.out (by omega) HN.out] at CD2
        clear h5
        refine CD1.out.mono ?_
        rintro en w7 ⟨A7, c7, rfl, hc7, hC7, hb⟩
        have HB7 := Aside0.mk (below_step HBX.out hb)
        have HBX7 := Aside0.mk hb
        have HC7 := Aside0.mk hc7
        have HD7 := Aside0.mk hC7
        clear hb hC7 hc7
        go_wp2_with fail
        refine (CD2.out _ (Kd.C_below HR.out HB7.out)).mono ?_
        rintro en w8 ⟨A8, c8, rfl, hc8, hC8, hb⟩
        have HB8 := Aside0.mk (below_step HB7.out hb)
        have HB78 := Aside0.mk hb
        clear hb hC8 hc8
        have MR2 := Aside0.mk (model_Right.calls (2 * m.length + 2) A4 c4 m true w8 (Kd.C_below HM4.out (below_step HB4X.out (below_step HBX7.out HB78.out))) HC4.out ((modelRight_ok m (by have := HDM.out.len; omega) _ (Nat.le_refl _)).trans (by rw [(modelB_iff m).2 HDM.out])))
        go_wp2_with fail
        refine MR2.out.mono ?_
        rintro en w9 ⟨rfl, hb⟩
        have HB9 := Aside0.mk (below_step HB8.out hb)
        have HX9 := Aside0.mk (below_step HBX7.out (below_step HB78.out hb))
        have SD := Aside0.mk (scriniumbook_SameDocs.calls (l0.length + 1) A7 c7 l0 A0 c0 l0 true w9 (Kd.C_below HD7.out (below_step HB78.out hb)) HC7.out (Kd.C_below HR.out HB9.out) HC.out (same_ok l0 (by omega)))
        have x0 := pw_cell_below HX9.out HX6.out
        have x1 := pw_cell_below HX9.out HY6.out
        have t5 : decide ((n2 : Int) < (n1 : Int)) = true := decide_eq_true (by have := HMO.out; omega)
        have t6 : decide (n2 < n1) = true := decide_eq_true HMO.out
        clear hb
        go_wp2_with fail
        refine SD.out.mono ?_
        rintro en w10 ⟨rfl, hb⟩
        have HB10 := Aside0.mk (below_step HB9.out hb.below)
        clear hb x0 x1
        go_wp2_with fail
        go_ret
        exact ⟨rfl, HB10.out⟩
    · have t3 : (e == 0) = false := beq_eq_false_iff_ne.2 h3
      go_wp2_with fail
      go_ret
      exact ⟨rfl, HB4.out⟩
/-- The same, in the row's form. -/
theorem ModelThere_all (A0 : Option Addr) (c0 : Nat) (l0 : List S42) (a1 : ByteArray) (a2 : Int) (w : World) (hr0 : Kd.C k42 w A0 l0.length l0) (hc0 : l0.length ≤ c0) (hs : ∀ x ∈ l0, (Lit.int .i64 x.f0).wf = true ∧ x.f1.size ≤ 9223372036854775807) (hl : l0.length * 24 ≤ 140737488351232) (w1 : a1.size ≤ 140737488351232) (w2 : (Lit.int .i64 a2).wf = true) :
    Calls Try.prog 3 #[.slice A0 l0.length c0, .string a1, .int .i64 a2] w fun e w' => e = .returned (.bool true) ∧ Below w.heap.size w w' := there_calls A0 c0 l0 a1 a2 w hr0 hc0
end Go.Proofs.Ytibhenengpdahaa.P
