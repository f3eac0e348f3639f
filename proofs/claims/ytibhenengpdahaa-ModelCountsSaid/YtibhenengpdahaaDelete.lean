/- slices.Delete of one document of a row of one's own. Conditions: the row is the call's own. -/
import Derived.Test.YtibhenengpdahaaClone
import Derived.Laws.CopyRow
import Derived.Laws.CopyOwn
set_option linter.unusedVariables false
set_option linter.unusedSimpArgs false
namespace Go.Proofs.Ytibhenengpdahaa.P
open Go.RowKit Go.Proofs.YtibhenengpdahaaW.PrintWords Go.Proofs.YtibhenengpdahaaW.PrintLast Go.Proofs.YtibhenengpdahaaW.PrintMore

theorem docs_tail {W : World} {base g n c : Nat} {ok : Nat → Prop} {xs : List S42} (h : Kd.R k42 42 W base ok (.slice (some ⟨g, 0, none⟩) n c) xs) (off : Nat) (vs : List Value) (h1 : n * 2 ≤ off) (h2 : off + vs.length ≤ c * 2) (hone : ∀ v ∈ vs, v.oneCell' = true) :
    ∃ w1, (storeCells ⟨g, off, none⟩ vs 0).run Try.prog W = .ok () w1 ∧ Kd.R k42 42 w1 base ok (.slice (some ⟨g, 0, none⟩) n c) xs ∧ Below base W w1 := by
  obtain ⟨hok, inner, hown, hr⟩ := h
  obtain ⟨hin, hrow⟩ := hown
  rcases hrow with ⟨hv, _⟩ | ⟨g', cap, cur, hv, hb, hh, hnc, hcm, hcs, htake⟩
  · cases hv
  injection hv with ha hn hc
  injection ha with ha
  injection ha with hg
  subst hg
  subst hc
  have hcs2 : cur.size = c * 2 := hcs
  have hlen : xs.length = n := hn.symm
  have hrun := run_storeCells_at (P := Try.prog) g off 42 vs 0 cur W hh (by omega) hone
  rw [Nat.add_zero] at hrun
  have h9 : xs.length * 2 ≤ min off cur.toList.length := by have e := Array.length_toList (xs := cur); omega
  have e1 : (cur.toList.take off ++ vs ++ cur.toList.drop (off + vs.length)).length = cur.size := by
    rw [List.length_append, List.length_append, List.length_take, List.length_drop, Array.length_toList]
    omega
  refine ⟨_, hrun, ⟨hok, inner, ⟨hin, Or.inr ⟨g, c, _, by rw [← hn], hb, setRow_heap W g cur _ _ _ hh, hnc, hcm, ?_, ?_⟩⟩, ?_⟩, below_setRow (Below.refl _ _) hb _⟩
  · rw [List.size_toArray, e1]
    exact hcs
  · show ((cur.toList.take off ++ vs ++ cur.toList.drop (off + vs.length)).toArray).toList.take (xs.length * 2) = inner
    rw [List.toList_toArray, List.append_assoc, List.take_append_of_le_length (by rw [List.length_take]; exact h9), List.take_take, Nat.min_eq_left (by omega)]
    exact htake
  · refine hr.imp_ (fun x cs hM => ?_)
    obtain rfl := k42_openM hM
    exact k42_mkM _ _ _ x
theorem docs_clear (g off c' : Nat) (ty : TypeId) (w1 w2 : World) (h : (storeCells ⟨g, off, none⟩ [.int .i64 0, .string ⟨#[]⟩] 0).run Try.prog w1 = .ok () w2) : (Builtin.clear_ #[22] ty #[.slice (some ⟨g, off, none⟩) 1 c']).run Try.prog w1 = .ok (.tuple #[]) w2 := by
  have hz : (zeroValue 42).run Try.prog w1 = .ok (.agg #[.int .i64 0, .string ⟨#[]⟩]) w1 := by kernel_rfl
  have hc : (Builtin.zeroCells (Value.agg #[.int .i64 0, .string ⟨#[]⟩]).cells 1).toList = [.int .i64 0, .string ⟨#[]⟩] := by
    simp [Builtin.zeroCells, Value.cells]
    rfl
  unfold Builtin.clear_
  simp [run_underlying Try.underlying22, hz, hc, h, Result.andThen]
theorem infoDocZ : ((Try.prog).info? 42).map (·.size) = some 2 := by kernel_rfl
def docsDelete.T5 : Bool × List (List Nat × List Nat) := (true, [([], []), ([], []), ([0, 1], [0, 1]), ([], []), ([], []), ([3, 4], [3, 4]), ([2, 5], [2, 5]), ([6, 6, 0, 1, 2, 3, 4, 5, 6], [0, 3, 6])])
def docsDelete.B5 : List Nat := [0, 0, 3, 0, 0, 24, 63, 127]
theorem docsDelete.tab5 : rtab .any (opsOf Try.f22 5) = docsDelete.T5 := by kernel_rfl
theorem docsDelete.bits5 : waitsOk docsDelete.T5.2 docsDelete.B5 = true := by kernel_rfl
set_option maxRecDepth 100000 in
set_option maxHeartbeats 2000000 in
theorem delete_calls (i : Nat) (v : Value) (l0 : List S42) (w0 w : World) (hB : Below w0.heap.size w0 w) (ho : Kd.R k42 42 w w0.heap.size (fun _ => True) v l0) (hi : i < l0.length) (hl : l0.length ≤ 1000000) :
    Calls Try.prog 22 #[v, .int .i64 (i : Int), .int .i64 ((i : Int) + 1)] w fun e w' => ∃ v' : Value, e = .returned v' ∧ Kd.R k42 42 w' w0.heap.size (fun _ => True) v' (l0.eraseIdx i) ∧ Below w0.heap.size w0 w' := by
  obtain ⟨A, c, rfl⟩ := Kd.R_slice ho
  obtain ⟨hlen, hlc, hC⟩ := Kd.R_reads' ho
  obtain ⟨g, rfl⟩ : ∃ g, A = some ⟨g, 0, none⟩ := by
    obtain ⟨_, inner, ⟨_, hrow⟩, _⟩ := ho
    rcases hrow with ⟨hv, h0⟩ | ⟨g, cap, cur, hv, _⟩
    · omega
    · injection hv with ha
      exact ⟨g, ha⟩
  have HO := Aside0.mk ho
  have HB := Aside0.mk hB
  have v1 : ((i : Int) ≤ (i : Int) + 1) = True := eq_true (by omega)
  have v2 : (0 ≤ (i : Int)) = True := eq_true (by omega)
  have v3 : ((i : Int) + 1 ≤ (l0.length : Int)) = True := eq_true (by omega)
  have v4 : ((i : Int) == (i : Int) + 1) = false := beq_eq_false_iff_ne.2 (by omega)
  have v5 : (l0.length ≤ c) = True := eq_true hlc
  clear ho hB hC
  obtain ⟨i0, hi0, hz0⟩ := Option.map_eq_some_iff.1 infoDocZ
  have hcut1 : ∀ W, (Instr.slice 22 (.slice (some ⟨g, 0, none⟩) l0.length c) none (some (.int .i64 (i : Int))) none).run Try.prog W = .ok (.slice (some ⟨g, 0, none⟩) i c) W :=
    cut_to 22 42 .i64 Try.underlying22 hi0 (some ⟨g, 0, none⟩) l0.length c (i : Int) (by omega) (by omega) hlc
  have hcut2 : ∀ W, (Instr.slice 22 (.slice (some ⟨g, 0, none⟩) l0.length c) (some (.int .i64 ((i : Int) + 1))) none none).run Try.prog W = .ok (.slice (if c = i + 1 then some ⟨g, 0, none⟩ else (some (⟨g, 0, none⟩ : Addr)).map (·.add ((i + 1) * 2))) (l0.length - (i + 1)) (c - (i + 1))) W :=
    cut_from 22 42 .i64 Try.underlying22 hi0 2 hz0 (some ⟨g, 0, none⟩) l0.length c ((i : Int) + 1) (by omega) (by omega)
  go_enter Try.func22, Try.ntmps22
  go_wp2_with fail
  clear v1 v3 v4
  try go_wp2
  refine start_ (n := 8) (S := fun _ => True) (ds := []) #[false, false, false, false, false, false, false, false] (by kernel_rfl) rfl rfl trivial (fun hHeld => ?_)
  refine with_tabW docsDelete.tab5 docsDelete.bits5 (fun HT_ HW_ => ?_)
  refine take_ (i := 0) (N := some 20) (v := ?_) (a' := ?_) #[true, false, false, false, false, false, false, false] rfl rfl (take_ofW HT_.out HW_.out (by kernel_rfl)) (fun _ _ _ h => h) (Or.inl ⟨by rfl, ?_⟩) hHeld ?_ ?_
  rotate_left
  · intro w' s
    go_simp
    with_reducible rfl
  rotate_left
  · simp only [Act.put, List.setIfInBounds_toArray, List.set_cons_zero, List.set_cons_succ, i64_w, i32_w]
    rfl
  refine take_ (i := 1) (N := some 21) (v := ?_) (a' := ?_) #[true, true, false, false, false, false, false, false] rfl rfl (take_ofW HT_.out HW_.out (by kernel_rfl)) (fun _ _ _ h => h) (Or.inl ⟨by rfl, ?_⟩) hHeld ?_ ?_
  rotate_left
  · intro w' s
    go_simp
    with_reducible rfl
  rotate_left
  · simp only [Act.put, List.setIfInBounds_toArray, List.set_cons_zero, List.set_cons_succ, i64_w, i32_w]
    rfl
  refine take_ (i := 2) (N := some 22) (v := (.slice (some ⟨g, 0, none⟩) i c)) (a' := ?_) #[true, true, true, false, false, false, false, false] rfl rfl (take_ofW HT_.out HW_.out (by kernel_rfl)) (fun _ _ _ h => h) (Or.inl ⟨by rfl, ?_⟩) hHeld ?_ ?_
  · intro w' s
    have hs := hcut1 w'
    go_simp
  rotate_left
  · simp only [Act.put, List.setIfInBounds_toArray, List.set_cons_zero, List.set_cons_succ, i64_w, i32_w]
    rfl
  refine take_ (i := 3) (N := some 23) (v := ?_) (a' := ?_) #[true, true, true, true, false, false, false, false] rfl rfl (take_ofW HT_.out HW_.out (by kernel_rfl)) (fun _ _ _ h => h) (Or.inl ⟨by rfl, ?_⟩) hHeld ?_ ?_
  rotate_left
  · intro w' s
    go_simp
    with_reducible rfl
  rotate_left
  · simp only [Act.put, List.setIfInBounds_toArray, List.set_cons_zero, List.set_cons_succ, i64_w, i32_w]
    rfl
  refine take_ (i := 4) (N := some 24) (v := ?_) (a' := ?_) #[true, true, true, true, true, false, false, false] rfl rfl (take_ofW HT_.out HW_.out (by kernel_rfl)) (fun _ _ _ h => h) (Or.inl ⟨by rfl, ?_⟩) hHeld ?_ ?_
  rotate_left
  · intro w' s
    go_simp
    with_reducible rfl
  rotate_left
  · simp only [Act.put, List.setIfInBounds_toArray, List.set_cons_zero, List.set_cons_succ, i64_w, i32_w]
    rfl
  refine take_ (i := 5) (N := some 25) (v := (.slice (if c = i + 1 then some ⟨g, 0, none⟩ else (some (⟨g, 0, none⟩ : Addr)).map (·.add ((i + 1) * 2))) (l0.length - (i + 1)) (c - (i + 1)))) (a' := ?_) #[true, true, true, true, true, true, false, false] rfl rfl (take_ofW HT_.out HW_.out (by kernel_rfl)) (fun _ _ _ h => h) (Or.inl ⟨by rfl, ?_⟩) hHeld ?_ ?_
  · intro w' s
    have hs := hcut2 w'
    go_simp
  rotate_left
  · simp only [Act.put, List.setIfInBounds_toArray, List.set_cons_zero, List.set_cons_succ, i64_w, i32_w]
    rfl
  refine one_ (i := 6) (N := some 26) #[true, true, true, true, true, true, true, false] rfl rfl (one_of HT_.out (by kernel_rfl)) (by decide) (fun K hK => ?_)
  refine Kd.R_delete_step k42 (w0 := w0) (n := l0.length) w0.heap.size (by rfl) (.tmp 22) (.tmp 25) 22 42 rfl Try.underlying22 infoDocZ rfl rfl rfl rfl (Kd.R_drew HO.out) hi (below_drew1 HB.out) HB.out.size ?_
  intro w1 ho1 hb1 hg1
  have HO1 := Aside0.mk ho1
  have HB1 := Aside0.mk hb1
  clear ho1 hb1 hg1
  refine hK.out _ _ trivial (fun hHeld => ?_)
  clear hK K
  refine norm_ (a' := ?_) ?_ ?_
  rotate_left
  · show Act.put _ (some 26) _ = _
    simp only [Act.put, List.setIfInBounds_toArray, List.set_cons_zero, List.set_cons_succ, i64_w, i32_w]
    rfl
  refine take_ (i := 7) (N := some 0) (v := ?_) (a' := ?_) #[true, true, true, true, true, true, true, true] rfl rfl (take_ofW HT_.out HW_.out (by kernel_rfl)) (fun _ _ _ h => h) (Or.inl ⟨by rfl, ?_⟩) hHeld ?_ ?_
  rotate_left
  · intro w' s
    go_simp
    with_reducible rfl
  rotate_left
  · simp only [Act.put, List.setIfInBounds_toArray, List.set_cons_zero, List.set_cons_succ, i64_w, i32_w]
    rfl
  refine done_ (done_of HT_.out (by kernel_rfl)) ?_
  obtain ⟨m, hm⟩ : ∃ m, l0.length = m + 1 := ⟨l0.length - 1, by omega⟩
  have hm1 : l0.length - 1 = m := by omega
  rw [hm1] at HO1 ⊢
  rw [hm]
  obtain ⟨w2, hst, ho2, hb2⟩ := docs_tail HO1.out (m * 2) [.int .i64 0, .string ⟨#[]⟩] (Nat.le_refl _) (by show m * 2 + 2 ≤ c * 2; omega) (by simp [Value.oneCell'])
  have hclr := fun ty c' => docs_clear g (m * 2) c' ty w1 w2 hst
  have HO2 := Aside0.mk ho2
  have HB2 := Aside0.mk ((HB1.out).trans hb2)
  have v6 : (m + 1 ≤ c) = True := eq_true (by omega)
  have v7 : (c = m) = False := eq_false (by omega)
  clear ho2 hb2 hst hcut1 hcut2
  go_wp2_with fail
  all_goals
    go_ret
    first
    | exact ⟨_, rfl, HO2.out, HB2.out⟩
    | (have hcx : c = i + 1 := by assumption
       subst hcx
       exact ⟨_, rfl, HO2.out, HB2.out⟩)
end Go.Proofs.Ytibhenengpdahaa.P
