/- slices.Clone of documents: a row of its own with the same documents. Conditions: how the list lies in memory. -/
import Derived.Test.YtibhenengpdahaaFind
import Derived.Laws.CopyRow
import Derived.Laws.CopyOwn
import Derived.Test.YtibhenengpdahaaP10
import Derived.Test.YtibhenengpdahaaP8
import Derived.Test.YtibhenengpdahaaP9
import Derived.Test.YtibhenengpdahaaP4
import Derived.Test.YtibhenengpdahaaP5
import Derived.Test.YtibhenengpdahaaAskWalk
section
set_option linter.unusedVariables false
set_option linter.unusedSimpArgs false
namespace Go.Proofs.Ytibhenengpdahaa.P
open Go.RowKit Go.Proofs.YtibhenengpdahaaW.PrintWords Go.Proofs.YtibhenengpdahaaW.PrintLast Go.Proofs.YtibhenengpdahaaW.PrintMore

theorem docs_some (ad : Addr) (n c : Nat) (W : World) : (binOp .eql 22 (.slice (some ad) n c) (.slice none 0 0)).run Try.prog W = .ok (.bool false) W := by kernel_rfl
theorem docs_none (n c : Nat) (W : World) : (binOp .eql 22 (.slice none n c) (.slice none 0 0)).run Try.prog W = .ok (.bool true) W := by kernel_rfl
theorem infoDoc : ((Try.prog).info? 42).map (fun i => (i.zero, i.size, i.bytes)) = some (some (.agg #[(.int .i64 0), (.string ⟨#[]⟩)]), 2, 24) := by kernel_rfl
theorem docM {w w1 : World} {base : Nat} {ok : Nat → Prop} {x : S42} {cs : List Value} (h : k42.K w x cs) : k42.M w1 base ok x cs := by
  obtain rfl := k42_open h
  exact k42_mkM w1 base ok x
set_option maxRecDepth 100000 in
theorem clone_calls (A0 : Option Addr) (c0 : Nat) (l0 : List S42) (w : World) (hr0 : Kd.C k42 w A0 l0.length l0) (hc0 : l0.length ≤ c0) (hl : l0.length * 24 ≤ 140737488351232) :
    Calls Try.prog 23 #[.slice A0 l0.length c0] w fun e w' => ∃ v : Value, e = .returned v ∧ Kd.R k42 42 w' w.heap.size (fun _ => True) v l0 ∧ Below w.heap.size w w' := by
  have HR := Aside0.mk hr0
  have HL := Aside0.mk hl
  cases A0 with
  | none =>
    have h0 : l0 = [] := by
      rcases Nat.eq_zero_or_pos l0.length with h | h
      · exact List.eq_nil_of_length_eq_zero h
      · obtain ⟨ad, h, _⟩ := hr0.2.2 h; cases h
    subst h0
    clear hr0 hl
    have q := docs_none 0 c0
    go_enter Try.func23, Try.ntmps23
    go_wp2_with fail
    go_ret
    exact ⟨_, rfl, Kd.R_nil _ _ _ _ _, Below.refl _ _⟩
  | some ad =>
    clear hr0 hl
    have q := docs_some ad l0.length c0
    go_enter Try.func23, Try.ntmps23
    go_wp2_with (first
      | ((with_reducible refine gate_dst (N := 5) rfl ?_); (try (refine gate_guard (by rfl) ?_; dsimp only)); refine Kd.R_lit k42 _ 42 ?hg (N := 5) ?hd (xs := ([] : List S42)) (inner := []) (ok := fun _ => True) (okp := fun _ => True) ?hr ?hp (fun _ hk => hk) trivial (Below.refl _ _) (Nat.le_refl _) (by simp) ?_; (case hd => rfl); (case hg => rfl); (case hr => first | (go_simp; done) | (go_simp; rfl)); (case hp => exact Reps.none _ _); intro v5 w5 ho5 hb hg_ hnew_; clear hg_ hnew_; have HO5 := Aside0.mk ho5; have HB := Aside0.mk hb; clear hb ho5)
      | ((with_reducible refine gate_builtin (b := .append) (xs := #[.tmp 5, .tmp 6]) rfl ?_); (try (refine gate_guard (by rfl) ?_; dsimp only)); at_builtin; refine Kd.R_append_rows k42 (Rr := k42.K w5) (w0 := w) w.heap.size rfl (.tmp 5) (.tmp 6) 22 42 (.agg #[.int .i64 0, .string ⟨#[]⟩]) 24 rfl Try.underlying22 infoDoc rfl (by decide) (by omega) v5 ([] : List S42) l0 _ _ _ (fun _ => True) (fun _ => False) rfl rfl ?aO ?aR (fun _ _ h => docM h) (fun _ h => h.elim) ?aF ?aB ?aS ?aL ?_; (case aR => exact Kd.C_below HR.out HB.out); (case aB => exact HB.out); (case aF => exact (fun _ _ => trivial)); (case aO => exact HO5.out); (case aS => exact HB.out.size); (case aL => have := HL.out; simp; omega); intro v7 w7 ho hb hg hat; rw [List.nil_append] at ho; have HO7 := Aside0.mk ho; have HB7 := Aside0.mk hb; clear ho hb hg hat))
    go_ret
    exact ⟨_, rfl, HO7.out, HB7.out⟩
end Go.Proofs.Ytibhenengpdahaa.P

end
section
set_option linter.unusedVariables false
set_option linter.unusedSimpArgs false
namespace Go.Proofs.Ytibhenengpdahaa.P
open Go.RowKit Go.Proofs.YtibhenengpdahaaW.PrintWords Go.Proofs.YtibhenengpdahaaW.PrintLast Go.Proofs.YtibhenengpdahaaW.PrintMore

theorem docs_tail {W : World} {base g n c : Nat} {ok : Nat → Prop} {xs : List S42} (h : Kd.R k42 42 W base ok (.slice (some ⟨g, 0, none⟩) n c) xs) (off : Nat) (vs : List Value) (h1 : n * 2 ≤ off) (h2 : off + vs.length ≤ c * 2) (hone : ∀ v ∈ vs, v.oneCell' = true) :
    ∃ w1, (storeCells ⟨g, off, none⟩ vs 0).run Try.prog W = .ok () w1 ∧ Kd.R k42 42 w1 base ok (.slice (some ⟨g, 0, none⟩) n c) xs ∧ Below base W w1 := by
  obtain ⟨hok, inner, hown, hr⟩ := h
  obtain ⟨hin, hrow⟩ := hown
  rcases hrow with ⟨hv, _⟩ | ⟨g', cap, cur, hv, hb, hh, hnc, hcm, hcs, htake⟩
  · cases hv
  injection hv with ha hn hc
  injection ha with ha
  injection ha with hg
  subst hg
  subst hc
  have hcs2 : cur.size = c * 2 := hcs
  have hlen : xs.length = n := hn.symm
  have hrun := run_storeCells_at (P := Try.prog) g off 42 vs 0 cur W hh (by omega) hone
  rw [Nat.add_zero] at hrun
  have h9 : xs.length * 2 ≤ min off cur.toList.length := by have e := Array.length_toList (xs := cur); omega
  have e1 : (cur.toList.take off ++ vs ++ cur.toList.drop (off + vs.length)).length = cur.size := by
    rw [List.length_append, List.length_append, List.length_take, List.length_drop, Array.length_toList]
    omega
  refine ⟨_, hrun, ⟨hok, inner, ⟨hin, Or.inr ⟨g, c, _, by rw [← hn], hb, setRow_heap W g cur _ _ _ hh, hnc, hcm, ?_, ?_⟩⟩, ?_⟩, below_setRow (Below.refl _ _) hb _⟩
  · rw [List.size_toArray, e1]
    exact hcs
  · show ((cur.toList.take off ++ vs ++ cur.toList.drop (off + vs.length)).toArray).toList.take (xs.length * 2) = inner
    rw [List.toList_toArray, List.append_assoc, List.take_append_of_le_length (by rw [List.length_take]; exact h9), List.take_take, Nat.min_eq_left (by omega)]
    exact htake
  · refine hr.imp_ (fun x cs hM => ?_)
    obtain rfl := k42_openM hM
    exact k42_mkM _ _ _ x
theorem docs_clear (g off c' : Nat) (ty : TypeId) (w1 w2 : World) (h : (storeCells ⟨g, off, none⟩ [.int .i64 0, .string ⟨#[]⟩] 0).run Try.prog w1 = .ok () w2) : (Builtin.clear_ #[22] ty #[.slice (some ⟨g, off, none⟩) 1 c']).run Try.prog w1 = .ok (.tuple #[]) w2 := by
  have hz : (zeroValue 42).run Try.prog w1 = .ok (.agg #[.int .i64 0, .string ⟨#[]⟩]) w1 := by kernel_rfl
  have hc : (Builtin.zeroCells (Value.agg #[.int .i64 0, .string ⟨#[]⟩]).cells 1).toList = [.int .i64 0, .string ⟨#[]⟩] := by
    simp [Builtin.zeroCells, Value.cells]
    rfl
  unfold Builtin.clear_
  simp [run_underlying Try.underlying22, hz, hc, h, Result.andThen]
theorem infoDocZ : ((Try.prog).info? 42).map (·.size) = some 2 := by kernel_rfl
def docsDelete.T5 : Bool × List (List Nat × List Nat) := (true, [([], []), ([], []), ([0, 1], [0, 1]), ([], []), ([], []), ([3, 4], [3, 4]), ([2, 5], [2, 5]), ([6, 6, 0, 1, 2, 3, 4, 5, 6], [0, 3, 6])])
def docsDelete.B5 : List Nat := [0, 0, 3, 0, 0, 24, 63, 127]
theorem docsDelete.tab5 : rtab .any (opsOf Try.f22 5) = docsDelete.T5 := by kernel_rfl
theorem docsDelete.bits5 : waitsOk docsDelete.T5.2 docsDelete.B5 = true := by kernel_rfl
set_option maxRecDepth 100000 in
set_option maxHeartbeats 2000000 in
theorem delete_calls (i : Nat) (v : Value) (l0 : List S42) (w0 w : World) (hB : Below w0.heap.size w0 w) (ho : Kd.R k42 42 w w0.heap.size (fun _ => True) v l0) (hi : i < l0.length) (hl : l0.length ≤ 1000000) :
    Calls Try.prog 22 #[v, .int .i64 (i : Int), .int .i64 ((i : Int) + 1)] w fun e w' => ∃ v' : Value, e = .returned v' ∧ Kd.R k42 42 w' w0.heap.size (fun _ => True) v' (l0.eraseIdx i) ∧ Below w0.heap.size w0 w' := by
  obtain ⟨A, c, rfl⟩ := Kd.R_slice ho
  obtain ⟨hlen, hlc, hC⟩ := Kd.R_reads' ho
  obtain ⟨g, rfl⟩ : ∃ g, A = some ⟨g, 0, none⟩ := by
    obtain ⟨_, inner, ⟨_, hrow⟩, _⟩ := ho
    rcases hrow with ⟨hv, h0⟩ | ⟨g, cap, cur, hv, _⟩
    · omega
    · injection hv with ha
      exact ⟨g, ha⟩
  have HO := Aside0.mk ho
  have HB := Aside0.mk hB
  have v1 : ((i : Int) ≤ (i : Int) + 1) = True := eq_true (by omega)
  have v2 : (0 ≤ (i : Int)) = True := eq_true (by omega)
  have v3 : ((i : Int) + 1 ≤ (l0.length : Int)) = True := eq_true (by omega)
  have v4 : ((i : Int) == (i : Int) + 1) = false := beq_eq_false_iff_ne.2 (by omega)
  have v5 : (l0.length ≤ c) = True := eq_true hlc
  clear ho hB hC
  obtain ⟨i0, hi0, hz0⟩ := Option.map_eq_some_iff.1 infoDocZ
  have hcut1 : ∀ W, (Instr.slice 22 (.slice (some ⟨g, 0, none⟩) l0.length c) none (some (.int .i64 (i : Int))) none).run Try.prog W = .ok (.slice (some ⟨g, 0, none⟩) i c) W :=
    cut_to 22 42 .i64 Try.underlying22 hi0 (some ⟨g, 0, none⟩) l0.length c (i : Int) (by omega) (by omega) hlc
  have hcut2 : ∀ W, (Instr.slice 22 (.slice (some ⟨g, 0, none⟩) l0.length c) (some (.int .i64 ((i : Int) + 1))) none none).run Try.prog W = .ok (.slice (if c = i + 1 then some ⟨g, 0, none⟩ else (some (⟨g, 0, none⟩ : Addr)).map (·.add ((i + 1) * 2))) (l0.length - (i + 1)) (c - (i + 1))) W :=
    cut_from 22 42 .i64 Try.underlying22 hi0 2 hz0 (some ⟨g, 0, none⟩) l0.length c ((i : Int) + 1) (by omega) (by omega)
  go_enter Try.func22, Try.ntmps22
  go_wp2_with fail
  clear v1 v3 v4
  try go_wp2
  refine start_ (n := 8) (S := fun _ => True) (ds := []) #[false, false, false, false, false, false, false, false] (by kernel_rfl) rfl rfl trivial (fun hHeld => ?_)
  refine with_tabW docsDelete.tab5 docsDelete.bits5 (fun HT_ HW_ => ?_)
  refine take_ (i := 0) (N := some 20) (v := ?_) (a' := ?_) #[true, false, false, false, false, false, false, false] rfl rfl (take_ofW HT_.out HW_.out (by kernel_rfl)) (fun _ _ _ h => h) (Or.inl ⟨by rfl, ?_⟩) hHeld ?_ ?_
  rotate_left
  · intro w' s
    go_simp
    with_reducible rfl
  rotate_left
  · simp only [Act.put, List.setIfInBounds_toArray, List.set_cons_zero, List.set_cons_succ, i64_w, i32_w]
    rfl
  refine take_ (i := 1) (N := some 21) (v := ?_) (a' := ?_) #[true, true, false, false, false, false, false, false] rfl rfl (take_ofW HT_.out HW_.out (by kernel_rfl)) (fun _ _ _ h => h) (Or.inl ⟨by rfl, ?_⟩) hHeld ?_ ?_
  rotate_left
  · intro w' s
    go_simp
    with_reducible rfl
  rotate_left
  · simp only [Act.put, List.setIfInBounds_toArray, List.set_cons_zero, List.set_cons_succ, i64_w, i32_w]
    rfl
  refine take_ (i := 2) (N := some 22) (v := (.slice (some ⟨g, 0, none⟩) i c)) (a' := ?_) #[true, true, true, false, false, false, false, false] rfl rfl (take_ofW HT_.out HW_.out (by kernel_rfl)) (fun _ _ _ h => h) (Or.inl ⟨by rfl, ?_⟩) hHeld ?_ ?_
  · intro w' s
    have hs := hcut1 w'
    go_simp
  rotate_left
  · simp only [Act.put, List.setIfInBounds_toArray, List.set_cons_zero, List.set_cons_succ, i64_w, i32_w]
    rfl
  refine take_ (i := 3) (N := some 23) (v := ?_) (a' := ?_) #[true, true, true, true, false, false, false, false] rfl rfl (take_ofW HT_.out HW_.out (by kernel_rfl)) (fun _ _ _ h => h) (Or.inl ⟨by rfl, ?_⟩) hHeld ?_ ?_
  rotate_left
  · intro w' s
    go_simp
    with_reducible rfl
  rotate_left
  · simp only [Act.put, List.setIfInBounds_toArray, List.set_cons_zero, List.set_cons_succ, i64_w, i32_w]
    rfl
  refine take_ (i := 4) (N := some 24) (v := ?_) (a' := ?_) #[true, true, true, true, true, false, false, false] rfl rfl (take_ofW HT_.out HW_.out (by kernel_rfl)) (fun _ _ _ h => h) (Or.inl ⟨by rfl, ?_⟩) hHeld ?_ ?_
  rotate_left
  · intro w' s
    go_simp
    with_reducible rfl
  rotate_left
  · simp only [Act.put, List.setIfInBounds_toArray, List.set_cons_zero, List.set_cons_succ, i64_w, i32_w]
    rfl
  refine take_ (i := 5) (N := some 25) (v := (.slice (if c = i + 1 then some ⟨g, 0, none⟩ else (some (⟨g, 0, none⟩ : Addr)).map (·.add ((i + 1) * 2))) (l0.length - (i + 1)) (c - (i + 1)))) (a' := ?_) #[true, true, true, true, true, true, false, false] rfl rfl (take_ofW HT_.out HW_.out (by kernel_rfl)) (fun _ _ _ h => h) (Or.inl ⟨by rfl, ?_⟩) hHeld ?_ ?_
  · intro w' s
    have hs := hcut2 w'
    go_simp
  rotate_left
  · simp only [Act.put, List.setIfInBounds_toArray, List.set_cons_zero, List.set_cons_succ, i64_w, i32_w]
    rfl
  refine one_ (i := 6) (N := some 26) #[true, true, true, true, true, true, true, false] rfl rfl (one_of HT_.out (by kernel_rfl)) (by decide) (fun K hK => ?_)
  refine Kd.R_delete_step k42 (w0 := w0) (n := l0.length) w0.heap.size (by rfl) (.tmp 22) (.tmp 25) 22 42 rfl Try.underlying22 infoDocZ rfl rfl rfl rfl (Kd.R_drew HO.out) hi (below_drew1 HB.out) HB.out.size ?_
  intro w1 ho1 hb1 hg1
  have HO1 := Aside0.mk ho1
  have HB1 := Aside0.mk hb1
  clear ho1 hb1 hg1
  refine hK.out _ _ trivial (fun hHeld => ?_)
  clear hK K
  refine norm_ (a' := ?_) ?_ ?_
  rotate_left
  · show Act.put _ (some 26) _ = _
    simp only [Act.put, List.setIfInBounds_toArray, List.set_cons_zero, List.set_cons_succ, i64_w, i32_w]
    rfl
  refine take_ (i := 7) (N := some 0) (v := ?_) (a' := ?_) #[true, true, true, true, true, true, true, true] rfl rfl (take_ofW HT_.out HW_.out (by kernel_rfl)) (fun _ _ _ h => h) (Or.inl ⟨by rfl, ?_⟩) hHeld ?_ ?_
  rotate_left
  · intro w' s
    go_simp
    with_reducible rfl
  rotate_left
  · simp only [Act.put, List.setIfInBounds_toArray, List.set_cons_zero, List.set_cons_succ, i64_w, i32_w]
    rfl
  refine done_ (done_of HT_.out (by kernel_rfl)) ?_
  obtain ⟨m, hm⟩ : ∃ m, l0.length = m + 1 := ⟨l0.length - 1, by omega⟩
  have hm1 : l0.length - 1 = m := by omega
  rw [hm1] at HO1 ⊢
  rw [hm]
  obtain ⟨w2, hst, ho2, hb2⟩ := docs_tail HO1.out (m * 2) [.int .i64 0, .string ⟨#[]⟩] (Nat.le_refl _) (by show m * 2 + 2 ≤ c * 2; omega) (by simp [Value.oneCell'])
  have hclr := fun ty c' => docs_clear g (m * 2) c' ty w1 w2 hst
  have HO2 := Aside0.mk ho2
  have HB2 := Aside0.mk ((HB1.out).trans hb2)
  have v6 : (m + 1 ≤ c) = True := eq_true (by omega)
  have v7 : (c = m) = False := eq_false (by omega)
  clear ho2 hb2 hst hcut1 hcut2
  go_wp2_with fail
  all_goals
    go_ret
    first
    | exact ⟨_, rfl, HO2.out, HB2.out⟩
    | (have hcx : c = i + 1 := by assumption
       subst hcx
       exact ⟨_, rfl, HO2.out, HB2.out⟩)
end Go.Proofs.Ytibhenengpdahaa.P

end
section
set_option linter.unusedVariables false
set_option linter.unusedSimpArgs false
namespace Go.Proofs.Ytibhenengpdahaa.P
open Go.RowKit Go.Proofs.YtibhenengpdahaaW.PrintWords Go.Proofs.YtibhenengpdahaaW.PrintLast Go.Proofs.YtibhenengpdahaaW.PrintMore

def textsOf (l : List S42) : List ByteArray := l.map S42.f1
/-- Each number is a number, and no two are one; the texts may be. -/
def idsOk (l : List S42) (n : Nat) : Bool := (List.range n).all fun i => decide (1 ≤ (l.getD i z42).f0) && decide ((i : Int) ≤ findOf l (l.getD i z42).f0)
def modelB (l : List S42) : Bool := idsOk l l.length && rightB (textsOf l)
theorem w64d (n : Nat) (h : n ≤ 1000000) : wrap64 (n : Int) = (n : Int) := by
  unfold wrap64
  omega
theorem texts_l (l : List S42) (h : l.length ≤ 1000000) : ∀ (m j k : Nat), m = l.length - j → j ≤ l.length → m + 1 ≤ k → model_texts.l0 k (textsOf (l.take j)) l (l.length : Int) (j : Int) = some (textsOf l) := by
  intro m
  induction m with
  | zero =>
    intro j k hm hj hk
    obtain rfl : j = l.length := by omega
    obtain ⟨k1, rfl⟩ : ∃ k1, k = k1 + 1 := ⟨k - 1, by omega⟩
    rw [model_texts.l0, if_neg (by omega), List.take_length]
  | succ m ih =>
    intro j k hm hj hk
    obtain ⟨k1, rfl⟩ : ∃ k1, k = k1 + 1 := ⟨k - 1, by omega⟩
    have hjl : j < l.length := by omega
    have hrec := ih (j + 1) k1 (by omega) (by omega) (by omega)
    have hw : wrap64 ((j : Int) + 1) = ((j + 1 : Nat) : Int) := w64d (j + 1) (by omega)
    have hs : textsOf (l.take (j + 1)) = textsOf (l.take j) ++ [l[j].f1] := by
      unfold textsOf
      rw [List.take_succ_eq_append_getElem hjl, List.map_append]
      rfl
    rw [hs] at hrec
    rw [model_texts.l0, if_pos (by omega), if_pos (by omega), if_pos (by omega), rd_doc_get l j hjl, hw]
    rw [if_pos (by unfold textsOf; rw [List.length_map, List.length_take]; omega)]
    exact hrec
theorem texts_ok (l : List S42) (h : l.length ≤ 1000000) (k : Nat) (hk : l.length + 1 ≤ k) : model_texts.f k l = some (textsOf l) := texts_l l h l.length 0 k (by omega) (Nat.zero_le _) hk
theorem right_l (l : List S42) (h : l.length ≤ 1000000) : ∀ (m j k : Nat), m = l.length - j → j ≤ l.length → l.length + m + 2 ≤ k → model_Right.l0 k l l (l.length : Int) (j : Int) = some ((List.range' j m).all (fun i => decide (1 ≤ (l.getD i z42).f0) && decide ((i : Int) ≤ findOf l (l.getD i z42).f0)) && rightB (textsOf l)) := by
  intro m
  induction m with
  | zero =>
    intro j k hm hj hk
    obtain rfl : j = l.length := by omega
    obtain ⟨k1, rfl⟩ : ∃ k1, k = k1 + 1 := ⟨k - 1, by omega⟩
    rw [model_Right.l0, if_neg (by omega), texts_ok l h k1 (by omega)]
    rfl
  | succ m ih =>
    intro j k hm hj hk
    obtain ⟨k1, rfl⟩ : ∃ k1, k = k1 + 1 := ⟨k - 1, by omega⟩
    have hjl : j < l.length := by omega
    have hrec := ih (j + 1) k1 (by omega) (by omega) (by omega)
    have hw : wrap64 ((j : Int) + 1) = ((j + 1 : Nat) : Int) := w64d (j + 1) (by omega)
    have hg : l.getD j z42 = l[j] := by rw [List.getD_eq_getElem?_getD, List.getElem?_eq_getElem hjl]; rfl
    rw [List.range'_succ, List.all_cons, hg]
    rw [model_Right.l0, if_pos (by omega), if_pos (by omega), if_pos (by omega), rd_doc_get l j hjl, hw]
    by_cases h1 : l[j].f0 < 1
    · rw [if_pos h1, decide_eq_false (show ¬ 1 ≤ l[j].f0 by omega)]
      rfl
    · rw [if_neg h1, decide_eq_true (show 1 ≤ l[j].f0 by omega), Bool.true_and]
      show (some (findOf l l[j].f0)).bind _ = _
      rw [Option.bind_some]
      by_cases h2 : findOf l l[j].f0 < (j : Int)
      · rw [if_pos h2, decide_eq_false (show ¬ (j : Int) ≤ findOf l l[j].f0 by omega)]
        rfl
      · rw [if_neg h2, decide_eq_true (show (j : Int) ≤ findOf l l[j].f0 by omega), Bool.true_and]
        exact hrec
theorem modelRight_ok (l : List S42) (h : l.length ≤ 1000000) (k : Nat) (hk : 2 * l.length + 2 ≤ k) : model_Right.f k l = some (modelB l) := by
  have h1 := right_l l h l.length 0 k (by omega) (Nat.zero_le _) (by omega)
  unfold model_Right.f
  refine Eq.trans h1 ?_
  unfold modelB idsOk
  rw [List.range_eq_range']
theorem modelB_len {l : List S42} (h : modelB l = true) : l.length ≤ 10 := by
  unfold modelB rightB textsOf at h
  simp only [Bool.and_eq_true, decide_eq_true_eq, List.length_map] at h
  exact h.2.1
/-- A part of a document. -/
def partOf (l : List S42) (id fr tt : Int) : ByteArray × Int :=
  if findOf l id < 0 then (⟨#[]⟩, 4) else if fr < 0 ∨ tt < fr ∨ (((rd_T42 l (findOf l id)).f1).size : Int) < tt then (⟨#[]⟩, 3) else (((rd_T42 l (findOf l id)).f1).extract fr.toNat tt.toNat, 0)
theorem find_lt (l : List S42) (id : Int) : findOf l id < (l.length : Int) := by
  unfold findOf
  cases h : l.findIdx? (fun d => d.f0 == id) with
  | none => show (-1 : Int) < _; omega
  | some i =>
    rw [List.findIdx?_eq_some_iff_getElem] at h
    obtain ⟨hi, _⟩ := h
    show (i : Int) < _
    omega
theorem part_ok (l : List S42) (id fr tt : Int) : model_part.f l id fr tt = some (partOf l id fr tt) := by
  have hlt := find_lt l id
  unfold model_part.f partOf
  show (some (findOf l id)).bind _ = _
  rw [Option.bind_some]
  by_cases h1 : findOf l id < 0
  · rw [if_pos h1, if_pos h1]
  rw [if_neg h1, if_neg h1]
  by_cases h2 : fr < 0
  · rw [if_pos h2, if_pos (Or.inl h2)]
  rw [if_neg h2]
  by_cases h3 : fr > tt
  · rw [if_pos h3, if_pos (Or.inr (Or.inl h3))]
  rw [if_neg h3, if_pos (by omega), if_pos hlt]
  by_cases h4 : tt > (((rd_T42 l (findOf l id)).f1).size : Int)
  · rw [if_pos h4, if_pos (Or.inr (Or.inr h4))]
  rw [if_neg h4, if_pos (by omega), if_pos (by omega), if_pos (by omega), if_neg (by omega)]
end Go.Proofs.Ytibhenengpdahaa.P

end
section
set_option linter.unusedVariables false
set_option linter.unusedSimpArgs false
namespace Go.Proofs.Ytibhenengpdahaa.P
open Go.RowKit Go.Proofs.YtibhenengpdahaaW.PrintWords Go.Proofs.YtibhenengpdahaaW.PrintLast Go.Proofs.YtibhenengpdahaaW.PrintMore

/-- May documents be asked, or changed, so? -/
def mayB (l : List S42) (kind id fr tt snap : Int) (text : ByteArray) : Bool := modelB l && askB kind id fr tt snap text
def changeOf (l : List S42) (kind id fr tt snap : Int) (text : ByteArray) (nid : Int) : List S42 × Int :=
  if mayB l kind id fr tt snap text = true ∧ 1 ≤ kind ∧ kind ≤ 2 then
    (if kind = 2 then (if findOf l id < 0 then (l, 4) else (l.eraseIdx (findOf l id).toNat, 0))
     else if nid < 1 ∨ 0 ≤ findOf l nid then (l, 1) else if 10 ≤ l.length then (l, 8) else (l ++ [⟨nid, text⟩], 0))
  else ([], 1)
theorem one_doc (W : World) (nid : Int) (text : ByteArray) : Kd.C k42 (W.alloc (.cells #[.int .i64 nid, .string text] 42)) (some ⟨W.heap.size, 0, none⟩) 1 [⟨nid, text⟩] := by
  refine ⟨rfl, by decide, fun _ => ⟨_, rfl, fun j p hj => ?_⟩⟩
  obtain rfl : j = 0 := by
    rcases Nat.eq_zero_or_pos j with h | h
    · exact h
    · rw [List.getElem?_eq_none (by simp; omega)] at hj; cases hj
  have hp : p = ⟨nid, text⟩ := by simpa using hj.symm
  subst hp
  refine ⟨[.int .i64 nid, .string text], rfl, k42_mk _ _, fun i u hu => ?_⟩
  rcases i with _ | _ | i
  · have : u = .int .i64 nid := by simpa using hu.symm
    subst this
    exact cell_newA W _ _ 0 _ rfl
  · have : u = .string text := by simpa using hu.symm
    subst this
    exact cell_newA W _ _ 1 _ rfl
  · simp at hu
def modelChange.T12 : Bool × List (List Nat × List Nat) := (true, [([], []), ([0], [0]), ([], []), ([], []), ([3], [3]), ([2, 4], [2, 4]), ([5], [5]), ([1, 6, 1], [1, 6]), ([7, 7, 0, 1, 2, 3, 4, 5, 6, 7], [7]), ([8, 0, 1, 2, 3, 4, 5, 6, 7, 8], [])])
def modelChange.B12 : List Nat := [0, 1, 0, 0, 8, 28, 60, 127, 255, 511]
theorem modelChange.tab12 : rtab .any (opsOf Try.f11 12) = modelChange.T12 := by kernel_rfl
theorem modelChange.bits12 : waitsOk modelChange.T12.2 modelChange.B12 = true := by kernel_rfl
set_option maxRecDepth 100000 in
set_option maxHeartbeats 4000000 in
theorem change_calls (A0 : Option Addr) (c0 : Nat) (l0 : List S42) (kind id fr tt snap : Int) (text : ByteArray) (nid : Int) (w : World) (hr0 : Kd.C k42 w A0 l0.length l0) (hc0 : l0.length ≤ c0) (hl : l0.length ≤ 1000000) :
    Calls Try.prog 11 #[.slice A0 l0.length c0, .agg #[.int .i64 kind, .int .i64 id, .int .i64 fr, .int .i64 tt, .int .i64 snap, .string text], .int .i64 nid] w fun e w' =>
      ∃ (A : Option Addr) (c : Nat), e = .returned (.tuple #[.slice A (changeOf l0 kind id fr tt snap text nid).1.length c, .int .i64 (changeOf l0 kind id fr tt snap text nid).2]) ∧ (changeOf l0 kind id fr tt snap text nid).1.length ≤ c ∧
        Kd.C k42 w' A (changeOf l0 kind id fr tt snap text nid).1.length (changeOf l0 kind id fr tt snap text nid).1 ∧ Below w.heap.size w w' := by
  have MR := Aside0.mk (fun w' (hr : Kd.C k42 w' A0 l0.length l0) => model_Right.calls (2 * l0.length + 2) A0 c0 l0 (modelB l0) w' hr hc0 (modelRight_ok l0 hl _ (Nat.le_refl _)))
  have AR := Aside0.mk (ask_Right.calls kind id fr tt snap text)
  have FI := Aside0.mk (fun x w' (hr : Kd.C k42 w' A0 l0.length l0) => model_find.calls A0 c0 l0 x (findOf l0 x) w' hr hc0 rfl)
  have CL := Aside0.mk (fun w' (hr : Kd.C k42 w' A0 l0.length l0) => clone_calls A0 c0 l0 w' hr hc0 (by omega))
  have DE := Aside0.mk (fun i v w' hB ho hi => delete_calls i v l0 w w' hB ho hi hl)
  have FL := Aside0.mk (find_lt l0)
  have HR := Aside0.mk hr0
  have HC := Aside0.mk hc0
  have HL := Aside0.mk hl
  obtain ⟨W1, hW1⟩ : ∃ W1, w.alloc (.cells #[.int .i64 kind, .int .i64 id, .int .i64 fr, .int .i64 tt, .int .i64 snap, .string text] 29) = W1 := ⟨_, rfl⟩
  have HB1 : Aside0 (Below w.heap.size w W1) := ⟨by rw [← hW1]; exact below_alloc (Below.refl _ _) _⟩
  have g0 : Aside0 (W1.cell? ⟨w.heap.size, 0, none⟩ = some (.int .i64 kind)) := ⟨by rw [← hW1]; exact cell_newA w _ _ 0 _ rfl⟩
  have g1 : Aside0 (W1.cell? ⟨w.heap.size, 1, none⟩ = some (.int .i64 id)) := ⟨by rw [← hW1]; exact cell_newA w _ _ 1 _ rfl⟩
  have g2 : Aside0 (W1.cell? ⟨w.heap.size, 2, none⟩ = some (.int .i64 fr)) := ⟨by rw [← hW1]; exact cell_newA w _ _ 2 _ rfl⟩
  have g3 : Aside0 (W1.cell? ⟨w.heap.size, 3, none⟩ = some (.int .i64 tt)) := ⟨by rw [← hW1]; exact cell_newA w _ _ 3 _ rfl⟩
  have g4 : Aside0 (W1.cell? ⟨w.heap.size, 4, none⟩ = some (.int .i64 snap)) := ⟨by rw [← hW1]; exact cell_newA w _ _ 4 _ rfl⟩
  have g5 : Aside0 (W1.cell? ⟨w.heap.size, 5, none⟩ = some (.string text)) := ⟨by rw [← hW1]; exact cell_newA w _ _ 5 _ rfl⟩
  have W1E := Aside0.mk hW1
  clear hW1 hr0 hc0 hl
  go_enter Try.func11, Try.ntmps11
  go_wp2_with fail
  rw [W1E.out]
  refine (MR.out _ (Kd.C_below HR.out HB1.out)).mono ?_
  rintro en w2 ⟨rfl, hb⟩
  have HB12 := Aside0.mk hb
  have HB2 := Aside0.mk (below_step HB1.out hb)
  clear hb W1E
  cases e1 : modelB l0 with
  | false =>
    have HE : Aside0 (changeOf l0 kind id fr tt snap text nid = ([], 1)) := ⟨if_neg (by unfold mayB; rw [e1]; simp)⟩
    go_wp2_with fail
    go_ret2
    rw [HE.out]
    exact ⟨none, 0, rfl, Nat.le_refl _, Kd.C_nil _ _, HB2.out⟩
  | true =>
    have k0 := pw_cell_below HB12.out g0.out
    have k1 := pw_cell_below HB12.out g1.out
    have k2 := pw_cell_below HB12.out g2.out
    have k3 := pw_cell_below HB12.out g3.out
    have k4 := pw_cell_below HB12.out g4.out
    have k5 := pw_cell_below HB12.out g5.out
    go_wp2_with fail
    refine (AR.out _).mono ?_
    rintro en w3 ⟨rfl, hb⟩
    have HB13 := Aside0.mk (below_step HB12.out hb)
    have HB3 := Aside0.mk (below_step HB2.out hb)
    clear hb k0 k1 k2 k3 k4 k5
    cases e2 : askB kind id fr tt snap text with
    | false =>
      have HE : Aside0 (changeOf l0 kind id fr tt snap text nid = ([], 1)) := ⟨if_neg (by unfold mayB; rw [e1, e2]; simp)⟩
      go_wp2_with fail
      go_ret2
      rw [HE.out]
      exact ⟨none, 0, rfl, Nat.le_refl _, Kd.C_nil _ _, HB3.out⟩
    | true =>
      have k0 := pw_cell_below HB13.out g0.out
      have k1 := pw_cell_below HB13.out g1.out
      by_cases h1 : kind < 1
      · have t1 : decide (kind < 1) = true := decide_eq_true h1
        have HE : Aside0 (changeOf l0 kind id fr tt snap text nid = ([], 1)) := ⟨if_neg (by omega)⟩
        go_wp2_with fail
        go_ret2
        rw [HE.out]
        exact ⟨none, 0, rfl, Nat.le_refl _, Kd.C_nil _ _, HB3.out⟩
      have t1 : decide (kind < 1) = false := decide_eq_false h1
      by_cases h2 : 2 < kind
      · have t2 : decide (2 < kind) = true := decide_eq_true h2
        have HE : Aside0 (changeOf l0 kind id fr tt snap text nid = ([], 1)) := ⟨if_neg (by omega)⟩
        go_wp2_with fail
        go_ret2
        rw [HE.out]
        exact ⟨none, 0, rfl, Nat.le_refl _, Kd.C_nil _ _, HB3.out⟩
      have t2 : decide (2 < kind) = false := decide_eq_false h2
      have hM : mayB l0 kind id fr tt snap text = true ∧ 1 ≤ kind ∧ kind ≤ 2 := ⟨by unfold mayB; rw [e1, e2]; rfl, by omega, by omega⟩
      by_cases h3 : kind = 2
      · have t3 : (kind == 2) = true := beq_iff_eq.2 h3
        go_wp2_with fail
        refine (FI.out id _ (Kd.C_below HR.out HB3.out)).mono ?_
        rintro en w4 ⟨rfl, hb⟩
        have HB4 := Aside0.mk (below_step HB3.out hb)
        clear hb k0 k1
        by_cases h4 : findOf l0 id < 0
        · have t4 : decide (findOf l0 id < 0) = true := decide_eq_true h4
          have HE : Aside0 (changeOf l0 kind id fr tt snap text nid = (l0, 4)) := ⟨(if_pos hM).trans ((if_pos h3).trans (if_pos h4))⟩
          go_wp2_with fail
          go_ret2
          rw [HE.out]
          exact ⟨A0, c0, rfl, HC.out, Kd.C_below HR.out HB4.out, HB4.out⟩
        · have t4 : decide (findOf l0 id < 0) = false := decide_eq_false h4
          have HE : Aside0 (changeOf l0 kind id fr tt snap text nid = (l0.eraseIdx (findOf l0 id).toNat, 0)) := ⟨(if_pos hM).trans ((if_pos h3).trans (if_neg h4))⟩
          obtain ⟨q, hq⟩ : ∃ q : Nat, findOf l0 id = (q : Int) := ⟨(findOf l0 id).toNat, by omega⟩
          have hql : q < l0.length := by have := FL.out id; omega
          rw [hq, Int.toNat_natCast] at HE
          rw [hq] at t4
          rw [hq]
          have v1 : IntKind.i64.wrap ((q : Int) + 1) = (q : Int) + 1 := IntWalk.i64_in _ (by have := HL.out; omega)
          go_wp2_with fail
          refine (CL.out _ (Kd.C_below HR.out HB4.out)).mono ?_
          rintro en w5 ⟨v5, rfl, ho, hb⟩
          have HB5 := Aside0.mk (below_step HB4.out hb)
          have HO5 := Aside0.mk (Kd.R_lower ho HB4.out.size)
          clear ho hb
          go_wp2_with fail
          refine (DE.out q v5 _ HB5.out HO5.out hql).mono ?_
          rintro en w6 ⟨v6, rfl, ho, hb⟩
          have HB6 := Aside0.mk hb
          obtain ⟨A6, c6, rfl⟩ := Kd.R_slice ho
          have HO6 := Aside0.mk (Kd.R_reads' ho)
          clear ho hb
          go_wp2_with fail
          go_ret2
          rw [HE.out]
          exact ⟨A6, c6, rfl, HO6.out.2.1, HO6.out.2.2, HB6.out⟩
      · have t3 : (kind == 2) = false := beq_eq_false_iff_ne.2 h3
        have hN : changeOf l0 kind id fr tt snap text nid = if nid < 1 ∨ 0 ≤ findOf l0 nid then (l0, 1) else if 10 ≤ l0.length then (l0, 8) else (l0 ++ [⟨nid, text⟩], 0) := (if_pos hM).trans (if_neg h3)
        by_cases h4 : nid < 1
        · have t4 : decide (nid < 1) = true := decide_eq_true h4
          have HE : Aside0 (changeOf l0 kind id fr tt snap text nid = (l0, 1)) := ⟨hN.trans (if_pos (Or.inl h4))⟩
          clear hN
          go_wp2_with fail
          go_ret2
          rw [HE.out]
          exact ⟨A0, c0, rfl, HC.out, Kd.C_below HR.out HB3.out, HB3.out⟩
        have t4 : decide (nid < 1) = false := decide_eq_false h4
        have HN := Aside0.mk hN
        clear hN
        go_wp2_with fail
        refine (FI.out nid _ (Kd.C_below HR.out HB3.out)).mono ?_
        rintro en w4 ⟨rfl, hb⟩
        have HB4 := Aside0.mk (below_step HB3.out hb)
        have HB14 := Aside0.mk (below_step HB13.out hb)
        clear hb k0 k1
        by_cases h5 : 0 ≤ findOf l0 nid
        · have t5 : decide (0 ≤ findOf l0 nid) = true := decide_eq_true h5
          have HE : Aside0 (changeOf l0 kind id fr tt snap text nid = (l0, 1)) := ⟨HN.out.trans (if_pos (Or.inr h5))⟩
          go_wp2_with fail
          go_ret2
          rw [HE.out]
          exact ⟨A0, c0, rfl, HC.out, Kd.C_below HR.out HB4.out, HB4.out⟩
        have t5 : decide (0 ≤ findOf l0 nid) = false := decide_eq_false h5
        by_cases h6 : 10 ≤ l0.length
        · have t6 : decide ((10 : Int) ≤ (l0.length : Int)) = true := decide_eq_true (by omega)
          have HE : Aside0 (changeOf l0 kind id fr tt snap text nid = (l0, 8)) := ⟨HN.out.trans ((if_neg (by omega)).trans (if_pos h6))⟩
          go_wp2_with fail
          go_ret2
          rw [HE.out]
          exact ⟨A0, c0, rfl, HC.out, Kd.C_below HR.out HB4.out, HB4.out⟩
        have t6 : decide ((10 : Int) ≤ (l0.length : Int)) = false := decide_eq_false (by omega)
        have HE : Aside0 (changeOf l0 kind id fr tt snap text nid = (l0 ++ [⟨nid, text⟩], 0)) := ⟨HN.out.trans ((if_neg (by omega)).trans (if_neg h6))⟩
        go_wp2_with fail
        try go_wp2
        refine start_ (n := 10) (S := fun w' => Below w4.heap.size w4 w') (ds := []) #[false, false, false, false, false, false, false, false, false, false] (by kernel_rfl) rfl rfl (below_drew1 (Below.refl _ _)) (fun hHeld => ?_)
        refine with_tabW modelChange.tab12 modelChange.bits12 (fun HT_ HW_ => ?_)
        have k5 := pw_cell_below HB14.out g5.out
        refine take_ (i := 0) (N := some 58) (v := ?_) (a' := ?_) #[true, false, false, false, false, false, false, false, false, false] rfl rfl (take_ofW HT_.out HW_.out (by kernel_rfl)) (fun _ _ _ h => h) (Or.inl ⟨by rfl, ?_⟩) hHeld ?_ ?_
        rotate_left
        · intro w' s
          go_simp
          with_reducible rfl
        rotate_left
        · simp only [putAll, Act.put, List.setIfInBounds_toArray, List.set_cons_zero, List.set_cons_succ, i64_w, i32_w]
          rfl
        refine take_ (i := 2) (N := some 60) (v := ?_) (a' := ?_) #[true, false, true, false, false, false, false, false, false, false] rfl rfl (take_ofW HT_.out HW_.out (by kernel_rfl)) (fun _ _ _ h => h) (Or.inl ⟨by rfl, ?_⟩) hHeld ?_ ?_
        rotate_left
        · intro w' s
          go_simp
          with_reducible rfl
        rotate_left
        · simp only [putAll, Act.put, List.setIfInBounds_toArray, List.set_cons_zero, List.set_cons_succ, i64_w, i32_w]
          rfl
        refine take_ (i := 3) (N := some 61) (v := ?_) (a' := ?_) #[true, false, true, true, false, false, false, false, false, false] rfl rfl (take_ofW HT_.out HW_.out (by kernel_rfl)) (fun _ _ _ h => h) (Or.inl ⟨by rfl, ?_⟩) hHeld ?_ ?_
        rotate_left
        · intro w' s
          go_simp
          with_reducible rfl
        rotate_left
        · simp only [putAll, Act.put, List.setIfInBounds_toArray, List.set_cons_zero, List.set_cons_succ, i64_w, i32_w]
          rfl
        refine take_ (i := 4) (N := some 62) (v := ?_) (a' := ?_) #[true, false, true, true, true, false, false, false, false, false] rfl rfl (take_ofW HT_.out HW_.out (by kernel_rfl)) (fun _ _ _ h => h) (Or.inl ⟨by rfl, ?_⟩) hHeld ?_ ?_
        rotate_left
        · intro w' s
          have s0 := pw_cell_below s k5
          go_simp
          with_reducible rfl
        rotate_left
        · simp only [putAll, Act.put, List.setIfInBounds_toArray, List.set_cons_zero, List.set_cons_succ, i64_w, i32_w]
          rfl
        refine take_ (i := 5) (N := some 63) (v := ?_) (a' := ?_) #[true, false, true, true, true, true, false, false, false, false] rfl rfl (take_ofW HT_.out HW_.out (by kernel_rfl)) (fun _ _ _ h => h) (Or.inl ⟨by rfl, ?_⟩) hHeld ?_ ?_
        rotate_left
        · intro w' s
          go_simp
          with_reducible rfl
        rotate_left
        · simp only [putAll, Act.put, List.setIfInBounds_toArray, List.set_cons_zero, List.set_cons_succ, i64_w, i32_w]
          rfl
        clear k5
        refine join_ (σ := Value × Nat) 3 #[true, true, true, true, true, true, true, false, false, false] (fun s => [(59, s.1), (64, .slice (some ⟨s.2, 0, none⟩) 1 1)]) (fun s w' => Kd.R k42 42 w' w4.heap.size (fun _ => True) s.1 l0 ∧ Kd.C k42 w' (some ⟨s.2, 0, none⟩) 1 [⟨nid, text⟩] ∧ Below w4.heap.size w4 w') ?_ ?_
        · rintro ⟨v5, bb⟩ w5 ⟨ho5, hc5, hb5⟩
          refine norm_ (a' := ?_) ?_ ?_
          rotate_left
          · simp only [putAll, Act.put, List.setIfInBounds_toArray, List.set_cons_zero, List.set_cons_succ, i64_w, i32_w]
            rfl
          refine one_ (i := 7) (N := some 65) #[true, true, true, true, true, true, true, true, false, false] rfl rfl (one_of HT_.out (by kernel_rfl)) (by decide) (fun K hK => ?_)
          refine Kd.R_append_rows_step k42 (Rr := k42.K w5) (w0 := w4) w4.heap.size (by rfl) (.tmp 59) (.tmp 64) 22 42 (.agg #[.int .i64 0, .string ⟨#[]⟩]) 24 rfl Try.underlying22 infoDoc rfl (by decide) (by omega) v5 l0 [⟨nid, text⟩] (some ⟨bb, 0, none⟩) 1 1 (fun _ => True) (fun _ => False) rfl rfl ho5 hc5 (fun _ _ h => docM h) (fun _ h => h.elim) (fun _ _ => trivial) hb5 hb5.size (by omega) ?_
          intro v7 w7 ho7 hb7 hg hat
          have HO7 := Aside0.mk ho7
          have HB7 := Aside0.mk hb7
          clear ho7 hg hat ho5 hc5 hb5
          refine hK.out _ _ hb7 (fun hHeld => ?_)
          clear hK K hb7
          refine norm_ (a' := ?_) ?_ ?_
          rotate_left
          · show Act.put _ (some 65) _ = _
            simp only [putAll, Act.put, List.setIfInBounds_toArray, List.set_cons_zero, List.set_cons_succ, i64_w, i32_w]
            rfl
          refine take_ (i := 8) (N := some 6) (v := ?_) (a' := ?_) #[true, true, true, true, true, true, true, true, true, false] rfl rfl (take_ofW HT_.out HW_.out (by kernel_rfl)) (fun _ _ _ h => h) (Or.inl ⟨by rfl, ?_⟩) hHeld ?_ ?_
          rotate_left
          · intro w' s
            go_simp
            with_reducible rfl
          rotate_left
          · simp only [putAll, Act.put, List.setIfInBounds_toArray, List.set_cons_zero, List.set_cons_succ, i64_w, i32_w]
            rfl
          refine take_ (i := 9) (N := some 7) (v := ?_) (a' := ?_) #[true, true, true, true, true, true, true, true, true, true] rfl rfl (take_ofW HT_.out HW_.out (by kernel_rfl)) (fun _ _ _ h => h) (Or.inl ⟨by rfl, ?_⟩) hHeld ?_ ?_
          rotate_left
          · intro w' s
            go_simp
            with_reducible rfl
          rotate_left
          · simp only [putAll, Act.put, List.setIfInBounds_toArray, List.set_cons_zero, List.set_cons_succ, i64_w, i32_w]
            rfl
          refine done_ (done_of HT_.out (by kernel_rfl)) ?_
          obtain ⟨A7, c7, hv7⟩ := Kd.R_slice HO7.out
          subst hv7
          have HR7 := Aside0.mk (Kd.R_reads' HO7.out)
          have HBz := Aside0.mk (below_step HB4.out HB7.out)
          clear hHeld
          go_wp2_with fail
          go_ret2
          rw [HE.out]
          exact ⟨A7, c7, by first | rfl | (rw [List.length_append]; rfl), HR7.out.2.1, HR7.out.2.2, HBz.out⟩
        · intro hjoin
          generalize w4.drew = wd at hHeld ⊢
          refine two_ (i := 1) (j := 6) #[true, true, true, true, true, true, false, false, false, false] #[true, false, true, true, true, true, true, false, false, false] rfl rfl rfl rfl (two_of HT_.out (by kernel_rfl)) (by decide) (by decide) (fun K hK => ?_) (fun K hK => ?_)
          · refine goes_ Try.func23 (by kernel_rfl) rfl #[.slice A0 l0.length c0] (by rfl) rfl rfl (by (try simp only [List.map_toArray, List.map_cons, List.map_nil]); first | done | rfl | (simp only [List.length_drop, List.length_take]; rfl)) ?_
            refine (CL.out _ (Kd.C_below HR.out (below_step HB4.out hHeld))).mono ?_
            rintro en w5 ⟨v5, rfl, ho, hb⟩
            refine ⟨_, rfl, ?_⟩
            have hS5 := below_step hHeld hb
            have ho5 := Kd.R_lower ho hHeld.size
            refine hK.out _ _ hS5 (fun _ => ?_)
            clear hK K
            refine norm_ (a' := ?_) ?_ ?_
            rotate_left
            · show Act.put _ (some 59) _ = _
              simp only [putAll, Act.put, List.setIfInBounds_toArray, List.set_cons_zero, List.set_cons_succ, i64_w, i32_w]
              rfl
            refine one_ (i := 6) (N := some 64) #[true, true, true, true, true, true, true, false, false, false] rfl rfl (one_of HT_.out (by kernel_rfl)) (by decide) (fun K hK => ?_)
            refine value_ (v := .slice (some ⟨w5.heap.size, 0, none⟩) 1 1) (w1 := w5.alloc (.cells #[.int .i64 nid, .string text] 42)) (by rfl) rfl (by first | (go_simp; done) | (go_simp; rfl)) (hK.out _ _ (below_alloc hS5 _) (fun _ => ?_))
            exact hjoin (v5, w5.heap.size) _ ⟨Kd.R_alloc ho5 _, one_doc w5 nid text, below_alloc hS5 _⟩
          · refine value_ (v := .slice (some ⟨wd.heap.size, 0, none⟩) 1 1) (w1 := wd.alloc (.cells #[.int .i64 nid, .string text] 42)) (by rfl) rfl (by first | (go_simp; done) | (go_simp; rfl)) (hK.out _ _ (below_alloc hHeld _) (fun _ => ?_))
            clear hK K
            have hS6 := below_alloc hHeld (.cells #[.int .i64 nid, .string text] 42)
            have hC6 := one_doc wd nid text
            obtain ⟨w6, hw6⟩ : ∃ w6, wd.alloc (.cells #[.int .i64 nid, .string text] 42) = w6 := ⟨_, rfl⟩
            rw [hw6] at hS6 hC6 ⊢
            refine norm_ (a' := ?_) ?_ ?_
            rotate_left
            · show Act.put _ (some 64) _ = _
              simp only [putAll, Act.put, List.setIfInBounds_toArray, List.set_cons_zero, List.set_cons_succ, i64_w, i32_w]
              rfl
            refine one_ (i := 1) (N := some 59) #[true, true, true, true, true, true, true, false, false, false] rfl rfl (one_of HT_.out (by kernel_rfl)) (by decide) (fun K hK => ?_)
            refine goes_ Try.func23 (by kernel_rfl) rfl #[.slice A0 l0.length c0] (by rfl) rfl rfl (by (try simp only [List.map_toArray, List.map_cons, List.map_nil]); first | done | rfl | (simp only [List.length_drop, List.length_take]; rfl)) ?_
            refine (CL.out _ (Kd.C_below HR.out (below_step HB4.out hS6))).mono ?_
            rintro en w5 ⟨v5, rfl, ho, hb⟩
            refine ⟨_, rfl, ?_⟩
            have hS5 := below_step hS6 hb
            have ho5 := Kd.R_lower ho hS6.size
            refine hK.out _ _ hS5 (fun _ => ?_)
            exact hjoin (v5, wd.heap.size) _ ⟨ho5, Kd.C_below hC6 hb, hS5⟩
end Go.Proofs.Ytibhenengpdahaa.P

end
