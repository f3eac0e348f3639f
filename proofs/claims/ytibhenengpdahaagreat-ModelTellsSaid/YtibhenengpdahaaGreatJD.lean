/- The plain laws of the printed functions of package model: Right, texts; of the document's Place and SameDocs. Conditions: none. -/
import Derived.Test.YtibhenengpdahaaGreatP23
import Derived.Test.YtibhenengpdahaaGreatJA
import Derived.Test.YtibhenengpdahaaGreatP22
import Derived.Test.YtibhenengpdahaaGreatJC
import Derived.Test.YtibhenengpdahaaGreatJB
import Derived.Laws.CopyRow
import Derived.Laws.CopyOwn
section
set_option linter.unusedVariables false
set_option linter.unusedSimpArgs false
namespace Go.Proofs.YtibhenengpdahaaGreat.P
open Go.RowKit Go.Proofs.YtibhenengpdahaaGreatW.PrintWords Go.Proofs.YtibhenengpdahaaGreatW.PrintLast Go.Proofs.YtibhenengpdahaaGreatW.PrintMore

def textsOf (l : List S27) : List ByteArray := l.map S27.f1
/-- Each number is a number, and no two are one; the texts may be. -/
def idsOk (l : List S27) (n : Nat) : Bool := (List.range n).all fun i => decide (1 ≤ (l.getD i z27).f0) && decide ((i : Int) ≤ findOf l (l.getD i z27).f0)
def modelB (l : List S27) : Bool := idsOk l l.length && rightB (textsOf l)
theorem w64d (n : Nat) (h : n ≤ 1000000) : wrap64 (n : Int) = (n : Int) := by
 unfold wrap64
 omega
theorem texts_l (l : List S27) (h : l.length ≤ 1000000) : ∀ (m j k : Nat), m = l.length - j → j ≤ l.length → m + 1 ≤ k → model_texts.l0 k (textsOf (l.take j)) l (l.length : Int) (j : Int) = some (textsOf l) := by
 intro m
 induction m with
 | zero =>
  intro j k hm hj hk
  obtain rfl : j = l.length := by omega
  obtain ⟨k1, rfl⟩ : ∃ k1, k = k1 + 1 := ⟨k - 1, by omega⟩
  rw [model_texts.l0, if_neg (by omega), List.take_length]
 | succ m ih =>
  intro j k hm hj hk
  obtain ⟨k1, rfl⟩ : ∃ k1, k = k1 + 1 := ⟨k - 1, by omega⟩
  have hjl : j < l.length := by omega
  have hrec := ih (j + 1) k1 (by omega) (by omega) (by omega)
  have hw : wrap64 ((j : Int) + 1) = ((j + 1 : Nat) : Int) := w64d (j + 1) (by omega)
  have hs : textsOf (l.take (j + 1)) = textsOf (l.take j) ++ [l[j].f1] := by
   unfold textsOf
   rw [List.take_succ_eq_append_getElem hjl, List.map_append]
   rfl
  rw [hs] at hrec
  rw [model_texts.l0, if_pos (by omega), if_pos (by omega), if_pos (by omega), rd_doc_get l j hjl, hw]
  rw [if_pos (by unfold textsOf; rw [List.length_map, List.length_take]; omega)]
  exact hrec
theorem texts_ok (l : List S27) (h : l.length ≤ 1000000) (k : Nat) (hk : l.length + 1 ≤ k) : model_texts.f k l = some (textsOf l) := texts_l l h l.length 0 k (by omega) (Nat.zero_le _) hk
theorem right_l (l : List S27) (h : l.length ≤ 1000000) : ∀ (m j k : Nat), m = l.length - j → j ≤ l.length → l.length + m + 2 ≤ k → model_Right.l0 k l l (l.length : Int) (j : Int) = some ((List.range' j m).all (fun i => decide (1 ≤ (l.getD i z27).f0) && decide ((i : Int) ≤ findOf l (l.getD i z27).f0)) && rightB (textsOf l)) := by
 intro m
 induction m with
 | zero =>
  intro j k hm hj hk
  obtain rfl : j = l.length := by omega
  obtain ⟨k1, rfl⟩ : ∃ k1, k = k1 + 1 := ⟨k - 1, by omega⟩
  rw [model_Right.l0, if_neg (by omega), texts_ok l h k1 (by omega)]
  rfl
 | succ m ih =>
  intro j k hm hj hk
  obtain ⟨k1, rfl⟩ : ∃ k1, k = k1 + 1 := ⟨k - 1, by omega⟩
  have hjl : j < l.length := by omega
  have hrec := ih (j + 1) k1 (by omega) (by omega) (by omega)
  have hw : wrap64 ((j : Int) + 1) = ((j + 1 : Nat) : Int) := w64d (j + 1) (by omega)
  have hg : l.getD j z27 = l[j] := by rw [List.getD_eq_getElem?_getD, List.getElem?_eq_getElem hjl]; rfl
  rw [List.range'_succ, List.all_cons, hg]
  rw [model_Right.l0, if_pos (by omega), if_pos (by omega), if_pos (by omega), rd_doc_get l j hjl, hw]
  by_cases h1 : l[j].f0 < 1
  ·rw [if_pos h1, decide_eq_false (show ¬ 1 ≤ l[j].f0 by omega)]
   rfl
  ·rw [if_neg h1, decide_eq_true (show 1 ≤ l[j].f0 by omega), Bool.true_and]
   show (some (findOf l l[j].f0)).bind _ = _
   rw [Option.bind_some]
   by_cases h2 : findOf l l[j].f0 < (j : Int)
   ·rw [if_pos h2, decide_eq_false (show ¬ (j : Int) ≤ findOf l l[j].f0 by omega)]
    rfl
   ·rw [if_neg h2, decide_eq_true (show (j : Int) ≤ findOf l l[j].f0 by omega), Bool.true_and]
    exact hrec
theorem modelRight_ok (l : List S27) (h : l.length ≤ 1000000) (k : Nat) (hk : 2 * l.length + 2 ≤ k) : model_Right.f k l = some (modelB l) := by
 have h1 := right_l l h l.length 0 k (by omega) (Nat.zero_le _) (by omega)
 unfold model_Right.f
 refine Eq.trans h1 ?_
 unfold modelB idsOk
 rw [List.range_eq_range']
/-- A part of a document. -/
def partOf (l : List S27) (id fr tt : Int) : ByteArray × Int :=
 if findOf l id < 0 then (⟨#[]⟩, 4) else if fr < 0 ∨ tt < fr ∨ (((rd_T27 l (findOf l id)).f1).size : Int) < tt then (⟨#[]⟩, 3) else (((rd_T27 l (findOf l id)).f1).extract fr.toNat tt.toNat, 0)
theorem find_lt (l : List S27) (id : Int) : findOf l id < (l.length : Int) := by
 unfold findOf
 cases h : l.findIdx? (fun d => d.f0 == id) with
 | none => show (-1 : Int) < _; omega
 | some i =>
  rw [List.findIdx?_eq_some_iff_getElem] at h
  obtain ⟨hi, _⟩ := h
  show (i : Int) < _
  omega
theorem part_ok (l : List S27) (id fr tt : Int) : model_part.f l id fr tt = some (partOf l id fr tt) := by
 have hlt := find_lt l id
 unfold model_part.f partOf
 show (some (findOf l id)).bind _ = _
 rw [Option.bind_some]
 by_cases h1 : findOf l id < 0
 ·rw [if_pos h1, if_pos h1]
 rw [if_neg h1, if_neg h1]
 by_cases h2 : fr < 0
 ·rw [if_pos h2, if_pos (Or.inl h2)]
 rw [if_neg h2]
 by_cases h3 : fr > tt
 ·rw [if_pos h3, if_pos (Or.inr (Or.inl h3))]
 rw [if_neg h3, if_pos (by omega), if_pos hlt]
 by_cases h4 : tt > (((rd_T27 l (findOf l id)).f1).size : Int)
 ·rw [if_pos h4, if_pos (Or.inr (Or.inr h4))]
 rw [if_neg h4, if_pos (by omega), if_pos (by omega), if_pos (by omega), if_neg (by omega)]
end Go.Proofs.YtibhenengpdahaaGreat.P

end
section
set_option linter.unusedVariables false
set_option linter.unusedSimpArgs false
namespace Go.Proofs.YtibhenengpdahaaGreat.P
open Go.RowKit Go.Proofs.YtibhenengpdahaaGreatW.PrintWords Go.Proofs.YtibhenengpdahaaGreatW.PrintLast Go.Proofs.YtibhenengpdahaaGreatW.PrintMore

theorem docs_some (ad : Addr) (n c : Nat) (W : World) : (binOp .eql 22 (.slice (some ad) n c) (.slice none 0 0)).run Tryz.prog W = .ok (.bool false) W := by kernel_rfl
theorem docs_none (n c : Nat) (W : World) : (binOp .eql 22 (.slice none n c) (.slice none 0 0)).run Tryz.prog W = .ok (.bool true) W := by kernel_rfl
theorem infoDoc : ((Tryz.prog).info? 27).map (fun i => (i.zero, i.size, i.bytes)) = some (some (.agg #[(.int .i64 0), (.string ⟨#[]⟩)]), 2, 24) := by kernel_rfl
theorem docM {w w1 : World} {base : Nat} {ok : Nat → Prop} {x : S27} {cs : List Value} (h : k27.K w x cs) : k27.M w1 base ok x cs := by
 obtain rfl := k27_open h
 exact k27_mkM w1 base ok x
set_option maxRecDepth 100000 in
theorem clone_calls (A0 : Option Addr) (c0 : Nat) (l0 : List S27) (w : World) (hr0 : Kd.C k27 w A0 l0.length l0) (hc0 : l0.length ≤ c0) (hl : l0.length * 24 ≤ 140737488351232) :
  Calls Tryz.prog 33 #[.slice A0 l0.length c0] w fun e w' => ∃ v : Value, e = .returned v ∧ Kd.R k27 27 w' w.heap.size (fun _ => True) v l0 ∧ Below w.heap.size w w' := by
 have HR := Aside0.mk hr0
 have HL := Aside0.mk hl
 cases A0 with
 | none =>
  have h0 : l0 = [] := by
   rcases Nat.eq_zero_or_pos l0.length with h | h
   ·exact List.eq_nil_of_length_eq_zero h
   ·obtain ⟨ad, h, _⟩ := hr0.2.2 h; cases h
  subst h0
  clear hr0 hl
  have q := docs_none 0 c0
  go_enter Tryz.func33, Tryz.ntmps33
  go_wp2_with fail
  go_ret
  exact ⟨_, rfl, Kd.R_nil _ _ _ _ _, Below.refl _ _⟩
 | some ad =>
  clear hr0 hl
  have q := docs_some ad l0.length c0
  go_enter Tryz.func33, Tryz.ntmps33
  go_wp2_with (first
   | ((with_reducible refine gate_dst (N := 5) rfl ?_); (try (refine gate_guard (by rfl) ?_; dsimp only)); refine Kd.R_lit k27 _ 27 ?hg (N := 5) ?hd (xs := ([] : List S27)) (inner := []) (ok := fun _ => True) (okp := fun _ => True) ?hr ?hp (fun _ hk => hk) trivial (Below.refl _ _) (Nat.le_refl _) (by simp) ?_; (case hd => rfl); (case hg => rfl); (case hr => first | (go_simp; done) | (go_simp; rfl)); (case hp => exact Reps.none _ _); intro v5 w5 ho5 hb hg_ hnew_; clear hg_ hnew_; have HO5 := Aside0.mk ho5; have HB := Aside0.mk hb; clear hb ho5)
   | ((with_reducible refine gate_builtin (b := .append) (xs := #[.tmp 5, .tmp 6]) rfl ?_); (try (refine gate_guard (by rfl) ?_; dsimp only)); at_builtin; refine Kd.R_append_rows k27 (Rr := k27.K w5) (w0 := w) w.heap.size rfl (.tmp 5) (.tmp 6) 22 27 (.agg #[.int .i64 0, .string ⟨#[]⟩]) 24 rfl Tryz.underlying22 infoDoc rfl (by decide) (by omega) v5 ([] : List S27) l0 _ _ _ (fun _ => True) (fun _ => False) rfl rfl ?aO ?aR (fun _ _ h => docM h) (fun _ h => h.elim) ?aF ?aB ?aS ?aL ?_; (case aR => exact Kd.C_below HR.out HB.out); (case aB => exact HB.out); (case aF => exact (fun _ _ => trivial)); (case aO => exact HO5.out); (case aS => exact HB.out.size); (case aL => have := HL.out; simp; omega); intro v7 w7 ho hb hg hat; rw [List.nil_append] at ho; have HO7 := Aside0.mk ho; have HB7 := Aside0.mk hb; clear ho hb hg hat))
  go_ret
  exact ⟨_, rfl, HO7.out, HB7.out⟩
end Go.Proofs.YtibhenengpdahaaGreat.P

end
section
set_option linter.unusedVariables false
set_option linter.unusedSimpArgs false
namespace Go.Proofs.YtibhenengpdahaaGreat.P
open Go.RowKit Go.Proofs.YtibhenengpdahaaGreatW.PrintWords Go.Proofs.YtibhenengpdahaaGreatW.PrintLast Go.Proofs.YtibhenengpdahaaGreatW.PrintMore

theorem docs_tail {W : World} {base g n c : Nat} {ok : Nat → Prop} {xs : List S27} (h : Kd.R k27 27 W base ok (.slice (some ⟨g, 0, none⟩) n c) xs) (off : Nat) (vs : List Value) (h1 : n * 2 ≤ off) (h2 : off + vs.length ≤ c * 2) (hone : ∀ v ∈ vs, v.oneCell' = true) :
    ∃ w1, (storeCells ⟨g, off, none⟩ vs 0).run Tryz.prog W = .ok () w1 ∧ Kd.R k27 27 w1 base ok (.slice (some ⟨g, 0, none⟩) n c) xs ∧ Below base W w1 := by
  obtain ⟨hok, inner, hown, hr⟩ := h
  obtain ⟨hin, hrow⟩ := hown
  rcases hrow with ⟨hv, _⟩ | ⟨g', cap, cur, hv, hb, hh, hnc, hcm, hcs, htake⟩
  · cases hv
  injection hv with ha hn hc
  injection ha with ha
  injection ha with hg
  subst hg
  subst hc
  have hcs2 : cur.size = c * 2 := hcs
  have hlen : xs.length = n := hn.symm
  have hrun := run_storeCells_at (P := Tryz.prog) g off 27 vs 0 cur W hh (by omega) hone
  rw [Nat.add_zero] at hrun
  have h9 : xs.length * 2 ≤ min off cur.toList.length := by have e := Array.length_toList (xs := cur); omega
  have e1 : (cur.toList.take off ++ vs ++ cur.toList.drop (off + vs.length)).length = cur.size := by
    rw [List.length_append, List.length_append, List.length_take, List.length_drop, Array.length_toList]
    omega
  refine ⟨_, hrun, ⟨hok, inner, ⟨hin, Or.inr ⟨g, c, _, by rw [← hn], hb, setRow_heap W g cur _ _ _ hh, hnc, hcm, ?_, ?_⟩⟩, ?_⟩, below_setRow (Below.refl _ _) hb _⟩
  · rw [List.size_toArray, e1]
    exact hcs
  · show ((cur.toList.take off ++ vs ++ cur.toList.drop (off + vs.length)).toArray).toList.take (xs.length * 2) = inner
    rw [List.toList_toArray, List.append_assoc, List.take_append_of_le_length (by rw [List.length_take]; exact h9), List.take_take, Nat.min_eq_left (by omega)]
    exact htake
  · refine hr.imp_ (fun x cs hM => ?_)
    obtain rfl := k27_openM hM
    exact k27_mkM _ _ _ x
theorem docs_clear (g off c' : Nat) (ty : TypeId) (w1 w2 : World) (h : (storeCells ⟨g, off, none⟩ [.int .i64 0, .string ⟨#[]⟩] 0).run Tryz.prog w1 = .ok () w2) : (Builtin.clear_ #[22] ty #[.slice (some ⟨g, off, none⟩) 1 c']).run Tryz.prog w1 = .ok (.tuple #[]) w2 := by
  have hz : (zeroValue 27).run Tryz.prog w1 = .ok (.agg #[.int .i64 0, .string ⟨#[]⟩]) w1 := by kernel_rfl
  have hc : (Builtin.zeroCells (Value.agg #[.int .i64 0, .string ⟨#[]⟩]).cells 1).toList = [.int .i64 0, .string ⟨#[]⟩] := by
    simp [Builtin.zeroCells, Value.cells]
    rfl
  unfold Builtin.clear_
  simp [run_underlying Tryz.underlying22, hz, hc, h, Result.andThen]
theorem infoDocZ : ((Tryz.prog).info? 27).map (·.size) = some 2 := by kernel_rfl
def docsDelete.T5 : Bool × List (List Nat × List Nat) := (true, [([], []), ([], []), ([0, 1], [0, 1]), ([], []), ([], []), ([3, 4], [3, 4]), ([2, 5], [2, 5]), ([6, 6, 0, 1, 2, 3, 4, 5, 6], [0, 3, 6])])
def docsDelete.B5 : List Nat := [0, 0, 3, 0, 0, 24, 63, 127]
theorem docsDelete.tab5 : rtab .any (opsOf Tryz.f32 5) = docsDelete.T5 := by kernel_rfl
theorem docsDelete.bits5 : waitsOk docsDelete.T5.2 docsDelete.B5 = true := by kernel_rfl
set_option maxRecDepth 100000 in
set_option maxHeartbeats 2000000 in
theorem delete_calls (i : Nat) (v : Value) (l0 : List S27) (w0 w : World) (hB : Below w0.heap.size w0 w) (ho : Kd.R k27 27 w w0.heap.size (fun _ => True) v l0) (hi : i < l0.length) (hl : l0.length ≤ 1000000) :
    Calls Tryz.prog 32 #[v, .int .i64 (i : Int), .int .i64 ((i : Int) + 1)] w fun e w' => ∃ v' : Value, e = .returned v' ∧ Kd.R k27 27 w' w0.heap.size (fun _ => True) v' (l0.eraseIdx i) ∧ Below w0.heap.size w0 w' := by
  obtain ⟨A, c, rfl⟩ := Kd.R_slice ho
  obtain ⟨hlen, hlc, hC⟩ := Kd.R_reads' ho
  obtain ⟨g, rfl⟩ : ∃ g, A = some ⟨g, 0, none⟩ := by
    obtain ⟨_, inner, ⟨_, hrow⟩, _⟩ := ho
    rcases hrow with ⟨hv, h0⟩ | ⟨g, cap, cur, hv, _⟩
    · omega
    · injection hv with ha
      exact ⟨g, ha⟩
  have HO := Aside0.mk ho
  have HB := Aside0.mk hB
  have v1 : ((i : Int) ≤ (i : Int) + 1) = True := eq_true (by omega)
  have v2 : (0 ≤ (i : Int)) = True := eq_true (by omega)
  have v3 : ((i : Int) + 1 ≤ (l0.length : Int)) = True := eq_true (by omega)
  have v4 : ((i : Int) == (i : Int) + 1) = false := beq_eq_false_iff_ne.2 (by omega)
  have v5 : (l0.length ≤ c) = True := eq_true hlc
  clear ho hB hC
  obtain ⟨i0, hi0, hz0⟩ := Option.map_eq_some_iff.1 infoDocZ
  have hcut1 : ∀ W, (Instr.slice 22 (.slice (some ⟨g, 0, none⟩) l0.length c) none (some (.int .i64 (i : Int))) none).run Tryz.prog W = .ok (.slice (some ⟨g, 0, none⟩) i c) W :=
    cut_to 22 27 .i64 Tryz.underlying22 hi0 (some ⟨g, 0, none⟩) l0.length c (i : Int) (by omega) (by omega) hlc
  have hcut2 : ∀ W, (Instr.slice 22 (.slice (some ⟨g, 0, none⟩) l0.length c) (some (.int .i64 ((i : Int) + 1))) none none).run Tryz.prog W = .ok (.slice (if c = i + 1 then some ⟨g, 0, none⟩ else (some (⟨g, 0, none⟩ : Addr)).map (·.add ((i + 1) * 2))) (l0.length - (i + 1)) (c - (i + 1))) W :=
    cut_from 22 27 .i64 Tryz.underlying22 hi0 2 hz0 (some ⟨g, 0, none⟩) l0.length c ((i : Int) + 1) (by omega) (by omega)
  go_enter Tryz.func32, Tryz.ntmps32
  go_wp2_with fail
  clear v1 v3 v4
  try go_wp2
  refine start_ (n := 8) (S := fun _ => True) (ds := []) (bs 8 0) (by kernel_rfl) rfl rfl trivial (fun hHeld => ?_)
  refine with_tabW docsDelete.tab5 docsDelete.bits5 (fun HT_ HW_ => ?_)
  iterate 2
    refine tk_ (N := some _) (v := ?_) (a' := ?_) rfl rfl (take_ofW HT_.out HW_.out (by kernel_rfl)) (fun _ _ _ h => h) (Or.inl ⟨by rfl, ?_⟩) hHeld ?_ ?_
    rotate_left
    · intro w' s
      go_simp
      with_reducible rfl
    rotate_left
    · simp only [Act.put, List.setIfInBounds_toArray, List.set_cons_zero, List.set_cons_succ, i64_w, i32_w]
      rfl
  refine take_ (i := 2) (N := some 22) (v := (.slice (some ⟨g, 0, none⟩) i c)) (a' := ?_) (bs 8 7) rfl rfl (take_ofW HT_.out HW_.out (by kernel_rfl)) (fun _ _ _ h => h) (Or.inl ⟨by rfl, ?_⟩) hHeld ?_ ?_
  · intro w' s
    have hs := hcut1 w'
    go_simp
  rotate_left
  · simp only [Act.put, List.setIfInBounds_toArray, List.set_cons_zero, List.set_cons_succ, i64_w, i32_w]
    rfl
  iterate 2
    refine tk_ (N := some _) (v := ?_) (a' := ?_) rfl rfl (take_ofW HT_.out HW_.out (by kernel_rfl)) (fun _ _ _ h => h) (Or.inl ⟨by rfl, ?_⟩) hHeld ?_ ?_
    rotate_left
    · intro w' s
      go_simp
      with_reducible rfl
    rotate_left
    · simp only [Act.put, List.setIfInBounds_toArray, List.set_cons_zero, List.set_cons_succ, i64_w, i32_w]
      rfl
  refine take_ (i := 5) (N := some 25) (v := (.slice (if c = i + 1 then some ⟨g, 0, none⟩ else (some (⟨g, 0, none⟩ : Addr)).map (·.add ((i + 1) * 2))) (l0.length - (i + 1)) (c - (i + 1)))) (a' := ?_) (bs 8 63) rfl rfl (take_ofW HT_.out HW_.out (by kernel_rfl)) (fun _ _ _ h => h) (Or.inl ⟨by rfl, ?_⟩) hHeld ?_ ?_
  · intro w' s
    have hs := hcut2 w'
    go_simp
  rotate_left
  · simp only [Act.put, List.setIfInBounds_toArray, List.set_cons_zero, List.set_cons_succ, i64_w, i32_w]
    rfl
  refine one_ (i := 6) (N := some 26) (bs 8 127) rfl rfl (one_of HT_.out (by kernel_rfl)) (by decide) (fun K hK => ?_)
  refine Kd.R_delete_step k27 (w0 := w0) (n := l0.length) w0.heap.size (by rfl) (.tmp 22) (.tmp 25) 22 27 rfl Tryz.underlying22 infoDocZ rfl rfl rfl rfl (Kd.R_drew HO.out) hi (below_drew1 HB.out) HB.out.size ?_
  intro w1 ho1 hb1 hg1
  have HO1 := Aside0.mk ho1
  have HB1 := Aside0.mk hb1
  clear ho1 hb1 hg1
  refine hK.out _ _ trivial (fun hHeld => ?_)
  clear hK K
  refine norm_ (a' := ?_) ?_ ?_
  rotate_left
  · show Act.put _ (some 26) _ = _
    simp only [Act.put, List.setIfInBounds_toArray, List.set_cons_zero, List.set_cons_succ, i64_w, i32_w]
    rfl
  refine take_ (i := 7) (N := some 0) (v := ?_) (a' := ?_) (bs 8 255) rfl rfl (take_ofW HT_.out HW_.out (by kernel_rfl)) (fun _ _ _ h => h) (Or.inl ⟨by rfl, ?_⟩) hHeld ?_ ?_
  rotate_left
  · intro w' s
    go_simp
    with_reducible rfl
  rotate_left
  · simp only [Act.put, List.setIfInBounds_toArray, List.set_cons_zero, List.set_cons_succ, i64_w, i32_w]
    rfl
  refine done_ (done_of HT_.out (by kernel_rfl)) ?_
  obtain ⟨m, hm⟩ : ∃ m, l0.length = m + 1 := ⟨l0.length - 1, by omega⟩
  have hm1 : l0.length - 1 = m := by omega
  rw [hm1] at HO1 ⊢
  rw [hm]
  obtain ⟨w2, hst, ho2, hb2⟩ := docs_tail HO1.out (m * 2) [.int .i64 0, .string ⟨#[]⟩] (Nat.le_refl _) (by show m * 2 + 2 ≤ c * 2; omega) (by simp [Value.oneCell'])
  have hclr := fun ty c' => docs_clear g (m * 2) c' ty w1 w2 hst
  have HO2 := Aside0.mk ho2
  have HB2 := Aside0.mk ((HB1.out).trans hb2)
  have v6 : (m + 1 ≤ c) = True := eq_true (by omega)
  have v7 : (c = m) = False := eq_false (by omega)
  clear ho2 hb2 hst hcut1 hcut2
  go_wp2_with fail
  all_goals
    go_ret
    first
    | exact ⟨_, rfl, HO2.out, HB2.out⟩
    | (have hcx : c = i + 1 := by assumption
       subst hcx
       exact ⟨_, rfl, HO2.out, HB2.out⟩)
end Go.Proofs.YtibhenengpdahaaGreat.P

end
