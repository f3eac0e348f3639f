/- A request's numbers by their letters: a map of four pointers, put in in any order. Conditions: none. (Printed by gennums.py.) -/
import Derived.Test.YtgnmpfjpcdidjaaP0
import Derived.ChangeMaps5
import Derived.MapKept
import Derived.WalkKit
set_option linter.unusedVariables false
set_option linter.unusedSimpArgs false
namespace Go.Proofs.Ytgnmpfjpcdidjaa.P
open Go.RowKit Go.Proofs.YtgnmpfjpcdidjaaW.PrintWords Go.Proofs.YtgnmpfjpcdidjaaW.PrintLast Go.Proofs.YtgnmpfjpcdidjaaW.PrintMore
open Go.MapKept
open Go.ChangeMaps (setBlock heap_setBlock_same heap_setBlock_other)

def numE (B : Nat) (p : (Int × Nat) × Nat) : MapEntry := { key := .int .u8 p.1.1, val := .pointer (some ⟨B, p.1.2, none⟩), born := p.2 }
def numsE (B : Nat) (ks : List (Int × Nat)) : List MapEntry := ks.zipIdx.map (numE B)
/-- Block m is a map of these letters, each with a pointer into block B. -/
def IsNums (w : World) (m B : Nat) (ks : List (Int × Nat)) : Prop := w.heap[m]? = some (.map (numsE B ks).toArray ks.length)
theorem numsE_snoc (B : Nat) (ks : List (Int × Nat)) (x : Int × Nat) : numsE B (ks ++ [x]) = numsE B ks ++ [{ key := .int .u8 x.1, val := .pointer (some ⟨B, x.2, none⟩), born := ks.length }] := by
  unfold numsE
  rw [List.zipIdx_append, List.map_append]
  simp [numE]
/-- A block turned, and nothing else. -/
structure TurnedN (w w' : World) (b : Nat) : Prop where
  mk :: (os : w'.os = w.os) (tape : w'.tape = w.tape) (output : w'.output = w.output) (size : w'.heap.size = w.heap.size) (other : ∀ i, i ≠ b → w'.heap[i]? = w.heap[i]?)
theorem TurnedN.below {w0 w w' : World} {b base : Nat} (h : TurnedN w w' b) (hb : Below base w0 w) (hlt : base ≤ b) : Below base w0 w' :=
  ⟨h.os.trans hb.os, h.tape.trans hb.tape, h.output.trans hb.output, by rw [h.size]; exact hb.size, fun k hk => (h.other k (by omega)).trans (hb.block k hk)⟩
theorem nums_find {P : Program} {K : TypeId} (hk : P.underlying K = some (.int .u8)) (B : Nat) (x : Int) (ks : List (Int × Nat)) (hx : x ∉ ks.map Prod.fst) (w : World) : (Instr.findKey K (.int .u8 x) (numsE B ks)).run P w = .ok none w := by
  have key : ∀ (l : List ((Int × Nat) × Nat)) (i : Nat), x ∉ l.map (fun p => p.1.1) → Instr.findNow (.int .u8) (.int .u8 x) (l.map (numE B)) i = some none := by
    intro l
    induction l with
    | nil => intro i h; rfl
    | cons p l ih =>
      intro i h
      rw [List.map_cons, List.mem_cons, not_or] at h
      simp only [List.map_cons, Instr.findNow, numE, Instr.sameNow, if_true]
      rw [beq_eq_false_iff_ne.2 h.1]
      exact ih (i + 1) h.2
  refine run_findKey hk (key ks.zipIdx 0 ?_)
  have e : ks.zipIdx.map (fun p => p.1.1) = ks.map Prod.fst := by
    show ks.zipIdx.map (Prod.fst ∘ Prod.fst) = _
    rw [← List.map_map, List.zipIdx_map_fst]
  rw [e]
  exact hx
theorem nums_put {w : World} {m B : Nat} {ks : List (Int × Nat)} (h : IsNums w m B ks) (c : Int) (f : Nat) (hc : c ∉ ks.map Prod.fst) :
    ∃ w', (Instr.mapUpdate 118 (.map (some m)) (.int .u8 c) (.pointer (some ⟨B, f, none⟩))).run Try.prog w = .ok () w' ∧ IsNums w' m B (ks ++ [(c, f)]) ∧ TurnedN w w' m := by
  have hsnoc : (numsE B (ks ++ [(c, f)])).toArray = (numsE B ks).toArray.push { key := .int .u8 c, val := .pointer (some ⟨B, f, none⟩), born := ks.length } := by
    rw [numsE_snoc]
    simp
  have hlen : (ks ++ [(c, f)]).length = ks.length + 1 := by simp
  have hg : (getObj m).run Try.prog w = .ok (.map (numsE B ks).toArray ks.length) w := Go.MapKept.run_getObj_map h
  have hs : ∀ o : Obj, (setObj m o).run Try.prog w = .ok () { w with heap := w.heap.setIfInBounds m o } := fun o => Go.MapKept.run_setObj_map o h
  have hck := run_checkKey (P := Try.prog) (w := w) Try.underlying5 (show IsKey (.int .u8) (.int .u8 c) by simp [IsKey]) false 9999
  have hr := nums_find (P := Try.prog) Try.underlying5 B c ks hc w
  refine ⟨setBlock w m (.map (numsE B (ks ++ [(c, f)])).toArray (ks ++ [(c, f)]).length), ?_, heap_setBlock_same h _, ⟨rfl, rfl, rfl, by simp [setBlock], fun i hi => heap_setBlock_other h _ hi⟩⟩
  rw [hsnoc, hlen]
  unfold Instr.mapUpdate
  simp [run_underlying Try.underlying118, hg, hck, hr, hs, Result.andThen, setBlock]
def askNumbers.T1 : Bool × List (List Nat × List Nat) := (true, [([], []), ([], []), ([1], [1]), ([2], [2]), ([0, 3], [0, 3]), ([], []), ([5], [5]), ([6], [6]), ([0, 7], [0, 7]), ([], []), ([9], [9]), ([10], [10]), ([0, 11], [0, 11]), ([], []), ([13], [13]), ([14], [14]), ([0, 15], [0, 15]), ([0, 1, 2, 3, 4, 5, 6, 7, 8, 9, 10, 11, 12, 13, 14, 15, 16], [0]), ([17, 0, 1, 2, 3, 4, 5, 6, 7, 8, 9, 10, 11, 12, 13, 14, 15, 16, 17], [17])])
def askNumbers.B1 : List Nat := [0, 0, 2, 6, 15, 0, 32, 96, 225, 0, 512, 1536, 3585, 0, 8192, 24576, 57345, 131071, 262143]
theorem askNumbers.tab1 : rtab .any (opsOf Try.f66 1) = askNumbers.T1 := by kernel_rfl
theorem askNumbers.bits1 : waitsOk askNumbers.T1.2 askNumbers.B1 = true := by kernel_rfl
set_option maxRecDepth 100000 in
set_option maxHeartbeats 8000000 in
theorem numbers_calls (B : Nat) (w : World) : Calls Try.prog 66 #[.pointer (some ⟨B, 0, none⟩)] w fun e w' => ∃ (M : Nat) (ks : List (Int × Nat)), e = .returned (.map (some M)) ∧ ks.Perm [(105, 1), (102, 2), (111, 3), (115, 4)] ∧ IsNums w' M B ks ∧ w.heap.size ≤ M ∧ Below w.heap.size w w' := by
  have hmm := @run_makeMap Try.prog
  go_enter Try.func66, Try.ntmps66
  go_wp2_with fail
  try go_wp2
  refine start_ (n := 19) (S := fun _ => True) (ds := []) (bs 19 0) (by kernel_rfl) rfl rfl trivial (fun hHeld => ?_)
  refine with_tabW askNumbers.tab1 askNumbers.bits1 (fun HT_ HW_ => ?_)
  refine take_ (i := 1) (N := some 4) (v := ?_) (a' := ?_) (bs 19 2) rfl rfl (take_ofW HT_.out HW_.out (by kernel_rfl)) (fun _ _ _ h => h) (Or.inl ⟨by rfl, ?_⟩) hHeld ?_ ?_
  rotate_left
  · intro w' s
    go_simp
    with_reducible rfl
  rotate_left
  · simp only [Act.put, List.setIfInBounds_toArray, List.set_cons_zero, List.set_cons_succ, i64_w, i32_w]
    rfl
  refine take_ (i := 2) (N := some 5) (v := ?_) (a' := ?_) (bs 19 6) rfl rfl (take_ofW HT_.out HW_.out (by kernel_rfl)) (fun _ _ _ h => h) (Or.inl ⟨by rfl, ?_⟩) hHeld ?_ ?_
  rotate_left
  · intro w' s
    go_simp
    with_reducible rfl
  rotate_left
  · simp only [Act.put, List.setIfInBounds_toArray, List.set_cons_zero, List.set_cons_succ, i64_w, i32_w]
    rfl
  refine take_ (i := 3) (N := some 6) (v := ?_) (a' := ?_) (bs 19 14) rfl rfl (take_ofW HT_.out HW_.out (by kernel_rfl)) (fun _ _ _ h => h) (Or.inl ⟨by rfl, ?_⟩) hHeld ?_ ?_
  rotate_left
  · intro w' s
    go_simp
    with_reducible rfl
  rotate_left
  · simp only [Act.put, List.setIfInBounds_toArray, List.set_cons_zero, List.set_cons_succ, i64_w, i32_w]
    rfl
  refine take_ (i := 5) (N := some 7) (v := ?_) (a' := ?_) (bs 19 46) rfl rfl (take_ofW HT_.out HW_.out (by kernel_rfl)) (fun _ _ _ h => h) (Or.inl ⟨by rfl, ?_⟩) hHeld ?_ ?_
  rotate_left
  · intro w' s
    go_simp
    with_reducible rfl
  rotate_left
  · simp only [Act.put, List.setIfInBounds_toArray, List.set_cons_zero, List.set_cons_succ, i64_w, i32_w]
    rfl
  refine take_ (i := 6) (N := some 8) (v := ?_) (a' := ?_) (bs 19 110) rfl rfl (take_ofW HT_.out HW_.out (by kernel_rfl)) (fun _ _ _ h => h) (Or.inl ⟨by rfl, ?_⟩) hHeld ?_ ?_
  rotate_left
  · intro w' s
    go_simp
    with_reducible rfl
  rotate_left
  · simp only [Act.put, List.setIfInBounds_toArray, List.set_cons_zero, List.set_cons_succ, i64_w, i32_w]
    rfl
  refine take_ (i := 7) (N := some 9) (v := ?_) (a' := ?_) (bs 19 238) rfl rfl (take_ofW HT_.out HW_.out (by kernel_rfl)) (fun _ _ _ h => h) (Or.inl ⟨by rfl, ?_⟩) hHeld ?_ ?_
  rotate_left
  · intro w' s
    go_simp
    with_reducible rfl
  rotate_left
  · simp only [Act.put, List.setIfInBounds_toArray, List.set_cons_zero, List.set_cons_succ, i64_w, i32_w]
    rfl
  refine take_ (i := 9) (N := some 10) (v := ?_) (a' := ?_) (bs 19 750) rfl rfl (take_ofW HT_.out HW_.out (by kernel_rfl)) (fun _ _ _ h => h) (Or.inl ⟨by rfl, ?_⟩) hHeld ?_ ?_
  rotate_left
  · intro w' s
    go_simp
    with_reducible rfl
  rotate_left
  · simp only [Act.put, List.setIfInBounds_toArray, List.set_cons_zero, List.set_cons_succ, i64_w, i32_w]
    rfl
  refine take_ (i := 10) (N := some 11) (v := ?_) (a' := ?_) (bs 19 1774) rfl rfl (take_ofW HT_.out HW_.out (by kernel_rfl)) (fun _ _ _ h => h) (Or.inl ⟨by rfl, ?_⟩) hHeld ?_ ?_
  rotate_left
  · intro w' s
    go_simp
    with_reducible rfl
  rotate_left
  · simp only [Act.put, List.setIfInBounds_toArray, List.set_cons_zero, List.set_cons_succ, i64_w, i32_w]
    rfl
  refine take_ (i := 11) (N := some 12) (v := ?_) (a' := ?_) (bs 19 3822) rfl rfl (take_ofW HT_.out HW_.out (by kernel_rfl)) (fun _ _ _ h => h) (Or.inl ⟨by rfl, ?_⟩) hHeld ?_ ?_
  rotate_left
  · intro w' s
    go_simp
    with_reducible rfl
  rotate_left
  · simp only [Act.put, List.setIfInBounds_toArray, List.set_cons_zero, List.set_cons_succ, i64_w, i32_w]
    rfl
  refine take_ (i := 13) (N := some 13) (v := ?_) (a' := ?_) (bs 19 12014) rfl rfl (take_ofW HT_.out HW_.out (by kernel_rfl)) (fun _ _ _ h => h) (Or.inl ⟨by rfl, ?_⟩) hHeld ?_ ?_
  rotate_left
  · intro w' s
    go_simp
    with_reducible rfl
  rotate_left
  · simp only [Act.put, List.setIfInBounds_toArray, List.set_cons_zero, List.set_cons_succ, i64_w, i32_w]
    rfl
  refine take_ (i := 14) (N := some 14) (v := ?_) (a' := ?_) (bs 19 28398) rfl rfl (take_ofW HT_.out HW_.out (by kernel_rfl)) (fun _ _ _ h => h) (Or.inl ⟨by rfl, ?_⟩) hHeld ?_ ?_
  rotate_left
  · intro w' s
    go_simp
    with_reducible rfl
  rotate_left
  · simp only [Act.put, List.setIfInBounds_toArray, List.set_cons_zero, List.set_cons_succ, i64_w, i32_w]
    rfl
  refine take_ (i := 15) (N := some 15) (v := ?_) (a' := ?_) (bs 19 61166) rfl rfl (take_ofW HT_.out HW_.out (by kernel_rfl)) (fun _ _ _ h => h) (Or.inl ⟨by rfl, ?_⟩) hHeld ?_ ?_
  rotate_left
  · intro w' s
    go_simp
    with_reducible rfl
  rotate_left
  · simp only [Act.put, List.setIfInBounds_toArray, List.set_cons_zero, List.set_cons_succ, i64_w, i32_w]
    rfl
  refine one_ (i := 0) (N := some 3) (bs 19 61167) rfl rfl (one_of HT_.out (by kernel_rfl)) (by decide) (fun K hK => ?_)
  refine value_ (v := .map (some w.drew.heap.size)) (w1 := w.drew.alloc (.map #[] 0)) (by rfl) rfl (by go_simp) (hK.out _ _ trivial (fun _ => ?_))
  clear hK K
  refine norm_ (a' := ?_) ?_ ?_
  rotate_left
  · show Act.put _ (some 3) _ = _
    simp only [Act.put, List.setIfInBounds_toArray, List.set_cons_zero, List.set_cons_succ, i64_w, i32_w]
    rfl
  obtain ⟨M, hM⟩ : ∃ M, w.drew.heap.size = M := ⟨_, rfl⟩
  have hBM : w.heap.size ≤ M := by rw [← hM]; exact Nat.le_refl _
  have h0 : IsNums (w.drew.alloc (.map #[] 0)) M B [] := by rw [← hM]; exact heap_alloc_new _ _
  have b0 : Below w.heap.size w (w.drew.alloc (.map #[] 0)) := below_alloc (below_drew1 (Below.refl _ _)) _
  generalize w.drew.alloc (.map #[] 0) = w0 at h0 b0 ⊢
  rw [hM]
  refine join_ (σ := Unit) 2 (bs 19 131071) (fun _ => []) (fun _ w' => ∃ ks : List (Int × Nat), ks.Perm [(105, 1), (102, 2), (111, 3), (115, 4)] ∧ IsNums w' M B ks ∧ Below w.heap.size w w') ?_ ?_
  · rintro ⟨⟩ w' hF
    refine take_ (i := 17) (N := some 16) (v := ?_) (a' := ?_) (bs 19 262143) rfl rfl (take_ofW HT_.out HW_.out (by kernel_rfl)) (fun _ _ _ h => h) (Or.inl ⟨by rfl, ?_⟩) trivial ?_ ?_
    rotate_left
    · intro w' s
      go_simp
      with_reducible rfl
    rotate_left
    · simp only [putAll]
      simp only [Act.put, List.setIfInBounds_toArray, List.set_cons_zero, List.set_cons_succ, i64_w, i32_w]
      rfl
    refine take_ (i := 18) (N := some 2) (v := ?_) (a' := ?_) (bs 19 524287) rfl rfl (take_ofW HT_.out HW_.out (by kernel_rfl)) (fun _ _ _ h => h) (Or.inl ⟨by rfl, ?_⟩) trivial ?_ ?_
    rotate_left
    · intro w' s
      go_simp
      with_reducible rfl
    rotate_left
    · simp only [Act.put, List.setIfInBounds_toArray, List.set_cons_zero, List.set_cons_succ, i64_w, i32_w]
      rfl
    refine done_ (done_of HT_.out (by kernel_rfl)) ?_
    go_wp2_with fail
    go_ret
    obtain ⟨ks, q1, q2, q3⟩ := hF
    exact ⟨M, ks, rfl, q1, q2, hBM, q3⟩
  · intro hjoin
    refine four_ (i := 4) (j := 8) (k := 12) (m := 16) (bs 19 61183) (bs 19 61423) (bs 19 65263) (bs 19 126703) rfl rfl rfl rfl rfl rfl rfl rfl (four_of HT_.out (by kernel_rfl)) (by decide) (by decide) (by decide) (by decide) (fun K hK => ?_) (fun K hK => ?_) (fun K hK => ?_) (fun K hK => ?_)
    · obtain ⟨w0_4, r0_4, h0_4, t0_4⟩ := nums_put h0 105 1 (by decide)
      have b0_4 := t0_4.below b0 hBM
      refine skip_ (w1 := w0_4) (by rfl) rfl (by go_simp) (hK.out _ _ trivial (fun _ => ?_))
      clear hK K r0_4 t0_4
      refine three_ (i := 8) (j := 12) (k := 16) (bs 19 61439) (bs 19 65279) (bs 19 126719) rfl rfl rfl rfl rfl rfl (three_of HT_.out (by kernel_rfl)) (by decide) (by decide) (by decide) (fun K hK => ?_) (fun K hK => ?_) (fun K hK => ?_)
      · obtain ⟨w0_4_8, r0_4_8, h0_4_8, t0_4_8⟩ := nums_put h0_4 102 2 (by decide)
        have b0_4_8 := t0_4_8.below b0_4 hBM
        refine skip_ (w1 := w0_4_8) (by rfl) rfl (by go_simp) (hK.out _ _ trivial (fun _ => ?_))
        clear hK K r0_4_8 t0_4_8
        refine two_ (i := 12) (j := 16) (bs 19 65535) (bs 19 126975) rfl rfl rfl rfl (two_of HT_.out (by kernel_rfl)) (by decide) (by decide) (fun K hK => ?_) (fun K hK => ?_)
        · obtain ⟨w0_4_8_12, r0_4_8_12, h0_4_8_12, t0_4_8_12⟩ := nums_put h0_4_8 111 3 (by decide)
          have b0_4_8_12 := t0_4_8_12.below b0_4_8 hBM
          refine skip_ (w1 := w0_4_8_12) (by rfl) rfl (by go_simp) (hK.out _ _ trivial (fun _ => ?_))
          clear hK K r0_4_8_12 t0_4_8_12
          refine one_ (i := 16) (N := none) (bs 19 131071) rfl rfl (one_of HT_.out (by kernel_rfl)) (by decide) (fun K hK => ?_)
          obtain ⟨w0_4_8_12_16, r0_4_8_12_16, h0_4_8_12_16, t0_4_8_12_16⟩ := nums_put h0_4_8_12 115 4 (by decide)
          have b0_4_8_12_16 := t0_4_8_12_16.below b0_4_8_12 hBM
          refine skip_ (w1 := w0_4_8_12_16) (by rfl) rfl (by go_simp) (hK.out _ _ trivial (fun _ => ?_))
          clear hK K r0_4_8_12_16 t0_4_8_12_16
          exact hjoin () _ ⟨_, by decide, h0_4_8_12_16, b0_4_8_12_16⟩
        · obtain ⟨w0_4_8_16, r0_4_8_16, h0_4_8_16, t0_4_8_16⟩ := nums_put h0_4_8 115 4 (by decide)
          have b0_4_8_16 := t0_4_8_16.below b0_4_8 hBM
          refine skip_ (w1 := w0_4_8_16) (by rfl) rfl (by go_simp) (hK.out _ _ trivial (fun _ => ?_))
          clear hK K r0_4_8_16 t0_4_8_16
          refine one_ (i := 12) (N := none) (bs 19 131071) rfl rfl (one_of HT_.out (by kernel_rfl)) (by decide) (fun K hK => ?_)
          obtain ⟨w0_4_8_16_12, r0_4_8_16_12, h0_4_8_16_12, t0_4_8_16_12⟩ := nums_put h0_4_8_16 111 3 (by decide)
          have b0_4_8_16_12 := t0_4_8_16_12.below b0_4_8_16 hBM
          refine skip_ (w1 := w0_4_8_16_12) (by rfl) rfl (by go_simp) (hK.out _ _ trivial (fun _ => ?_))
          clear hK K r0_4_8_16_12 t0_4_8_16_12
          exact hjoin () _ ⟨_, by decide, h0_4_8_16_12, b0_4_8_16_12⟩
      · obtain ⟨w0_4_12, r0_4_12, h0_4_12, t0_4_12⟩ := nums_put h0_4 111 3 (by decide)
        have b0_4_12 := t0_4_12.below b0_4 hBM
        refine skip_ (w1 := w0_4_12) (by rfl) rfl (by go_simp) (hK.out _ _ trivial (fun _ => ?_))
        clear hK K r0_4_12 t0_4_12
        refine two_ (i := 8) (j := 16) (bs 19 65535) (bs 19 130815) rfl rfl rfl rfl (two_of HT_.out (by kernel_rfl)) (by decide) (by decide) (fun K hK => ?_) (fun K hK => ?_)
        · obtain ⟨w0_4_12_8, r0_4_12_8, h0_4_12_8, t0_4_12_8⟩ := nums_put h0_4_12 102 2 (by decide)
          have b0_4_12_8 := t0_4_12_8.below b0_4_12 hBM
          refine skip_ (w1 := w0_4_12_8) (by rfl) rfl (by go_simp) (hK.out _ _ trivial (fun _ => ?_))
          clear hK K r0_4_12_8 t0_4_12_8
          refine one_ (i := 16) (N := none) (bs 19 131071) rfl rfl (one_of HT_.out (by kernel_rfl)) (by decide) (fun K hK => ?_)
          obtain ⟨w0_4_12_8_16, r0_4_12_8_16, h0_4_12_8_16, t0_4_12_8_16⟩ := nums_put h0_4_12_8 115 4 (by decide)
          have b0_4_12_8_16 := t0_4_12_8_16.below b0_4_12_8 hBM
          refine skip_ (w1 := w0_4_12_8_16) (by rfl) rfl (by go_simp) (hK.out _ _ trivial (fun _ => ?_))
          clear hK K r0_4_12_8_16 t0_4_12_8_16
          exact hjoin () _ ⟨_, by decide, h0_4_12_8_16, b0_4_12_8_16⟩
        · obtain ⟨w0_4_12_16, r0_4_12_16, h0_4_12_16, t0_4_12_16⟩ := nums_put h0_4_12 115 4 (by decide)
          have b0_4_12_16 := t0_4_12_16.below b0_4_12 hBM
          refine skip_ (w1 := w0_4_12_16) (by rfl) rfl (by go_simp) (hK.out _ _ trivial (fun _ => ?_))
          clear hK K r0_4_12_16 t0_4_12_16
          refine one_ (i := 8) (N := none) (bs 19 131071) rfl rfl (one_of HT_.out (by kernel_rfl)) (by decide) (fun K hK => ?_)
          obtain ⟨w0_4_12_16_8, r0_4_12_16_8, h0_4_12_16_8, t0_4_12_16_8⟩ := nums_put h0_4_12_16 102 2 (by decide)
          have b0_4_12_16_8 := t0_4_12_16_8.below b0_4_12_16 hBM
          refine skip_ (w1 := w0_4_12_16_8) (by rfl) rfl (by go_simp) (hK.out _ _ trivial (fun _ => ?_))
          clear hK K r0_4_12_16_8 t0_4_12_16_8
          exact hjoin () _ ⟨_, by decide, h0_4_12_16_8, b0_4_12_16_8⟩
      · obtain ⟨w0_4_16, r0_4_16, h0_4_16, t0_4_16⟩ := nums_put h0_4 115 4 (by decide)
        have b0_4_16 := t0_4_16.below b0_4 hBM
        refine skip_ (w1 := w0_4_16) (by rfl) rfl (by go_simp) (hK.out _ _ trivial (fun _ => ?_))
        clear hK K r0_4_16 t0_4_16
        refine two_ (i := 8) (j := 12) (bs 19 126975) (bs 19 130815) rfl rfl rfl rfl (two_of HT_.out (by kernel_rfl)) (by decide) (by decide) (fun K hK => ?_) (fun K hK => ?_)
        · obtain ⟨w0_4_16_8, r0_4_16_8, h0_4_16_8, t0_4_16_8⟩ := nums_put h0_4_16 102 2 (by decide)
          have b0_4_16_8 := t0_4_16_8.below b0_4_16 hBM
          refine skip_ (w1 := w0_4_16_8) (by rfl) rfl (by go_simp) (hK.out _ _ trivial (fun _ => ?_))
          clear hK K r0_4_16_8 t0_4_16_8
          refine one_ (i := 12) (N := none) (bs 19 131071) rfl rfl (one_of HT_.out (by kernel_rfl)) (by decide) (fun K hK => ?_)
          obtain ⟨w0_4_16_8_12, r0_4_16_8_12, h0_4_16_8_12, t0_4_16_8_12⟩ := nums_put h0_4_16_8 111 3 (by decide)
          have b0_4_16_8_12 := t0_4_16_8_12.below b0_4_16_8 hBM
          refine skip_ (w1 := w0_4_16_8_12) (by rfl) rfl (by go_simp) (hK.out _ _ trivial (fun _ => ?_))
          clear hK K r0_4_16_8_12 t0_4_16_8_12
          exact hjoin () _ ⟨_, by decide, h0_4_16_8_12, b0_4_16_8_12⟩
        · obtain ⟨w0_4_16_12, r0_4_16_12, h0_4_16_12, t0_4_16_12⟩ := nums_put h0_4_16 111 3 (by decide)
          have b0_4_16_12 := t0_4_16_12.below b0_4_16 hBM
          refine skip_ (w1 := w0_4_16_12) (by rfl) rfl (by go_simp) (hK.out _ _ trivial (fun _ => ?_))
          clear hK K r0_4_16_12 t0_4_16_12
          refine one_ (i := 8) (N := none) (bs 19 131071) rfl rfl (one_of HT_.out (by kernel_rfl)) (by decide) (fun K hK => ?_)
          obtain ⟨w0_4_16_12_8, r0_4_16_12_8, h0_4_16_12_8, t0_4_16_12_8⟩ := nums_put h0_4_16_12 102 2 (by decide)
          have b0_4_16_12_8 := t0_4_16_12_8.below b0_4_16_12 hBM
          refine skip_ (w1 := w0_4_16_12_8) (by rfl) rfl (by go_simp) (hK.out _ _ trivial (fun _ => ?_))
          clear hK K r0_4_16_12_8 t0_4_16_12_8
          exact hjoin () _ ⟨_, by decide, h0_4_16_12_8, b0_4_16_12_8⟩
    · obtain ⟨w0_8, r0_8, h0_8, t0_8⟩ := nums_put h0 102 2 (by decide)
      have b0_8 := t0_8.below b0 hBM
      refine skip_ (w1 := w0_8) (by rfl) rfl (by go_simp) (hK.out _ _ trivial (fun _ => ?_))
      clear hK K r0_8 t0_8
      refine three_ (i := 4) (j := 12) (k := 16) (bs 19 61439) (bs 19 65519) (bs 19 126959) rfl rfl rfl rfl rfl rfl (three_of HT_.out (by kernel_rfl)) (by decide) (by decide) (by decide) (fun K hK => ?_) (fun K hK => ?_) (fun K hK => ?_)
      · obtain ⟨w0_8_4, r0_8_4, h0_8_4, t0_8_4⟩ := nums_put h0_8 105 1 (by decide)
        have b0_8_4 := t0_8_4.below b0_8 hBM
        refine skip_ (w1 := w0_8_4) (by rfl) rfl (by go_simp) (hK.out _ _ trivial (fun _ => ?_))
        clear hK K r0_8_4 t0_8_4
        refine two_ (i := 12) (j := 16) (bs 19 65535) (bs 19 126975) rfl rfl rfl rfl (two_of HT_.out (by kernel_rfl)) (by decide) (by decide) (fun K hK => ?_) (fun K hK => ?_)
        · obtain ⟨w0_8_4_12, r0_8_4_12, h0_8_4_12, t0_8_4_12⟩ := nums_put h0_8_4 111 3 (by decide)
          have b0_8_4_12 := t0_8_4_12.below b0_8_4 hBM
          refine skip_ (w1 := w0_8_4_12) (by rfl) rfl (by go_simp) (hK.out _ _ trivial (fun _ => ?_))
          clear hK K r0_8_4_12 t0_8_4_12
          refine one_ (i := 16) (N := none) (bs 19 131071) rfl rfl (one_of HT_.out (by kernel_rfl)) (by decide) (fun K hK => ?_)
          obtain ⟨w0_8_4_12_16, r0_8_4_12_16, h0_8_4_12_16, t0_8_4_12_16⟩ := nums_put h0_8_4_12 115 4 (by decide)
          have b0_8_4_12_16 := t0_8_4_12_16.below b0_8_4_12 hBM
          refine skip_ (w1 := w0_8_4_12_16) (by rfl) rfl (by go_simp) (hK.out _ _ trivial (fun _ => ?_))
          clear hK K r0_8_4_12_16 t0_8_4_12_16
          exact hjoin () _ ⟨_, by decide, h0_8_4_12_16, b0_8_4_12_16⟩
        · obtain ⟨w0_8_4_16, r0_8_4_16, h0_8_4_16, t0_8_4_16⟩ := nums_put h0_8_4 115 4 (by decide)
          have b0_8_4_16 := t0_8_4_16.below b0_8_4 hBM
          refine skip_ (w1 := w0_8_4_16) (by rfl) rfl (by go_simp) (hK.out _ _ trivial (fun _ => ?_))
          clear hK K r0_8_4_16 t0_8_4_16
          refine one_ (i := 12) (N := none) (bs 19 131071) rfl rfl (one_of HT_.out (by kernel_rfl)) (by decide) (fun K hK => ?_)
          obtain ⟨w0_8_4_16_12, r0_8_4_16_12, h0_8_4_16_12, t0_8_4_16_12⟩ := nums_put h0_8_4_16 111 3 (by decide)
          have b0_8_4_16_12 := t0_8_4_16_12.below b0_8_4_16 hBM
          refine skip_ (w1 := w0_8_4_16_12) (by rfl) rfl (by go_simp) (hK.out _ _ trivial (fun _ => ?_))
          clear hK K r0_8_4_16_12 t0_8_4_16_12
          exact hjoin () _ ⟨_, by decide, h0_8_4_16_12, b0_8_4_16_12⟩
      · obtain ⟨w0_8_12, r0_8_12, h0_8_12, t0_8_12⟩ := nums_put h0_8 111 3 (by decide)
        have b0_8_12 := t0_8_12.below b0_8 hBM
        refine skip_ (w1 := w0_8_12) (by rfl) rfl (by go_simp) (hK.out _ _ trivial (fun _ => ?_))
        clear hK K r0_8_12 t0_8_12
        refine two_ (i := 4) (j := 16) (bs 19 65535) (bs 19 131055) rfl rfl rfl rfl (two_of HT_.out (by kernel_rfl)) (by decide) (by decide) (fun K hK => ?_) (fun K hK => ?_)
        · obtain ⟨w0_8_12_4, r0_8_12_4, h0_8_12_4, t0_8_12_4⟩ := nums_put h0_8_12 105 1 (by decide)
          have b0_8_12_4 := t0_8_12_4.below b0_8_12 hBM
          refine skip_ (w1 := w0_8_12_4) (by rfl) rfl (by go_simp) (hK.out _ _ trivial (fun _ => ?_))
          clear hK K r0_8_12_4 t0_8_12_4
          refine one_ (i := 16) (N := none) (bs 19 131071) rfl rfl (one_of HT_.out (by kernel_rfl)) (by decide) (fun K hK => ?_)
          obtain ⟨w0_8_12_4_16, r0_8_12_4_16, h0_8_12_4_16, t0_8_12_4_16⟩ := nums_put h0_8_12_4 115 4 (by decide)
          have b0_8_12_4_16 := t0_8_12_4_16.below b0_8_12_4 hBM
          refine skip_ (w1 := w0_8_12_4_16) (by rfl) rfl (by go_simp) (hK.out _ _ trivial (fun _ => ?_))
          clear hK K r0_8_12_4_16 t0_8_12_4_16
          exact hjoin () _ ⟨_, by decide, h0_8_12_4_16, b0_8_12_4_16⟩
        · obtain ⟨w0_8_12_16, r0_8_12_16, h0_8_12_16, t0_8_12_16⟩ := nums_put h0_8_12 115 4 (by decide)
          have b0_8_12_16 := t0_8_12_16.below b0_8_12 hBM
          refine skip_ (w1 := w0_8_12_16) (by rfl) rfl (by go_simp) (hK.out _ _ trivial (fun _ => ?_))
          clear hK K r0_8_12_16 t0_8_12_16
          refine one_ (i := 4) (N := none) (bs 19 131071) rfl rfl (one_of HT_.out (by kernel_rfl)) (by decide) (fun K hK => ?_)
          obtain ⟨w0_8_12_16_4, r0_8_12_16_4, h0_8_12_16_4, t0_8_12_16_4⟩ := nums_put h0_8_12_16 105 1 (by decide)
          have b0_8_12_16_4 := t0_8_12_16_4.below b0_8_12_16 hBM
          refine skip_ (w1 := w0_8_12_16_4) (by rfl) rfl (by go_simp) (hK.out _ _ trivial (fun _ => ?_))
          clear hK K r0_8_12_16_4 t0_8_12_16_4
          exact hjoin () _ ⟨_, by decide, h0_8_12_16_4, b0_8_12_16_4⟩
      · obtain ⟨w0_8_16, r0_8_16, h0_8_16, t0_8_16⟩ := nums_put h0_8 115 4 (by decide)
        have b0_8_16 := t0_8_16.below b0_8 hBM
        refine skip_ (w1 := w0_8_16) (by rfl) rfl (by go_simp) (hK.out _ _ trivial (fun _ => ?_))
        clear hK K r0_8_16 t0_8_16
        refine two_ (i := 4) (j := 12) (bs 19 126975) (bs 19 131055) rfl rfl rfl rfl (two_of HT_.out (by kernel_rfl)) (by decide) (by decide) (fun K hK => ?_) (fun K hK => ?_)
        · obtain ⟨w0_8_16_4, r0_8_16_4, h0_8_16_4, t0_8_16_4⟩ := nums_put h0_8_16 105 1 (by decide)
          have b0_8_16_4 := t0_8_16_4.below b0_8_16 hBM
          refine skip_ (w1 := w0_8_16_4) (by rfl) rfl (by go_simp) (hK.out _ _ trivial (fun _ => ?_))
          clear hK K r0_8_16_4 t0_8_16_4
          refine one_ (i := 12) (N := none) (bs 19 131071) rfl rfl (one_of HT_.out (by kernel_rfl)) (by decide) (fun K hK => ?_)
          obtain ⟨w0_8_16_4_12, r0_8_16_4_12, h0_8_16_4_12, t0_8_16_4_12⟩ := nums_put h0_8_16_4 111 3 (by decide)
          have b0_8_16_4_12 := t0_8_16_4_12.below b0_8_16_4 hBM
          refine skip_ (w1 := w0_8_16_4_12) (by rfl) rfl (by go_simp) (hK.out _ _ trivial (fun _ => ?_))
          clear hK K r0_8_16_4_12 t0_8_16_4_12
          exact hjoin () _ ⟨_, by decide, h0_8_16_4_12, b0_8_16_4_12⟩
        · obtain ⟨w0_8_16_12, r0_8_16_12, h0_8_16_12, t0_8_16_12⟩ := nums_put h0_8_16 111 3 (by decide)
          have b0_8_16_12 := t0_8_16_12.below b0_8_16 hBM
          refine skip_ (w1 := w0_8_16_12) (by rfl) rfl (by go_simp) (hK.out _ _ trivial (fun _ => ?_))
          clear hK K r0_8_16_12 t0_8_16_12
          refine one_ (i := 4) (N := none) (bs 19 131071) rfl rfl (one_of HT_.out (by kernel_rfl)) (by decide) (fun K hK => ?_)
          obtain ⟨w0_8_16_12_4, r0_8_16_12_4, h0_8_16_12_4, t0_8_16_12_4⟩ := nums_put h0_8_16_12 105 1 (by decide)
          have b0_8_16_12_4 := t0_8_16_12_4.below b0_8_16_12 hBM
          refine skip_ (w1 := w0_8_16_12_4) (by rfl) rfl (by go_simp) (hK.out _ _ trivial (fun _ => ?_))
          clear hK K r0_8_16_12_4 t0_8_16_12_4
          exact hjoin () _ ⟨_, by decide, h0_8_16_12_4, b0_8_16_12_4⟩
    · obtain ⟨w0_12, r0_12, h0_12, t0_12⟩ := nums_put h0 111 3 (by decide)
      have b0_12 := t0_12.below b0 hBM
      refine skip_ (w1 := w0_12) (by rfl) rfl (by go_simp) (hK.out _ _ trivial (fun _ => ?_))
      clear hK K r0_12 t0_12
      refine three_ (i := 4) (j := 8) (k := 16) (bs 19 65279) (bs 19 65519) (bs 19 130799) rfl rfl rfl rfl rfl rfl (three_of HT_.out (by kernel_rfl)) (by decide) (by decide) (by decide) (fun K hK => ?_) (fun K hK => ?_) (fun K hK => ?_)
      · obtain ⟨w0_12_4, r0_12_4, h0_12_4, t0_12_4⟩ := nums_put h0_12 105 1 (by decide)
        have b0_12_4 := t0_12_4.below b0_12 hBM
        refine skip_ (w1 := w0_12_4) (by rfl) rfl (by go_simp) (hK.out _ _ trivial (fun _ => ?_))
        clear hK K r0_12_4 t0_12_4
        refine two_ (i := 8) (j := 16) (bs 19 65535) (bs 19 130815) rfl rfl rfl rfl (two_of HT_.out (by kernel_rfl)) (by decide) (by decide) (fun K hK => ?_) (fun K hK => ?_)
        · obtain ⟨w0_12_4_8, r0_12_4_8, h0_12_4_8, t0_12_4_8⟩ := nums_put h0_12_4 102 2 (by decide)
          have b0_12_4_8 := t0_12_4_8.below b0_12_4 hBM
          refine skip_ (w1 := w0_12_4_8) (by rfl) rfl (by go_simp) (hK.out _ _ trivial (fun _ => ?_))
          clear hK K r0_12_4_8 t0_12_4_8
          refine one_ (i := 16) (N := none) (bs 19 131071) rfl rfl (one_of HT_.out (by kernel_rfl)) (by decide) (fun K hK => ?_)
          obtain ⟨w0_12_4_8_16, r0_12_4_8_16, h0_12_4_8_16, t0_12_4_8_16⟩ := nums_put h0_12_4_8 115 4 (by decide)
          have b0_12_4_8_16 := t0_12_4_8_16.below b0_12_4_8 hBM
          refine skip_ (w1 := w0_12_4_8_16) (by rfl) rfl (by go_simp) (hK.out _ _ trivial (fun _ => ?_))
          clear hK K r0_12_4_8_16 t0_12_4_8_16
          exact hjoin () _ ⟨_, by decide, h0_12_4_8_16, b0_12_4_8_16⟩
        · obtain ⟨w0_12_4_16, r0_12_4_16, h0_12_4_16, t0_12_4_16⟩ := nums_put h0_12_4 115 4 (by decide)
          have b0_12_4_16 := t0_12_4_16.below b0_12_4 hBM
          refine skip_ (w1 := w0_12_4_16) (by rfl) rfl (by go_simp) (hK.out _ _ trivial (fun _ => ?_))
          clear hK K r0_12_4_16 t0_12_4_16
          refine one_ (i := 8) (N := none) (bs 19 131071) rfl rfl (one_of HT_.out (by kernel_rfl)) (by decide) (fun K hK => ?_)
          obtain ⟨w0_12_4_16_8, r0_12_4_16_8, h0_12_4_16_8, t0_12_4_16_8⟩ := nums_put h0_12_4_16 102 2 (by decide)
          have b0_12_4_16_8 := t0_12_4_16_8.below b0_12_4_16 hBM
          refine skip_ (w1 := w0_12_4_16_8) (by rfl) rfl (by go_simp) (hK.out _ _ trivial (fun _ => ?_))
          clear hK K r0_12_4_16_8 t0_12_4_16_8
          exact hjoin () _ ⟨_, by decide, h0_12_4_16_8, b0_12_4_16_8⟩
      · obtain ⟨w0_12_8, r0_12_8, h0_12_8, t0_12_8⟩ := nums_put h0_12 102 2 (by decide)
        have b0_12_8 := t0_12_8.below b0_12 hBM
        refine skip_ (w1 := w0_12_8) (by rfl) rfl (by go_simp) (hK.out _ _ trivial (fun _ => ?_))
        clear hK K r0_12_8 t0_12_8
        refine two_ (i := 4) (j := 16) (bs 19 65535) (bs 19 131055) rfl rfl rfl rfl (two_of HT_.out (by kernel_rfl)) (by decide) (by decide) (fun K hK => ?_) (fun K hK => ?_)
        · obtain ⟨w0_12_8_4, r0_12_8_4, h0_12_8_4, t0_12_8_4⟩ := nums_put h0_12_8 105 1 (by decide)
          have b0_12_8_4 := t0_12_8_4.below b0_12_8 hBM
          refine skip_ (w1 := w0_12_8_4) (by rfl) rfl (by go_simp) (hK.out _ _ trivial (fun _ => ?_))
          clear hK K r0_12_8_4 t0_12_8_4
          refine one_ (i := 16) (N := none) (bs 19 131071) rfl rfl (one_of HT_.out (by kernel_rfl)) (by decide) (fun K hK => ?_)
          obtain ⟨w0_12_8_4_16, r0_12_8_4_16, h0_12_8_4_16, t0_12_8_4_16⟩ := nums_put h0_12_8_4 115 4 (by decide)
          have b0_12_8_4_16 := t0_12_8_4_16.below b0_12_8_4 hBM
          refine skip_ (w1 := w0_12_8_4_16) (by rfl) rfl (by go_simp) (hK.out _ _ trivial (fun _ => ?_))
          clear hK K r0_12_8_4_16 t0_12_8_4_16
          exact hjoin () _ ⟨_, by decide, h0_12_8_4_16, b0_12_8_4_16⟩
        · obtain ⟨w0_12_8_16, r0_12_8_16, h0_12_8_16, t0_12_8_16⟩ := nums_put h0_12_8 115 4 (by decide)
          have b0_12_8_16 := t0_12_8_16.below b0_12_8 hBM
          refine skip_ (w1 := w0_12_8_16) (by rfl) rfl (by go_simp) (hK.out _ _ trivial (fun _ => ?_))
          clear hK K r0_12_8_16 t0_12_8_16
          refine one_ (i := 4) (N := none) (bs 19 131071) rfl rfl (one_of HT_.out (by kernel_rfl)) (by decide) (fun K hK => ?_)
          obtain ⟨w0_12_8_16_4, r0_12_8_16_4, h0_12_8_16_4, t0_12_8_16_4⟩ := nums_put h0_12_8_16 105 1 (by decide)
          have b0_12_8_16_4 := t0_12_8_16_4.below b0_12_8_16 hBM
          refine skip_ (w1 := w0_12_8_16_4) (by rfl) rfl (by go_simp) (hK.out _ _ trivial (fun _ => ?_))
          clear hK K r0_12_8_16_4 t0_12_8_16_4
          exact hjoin () _ ⟨_, by decide, h0_12_8_16_4, b0_12_8_16_4⟩
      · obtain ⟨w0_12_16, r0_12_16, h0_12_16, t0_12_16⟩ := nums_put h0_12 115 4 (by decide)
        have b0_12_16 := t0_12_16.below b0_12 hBM
        refine skip_ (w1 := w0_12_16) (by rfl) rfl (by go_simp) (hK.out _ _ trivial (fun _ => ?_))
        clear hK K r0_12_16 t0_12_16
        refine two_ (i := 4) (j := 8) (bs 19 130815) (bs 19 131055) rfl rfl rfl rfl (two_of HT_.out (by kernel_rfl)) (by decide) (by decide) (fun K hK => ?_) (fun K hK => ?_)
        · obtain ⟨w0_12_16_4, r0_12_16_4, h0_12_16_4, t0_12_16_4⟩ := nums_put h0_12_16 105 1 (by decide)
          have b0_12_16_4 := t0_12_16_4.below b0_12_16 hBM
          refine skip_ (w1 := w0_12_16_4) (by rfl) rfl (by go_simp) (hK.out _ _ trivial (fun _ => ?_))
          clear hK K r0_12_16_4 t0_12_16_4
          refine one_ (i := 8) (N := none) (bs 19 131071) rfl rfl (one_of HT_.out (by kernel_rfl)) (by decide) (fun K hK => ?_)
          obtain ⟨w0_12_16_4_8, r0_12_16_4_8, h0_12_16_4_8, t0_12_16_4_8⟩ := nums_put h0_12_16_4 102 2 (by decide)
          have b0_12_16_4_8 := t0_12_16_4_8.below b0_12_16_4 hBM
          refine skip_ (w1 := w0_12_16_4_8) (by rfl) rfl (by go_simp) (hK.out _ _ trivial (fun _ => ?_))
          clear hK K r0_12_16_4_8 t0_12_16_4_8
          exact hjoin () _ ⟨_, by decide, h0_12_16_4_8, b0_12_16_4_8⟩
        · obtain ⟨w0_12_16_8, r0_12_16_8, h0_12_16_8, t0_12_16_8⟩ := nums_put h0_12_16 102 2 (by decide)
          have b0_12_16_8 := t0_12_16_8.below b0_12_16 hBM
          refine skip_ (w1 := w0_12_16_8) (by rfl) rfl (by go_simp) (hK.out _ _ trivial (fun _ => ?_))
          clear hK K r0_12_16_8 t0_12_16_8
          refine one_ (i := 4) (N := none) (bs 19 131071) rfl rfl (one_of HT_.out (by kernel_rfl)) (by decide) (fun K hK => ?_)
          obtain ⟨w0_12_16_8_4, r0_12_16_8_4, h0_12_16_8_4, t0_12_16_8_4⟩ := nums_put h0_12_16_8 105 1 (by decide)
          have b0_12_16_8_4 := t0_12_16_8_4.below b0_12_16_8 hBM
          refine skip_ (w1 := w0_12_16_8_4) (by rfl) rfl (by go_simp) (hK.out _ _ trivial (fun _ => ?_))
          clear hK K r0_12_16_8_4 t0_12_16_8_4
          exact hjoin () _ ⟨_, by decide, h0_12_16_8_4, b0_12_16_8_4⟩
    · obtain ⟨w0_16, r0_16, h0_16, t0_16⟩ := nums_put h0 115 4 (by decide)
      have b0_16 := t0_16.below b0 hBM
      refine skip_ (w1 := w0_16) (by rfl) rfl (by go_simp) (hK.out _ _ trivial (fun _ => ?_))
      clear hK K r0_16 t0_16
      refine three_ (i := 4) (j := 8) (k := 12) (bs 19 126719) (bs 19 126959) (bs 19 130799) rfl rfl rfl rfl rfl rfl (three_of HT_.out (by kernel_rfl)) (by decide) (by decide) (by decide) (fun K hK => ?_) (fun K hK => ?_) (fun K hK => ?_)
      · obtain ⟨w0_16_4, r0_16_4, h0_16_4, t0_16_4⟩ := nums_put h0_16 105 1 (by decide)
        have b0_16_4 := t0_16_4.below b0_16 hBM
        refine skip_ (w1 := w0_16_4) (by rfl) rfl (by go_simp) (hK.out _ _ trivial (fun _ => ?_))
        clear hK K r0_16_4 t0_16_4
        refine two_ (i := 8) (j := 12) (bs 19 126975) (bs 19 130815) rfl rfl rfl rfl (two_of HT_.out (by kernel_rfl)) (by decide) (by decide) (fun K hK => ?_) (fun K hK => ?_)
        · obtain ⟨w0_16_4_8, r0_16_4_8, h0_16_4_8, t0_16_4_8⟩ := nums_put h0_16_4 102 2 (by decide)
          have b0_16_4_8 := t0_16_4_8.below b0_16_4 hBM
          refine skip_ (w1 := w0_16_4_8) (by rfl) rfl (by go_simp) (hK.out _ _ trivial (fun _ => ?_))
          clear hK K r0_16_4_8 t0_16_4_8
          refine one_ (i := 12) (N := none) (bs 19 131071) rfl rfl (one_of HT_.out (by kernel_rfl)) (by decide) (fun K hK => ?_)
          obtain ⟨w0_16_4_8_12, r0_16_4_8_12, h0_16_4_8_12, t0_16_4_8_12⟩ := nums_put h0_16_4_8 111 3 (by decide)
          have b0_16_4_8_12 := t0_16_4_8_12.below b0_16_4_8 hBM
          refine skip_ (w1 := w0_16_4_8_12) (by rfl) rfl (by go_simp) (hK.out _ _ trivial (fun _ => ?_))
          clear hK K r0_16_4_8_12 t0_16_4_8_12
          exact hjoin () _ ⟨_, by decide, h0_16_4_8_12, b0_16_4_8_12⟩
        · obtain ⟨w0_16_4_12, r0_16_4_12, h0_16_4_12, t0_16_4_12⟩ := nums_put h0_16_4 111 3 (by decide)
          have b0_16_4_12 := t0_16_4_12.below b0_16_4 hBM
          refine skip_ (w1 := w0_16_4_12) (by rfl) rfl (by go_simp) (hK.out _ _ trivial (fun _ => ?_))
          clear hK K r0_16_4_12 t0_16_4_12
          refine one_ (i := 8) (N := none) (bs 19 131071) rfl rfl (one_of HT_.out (by kernel_rfl)) (by decide) (fun K hK => ?_)
          obtain ⟨w0_16_4_12_8, r0_16_4_12_8, h0_16_4_12_8, t0_16_4_12_8⟩ := nums_put h0_16_4_12 102 2 (by decide)
          have b0_16_4_12_8 := t0_16_4_12_8.below b0_16_4_12 hBM
          refine skip_ (w1 := w0_16_4_12_8) (by rfl) rfl (by go_simp) (hK.out _ _ trivial (fun _ => ?_))
          clear hK K r0_16_4_12_8 t0_16_4_12_8
          exact hjoin () _ ⟨_, by decide, h0_16_4_12_8, b0_16_4_12_8⟩
      · obtain ⟨w0_16_8, r0_16_8, h0_16_8, t0_16_8⟩ := nums_put h0_16 102 2 (by decide)
        have b0_16_8 := t0_16_8.below b0_16 hBM
        refine skip_ (w1 := w0_16_8) (by rfl) rfl (by go_simp) (hK.out _ _ trivial (fun _ => ?_))
        clear hK K r0_16_8 t0_16_8
        refine two_ (i := 4) (j := 12) (bs 19 126975) (bs 19 131055) rfl rfl rfl rfl (two_of HT_.out (by kernel_rfl)) (by decide) (by decide) (fun K hK => ?_) (fun K hK => ?_)
        · obtain ⟨w0_16_8_4, r0_16_8_4, h0_16_8_4, t0_16_8_4⟩ := nums_put h0_16_8 105 1 (by decide)
          have b0_16_8_4 := t0_16_8_4.below b0_16_8 hBM
          refine skip_ (w1 := w0_16_8_4) (by rfl) rfl (by go_simp) (hK.out _ _ trivial (fun _ => ?_))
          clear hK K r0_16_8_4 t0_16_8_4
          refine one_ (i := 12) (N := none) (bs 19 131071) rfl rfl (one_of HT_.out (by kernel_rfl)) (by decide) (fun K hK => ?_)
          obtain ⟨w0_16_8_4_12, r0_16_8_4_12, h0_16_8_4_12, t0_16_8_4_12⟩ := nums_put h0_16_8_4 111 3 (by decide)
          have b0_16_8_4_12 := t0_16_8_4_12.below b0_16_8_4 hBM
          refine skip_ (w1 := w0_16_8_4_12) (by rfl) rfl (by go_simp) (hK.out _ _ trivial (fun _ => ?_))
          clear hK K r0_16_8_4_12 t0_16_8_4_12
          exact hjoin () _ ⟨_, by decide, h0_16_8_4_12, b0_16_8_4_12⟩
        · obtain ⟨w0_16_8_12, r0_16_8_12, h0_16_8_12, t0_16_8_12⟩ := nums_put h0_16_8 111 3 (by decide)
          have b0_16_8_12 := t0_16_8_12.below b0_16_8 hBM
          refine skip_ (w1 := w0_16_8_12) (by rfl) rfl (by go_simp) (hK.out _ _ trivial (fun _ => ?_))
          clear hK K r0_16_8_12 t0_16_8_12
          refine one_ (i := 4) (N := none) (bs 19 131071) rfl rfl (one_of HT_.out (by kernel_rfl)) (by decide) (fun K hK => ?_)
          obtain ⟨w0_16_8_12_4, r0_16_8_12_4, h0_16_8_12_4, t0_16_8_12_4⟩ := nums_put h0_16_8_12 105 1 (by decide)
          have b0_16_8_12_4 := t0_16_8_12_4.below b0_16_8_12 hBM
          refine skip_ (w1 := w0_16_8_12_4) (by rfl) rfl (by go_simp) (hK.out _ _ trivial (fun _ => ?_))
          clear hK K r0_16_8_12_4 t0_16_8_12_4
          exact hjoin () _ ⟨_, by decide, h0_16_8_12_4, b0_16_8_12_4⟩
      · obtain ⟨w0_16_12, r0_16_12, h0_16_12, t0_16_12⟩ := nums_put h0_16 111 3 (by decide)
        have b0_16_12 := t0_16_12.below b0_16 hBM
        refine skip_ (w1 := w0_16_12) (by rfl) rfl (by go_simp) (hK.out _ _ trivial (fun _ => ?_))
        clear hK K r0_16_12 t0_16_12
        refine two_ (i := 4) (j := 8) (bs 19 130815) (bs 19 131055) rfl rfl rfl rfl (two_of HT_.out (by kernel_rfl)) (by decide) (by decide) (fun K hK => ?_) (fun K hK => ?_)
        · obtain ⟨w0_16_12_4, r0_16_12_4, h0_16_12_4, t0_16_12_4⟩ := nums_put h0_16_12 105 1 (by decide)
          have b0_16_12_4 := t0_16_12_4.below b0_16_12 hBM
          refine skip_ (w1 := w0_16_12_4) (by rfl) rfl (by go_simp) (hK.out _ _ trivial (fun _ => ?_))
          clear hK K r0_16_12_4 t0_16_12_4
          refine one_ (i := 8) (N := none) (bs 19 131071) rfl rfl (one_of HT_.out (by kernel_rfl)) (by decide) (fun K hK => ?_)
          obtain ⟨w0_16_12_4_8, r0_16_12_4_8, h0_16_12_4_8, t0_16_12_4_8⟩ := nums_put h0_16_12_4 102 2 (by decide)
          have b0_16_12_4_8 := t0_16_12_4_8.below b0_16_12_4 hBM
          refine skip_ (w1 := w0_16_12_4_8) (by rfl) rfl (by go_simp) (hK.out _ _ trivial (fun _ => ?_))
          clear hK K r0_16_12_4_8 t0_16_12_4_8
          exact hjoin () _ ⟨_, by decide, h0_16_12_4_8, b0_16_12_4_8⟩
        · obtain ⟨w0_16_12_8, r0_16_12_8, h0_16_12_8, t0_16_12_8⟩ := nums_put h0_16_12 102 2 (by decide)
          have b0_16_12_8 := t0_16_12_8.below b0_16_12 hBM
          refine skip_ (w1 := w0_16_12_8) (by rfl) rfl (by go_simp) (hK.out _ _ trivial (fun _ => ?_))
          clear hK K r0_16_12_8 t0_16_12_8
          refine one_ (i := 4) (N := none) (bs 19 131071) rfl rfl (one_of HT_.out (by kernel_rfl)) (by decide) (fun K hK => ?_)
          obtain ⟨w0_16_12_8_4, r0_16_12_8_4, h0_16_12_8_4, t0_16_12_8_4⟩ := nums_put h0_16_12_8 105 1 (by decide)
          have b0_16_12_8_4 := t0_16_12_8_4.below b0_16_12_8 hBM
          refine skip_ (w1 := w0_16_12_8_4) (by rfl) rfl (by go_simp) (hK.out _ _ trivial (fun _ => ?_))
          clear hK K r0_16_12_8_4 t0_16_12_8_4
          exact hjoin () _ ⟨_, by decide, h0_16_12_8_4, b0_16_12_8_4⟩
end Go.Proofs.Ytgnmpfjpcdidjaa.P
