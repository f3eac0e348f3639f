/- The function is of package rows computes what the plain function rowOk says, and what it makes is told exactly: draws, and new blocks. Conditions: how the list lies in memory. -/
import Derived.Test.YtkcpkecaliegfaaGreatRowsA
import Derived.Sort.Grow
import Derived.Shelf.GgSortFunc.RowK
import Derived.Shelf.SlSortCmp.WholeK
section
set_option linter.unusedVariables false
set_option linter.unusedSimpArgs false
namespace Go.Proofs.YtkcpkecaliegfaaGreat.P
open Go.RowKit Go.Proofs.YtkcpkecaliegfaaGreatW.PrintWords Go.Proofs.YtkcpkecaliegfaaGreatW.PrintLast Go.Proofs.YtkcpkecaliegfaaGreatW.PrintMore

/-- The world is the old one, but for draws and new blocks. -/
structure G (w w' : World) : Prop where mk :: (out : ∃ q os, w' = Sort.grow (w.drewN q) os)
theorem G.refl (w : World) : G w w := ⟨⟨0, #[], by rw [Sort.grow_empty]; rfl⟩⟩
theorem G.trans {a b c : World} (h : G a b) (k : G b c) : G a c := by
  obtain ⟨q, os, rfl⟩ := h.out
  obtain ⟨r, ot, rfl⟩ := k.out
  refine ⟨⟨q + r, os ++ ot, ?_⟩⟩
  have : (Sort.grow (a.drewN q) os).drewN r = Sort.grow ((a.drewN q).drewN r) os := rfl
  rw [this, Sort.grow_grow, World.drewN_drewN]
theorem G.drew (w : World) (n : Nat) : G w (w.drewN n) := ⟨⟨n, #[], by rw [Sort.grow_empty]⟩⟩
theorem G.alloc (w : World) (o : Obj) : G w (w.alloc o) := ⟨⟨0, #[o], by rw [Sort.alloc_eq_grow]; rfl⟩⟩
theorem G.below {w w' : World} (h : G w w') : Below w.heap.size w w' := by
  obtain ⟨q, os, rfl⟩ := h.out
  have h1 : Below w.heap.size w (w.drewN q) := pw_below_drewN (Below.refl _ _) q
  refine ⟨h1.os, h1.tape, h1.output, ?_, ?_⟩
  · show w.heap.size ≤ (w.heap ++ os).size
    rw [Array.size_append]; omega
  · intro k hk
    show (w.heap ++ os)[k]? = w.heap[k]?
    rw [Array.getElem?_append_left hk]

def docAt (l : List ByteArray) (d : Int) : ByteArray := rdOf ByteArray.empty l d
def rowOk (l : List ByteArray) (d i : Int) : Bool := decide (0 ≤ d) && (decide (d < l.length) && (decide (0 ≤ i) && decide (i ≤ ((docAt l d).size : Int))))

theorem str_cell {w : World} {A0 : Option Addr} {l0 : List ByteArray} (h : Kd.C Kd.string w A0 l0.length l0) (d : Int) (h0 : 0 ≤ d) (h1 : d < l0.length) :
    ∃ ad, A0 = some ad ∧ w.cell? (ad.add d.toNat) = some (.string (docAt l0 d)) := by
  obtain ⟨ad, cs, rfl, hcs, hK, hcell⟩ := Kd.C_get h ByteArray.empty d h0 h1
  have hK' : cs = [.string (l0.getD d.toNat ByteArray.empty)] := hK
  have hc1 := hcell 0 (.string (l0.getD d.toNat ByteArray.empty)) (by rw [hK']; rfl)
  have e1 : d.toNat * Kd.string.sz + 0 = d.toNat := by show d.toNat * 1 + 0 = d.toNat; omega
  rw [e1] at hc1
  exact ⟨ad, rfl, hc1⟩
theorem cell_new (W : World) (cs : Array Value) (t : TypeId) (i : Nat) (v : Value) (h : cs[i]? = some v) : (W.alloc (.cells cs t)).cell? ⟨W.heap.size, i, none⟩ = some v := by
  have hb : (W.alloc (.cells cs t)).heap[W.heap.size]? = some (.cells cs t (0, 0)) := heap_alloc_new W _
  unfold World.cell?
  dsimp only
  rw [hb]
  exact h
theorem size_alloc (W : World) (o : Obj) : (W.alloc o).heap.size = W.heap.size + 1 := by simp

set_option maxRecDepth 100000 in
set_option maxHeartbeats 2000000 in
theorem is_calls (A0 : Option Addr) (c0 : Nat) (l0 : List ByteArray) (d i : Int) (w : World) (hr0 : Kd.C Kd.string w A0 l0.length l0) (hc0 : l0.length ≤ c0) :
    Calls Tryz.prog 111 #[.slice A0 l0.length c0, .agg #[.int .i64 d, .int .i64 i]] w fun e w' => e = .returned (.bool (rowOk l0 d i)) ∧ G w w' := by
  have hG : G w (w.alloc (.cells #[.int .i64 d, .int .i64 i] 75)) := G.alloc _ _
  have HG := Aside0.mk hG
  clear hG
  by_cases h1 : 0 ≤ d
  case neg =>
    have hr : rowOk l0 d i = false := by unfold rowOk; rw [decide_eq_false h1]; rfl
    have t1 : decide (0 ≤ d) = false := decide_eq_false h1
    have HR := Aside0.mk hr
    clear hr h1 hr0
    go_enter Tryz.func111, Tryz.ntmps111
    go_wp2_with fail
    go_quiet (fail)
    go_wp2_with fail
    go_ret
    exact ⟨congrArg (fun z => Ending.returned (.bool z)) HR.out.symm, HG.out.trans (G.drew _ _)⟩
  have t1 : decide (0 ≤ d) = true := decide_eq_true h1
  by_cases h2 : d < (l0.length : Int)
  case neg =>
    have hr : rowOk l0 d i = false := by unfold rowOk; rw [decide_eq_true h1, decide_eq_false h2]; rfl
    have t2 : decide (d < (l0.length : Int)) = false := decide_eq_false h2
    have HR := Aside0.mk hr
    clear hr h1 h2 hr0
    go_enter Tryz.func111, Tryz.ntmps111
    go_wp2_with fail
    go_quiet (fail)
    go_wp2_with fail
    go_ret
    exact ⟨congrArg (fun z => Ending.returned (.bool z)) HR.out.symm, HG.out.trans (G.drew _ _)⟩
  have t2 : decide (d < (l0.length : Int)) = true := decide_eq_true h2
  by_cases h3 : 0 ≤ i
  case neg =>
    have hr : rowOk l0 d i = false := by unfold rowOk; rw [decide_eq_true h1, decide_eq_true h2, decide_eq_false h3]; rfl
    have t3 : decide (0 ≤ i) = false := decide_eq_false h3
    have HR := Aside0.mk hr
    clear hr h1 h2 h3 hr0
    go_enter Tryz.func111, Tryz.ntmps111
    go_wp2_with fail
    go_quiet (fail)
    go_wp2_with fail
    go_ret
    exact ⟨congrArg (fun z => Ending.returned (.bool z)) HR.out.symm, HG.out.trans (G.drew _ _)⟩
  have t3 : decide (0 ≤ i) = true := decide_eq_true h3
  obtain ⟨ad, rfl, hcd⟩ := str_cell hr0 d h1 h2
  have hcd1 : (w.alloc (.cells #[.int .i64 d, .int .i64 i] 75)).cell? (ad.add d.toNat) = some (.string (docAt l0 d)) := pw_cell_below (below_alloc (Below.refl _ _) _) hcd
  have hr : rowOk l0 d i = decide (i ≤ ((docAt l0 d).size : Int)) := by unfold rowOk; rw [decide_eq_true h1, decide_eq_true h2, decide_eq_true h3]; rfl
  have HR := Aside0.mk hr
  have p1 : (0 ≤ d) = True := eq_true h1
  have p2 : (d < (l0.length : Int)) = True := eq_true h2
  clear hr h1 h2 h3 hr0
  go_enter Tryz.func111, Tryz.ntmps111
  go_wp2_with fail
  go_quiet (fail)
  go_wp2_with fail
  go_ret
  exact ⟨congrArg (fun z => Ending.returned (.bool z)) HR.out.symm, HG.out.trans (G.drew _ _)⟩

end Go.Proofs.YtkcpkecaliegfaaGreat.P

end
section
set_option linter.unusedVariables false
set_option linter.unusedSimpArgs false
namespace Go.Proofs.YtkcpkecaliegfaaGreat.P
open Go.RowKit Go.Proofs.YtkcpkecaliegfaaGreatW.PrintWords Go.Proofs.YtkcpkecaliegfaaGreatW.PrintLast Go.Proofs.YtkcpkecaliegfaaGreatW.PrintMore

/-- Of two suffixes, of the documents d and e: is the first one less? -/
def ltS : List Int → Int → List Int → Int → Bool
  | [], d, [], e => decide (d < e)
  | [], _, _ :: _, _ => true
  | _ :: _, _, [], _ => false
  | a :: s, d, b :: t, e => if a = b then ltS s d t e else decide (a < b)
def suf (l : List ByteArray) (d i : Int) : List Int := (bytesOf (docAt l d)).drop i.toNat
def lessB (l : List ByteArray) (d i e j : Int) : Bool := rowOk l d i && (rowOk l e j && ltS (suf l d i) d (suf l e j) e)
def rows_Less.f (l0 : List ByteArray) (a1_0 a1_1 a2_0 a2_1 : Int) : Option Bool := if (docAt l0 a1_0).size ≤ 140737488351232 then some (lessB l0 a1_0 a1_1 a2_0 a2_1) else none

theorem drop_cons (S : ByteArray) (k : Nat) (h : k < S.size) : (bytesOf S).drop k = bt S k :: (bytesOf S).drop (k + 1) := by
  have hl : k < (bytesOf S).length := by rw [bytesOf_length]; exact h
  rw [List.drop_eq_getElem_cons hl]
  congr 1
  rw [← rd_bytesOf]
  simp [rd, List.getD_eq_getElem?_getD, List.getElem?_eq_getElem hl]
theorem drop_nil (S : ByteArray) (k : Nat) (h : k = S.size) : (bytesOf S).drop k = [] := List.drop_eq_nil_of_le (by rw [bytesOf_length]; omega)
theorem ltS_end {S T : ByteArray} {k : Nat} {d e : Int} (h1 : k = S.size) (h2 : k = T.size) : ltS ((bytesOf S).drop k) d ((bytesOf T).drop k) e = decide (d < e) := by
  rw [drop_nil S k h1, drop_nil T k h2]; rfl
theorem ltS_short {S T : ByteArray} {k : Nat} {d e : Int} (h1 : k = S.size) (h2 : k < T.size) : ltS ((bytesOf S).drop k) d ((bytesOf T).drop k) e = true := by
  rw [drop_nil S k h1, drop_cons T k h2]; rfl
theorem ltS_long {S T : ByteArray} {k : Nat} {d e : Int} (h1 : k < S.size) (h2 : k = T.size) : ltS ((bytesOf S).drop k) d ((bytesOf T).drop k) e = false := by
  rw [drop_nil T k h2, drop_cons S k h1]; rfl
theorem ltS_step {S T : ByteArray} {k : Nat} (d e : Int) (h1 : k < S.size) (h2 : k < T.size) :
    ltS ((bytesOf S).drop k) d ((bytesOf T).drop k) e = if bt S k = bt T k then ltS ((bytesOf S).drop (k + 1)) d ((bytesOf T).drop (k + 1)) e else decide (bt S k < bt T k) := by
  rw [drop_cons S k h1, drop_cons T k h2]; rfl

theorem bytesOf_extract (s : ByteArray) (i : Nat) : bytesOf (s.extract i s.size) = (bytesOf s).drop i := by
  unfold bytesOf
  rw [ByteArray.data_extract, Array.toList_extract, List.extract_eq_take_drop, List.map_take, List.map_drop]
  rw [List.take_of_length_le]
  rw [List.length_drop, List.length_map, Array.length_toList]
  exact Nat.le_refl _


/-! ### the order -/
theorem ltS_irrefl (s : List Int) (d : Int) : ltS s d s d = false := by
  induction s with
  | nil => simp [ltS]
  | cons a s ih => simp [ltS, ih]
theorem ltS_trans : ∀ (s t u : List Int) (d e f : Int), ltS s d t e = true → ltS t e u f = true → ltS s d u f = true
  | [], [], [], d, e, f, h1, h2 => by simp [ltS] at *; omega
  | [], [], _ :: _, d, e, f, h1, h2 => by simp [ltS]
  | [], _ :: _, [], d, e, f, h1, h2 => by simp [ltS] at h2
  | [], _ :: _, _ :: _, d, e, f, h1, h2 => by simp [ltS]
  | _ :: _, [], _, d, e, f, h1, h2 => by simp [ltS] at h1
  | _ :: _, _ :: _, [], d, e, f, h1, h2 => by simp [ltS] at h2
  | a :: s, b :: t, c :: u, d, e, f, h1, h2 => by
    simp only [ltS] at h1 h2 ⊢
    by_cases hab : a = b
    · rw [if_pos hab] at h1
      by_cases hbc : b = c
      · rw [if_pos hbc] at h2
        rw [if_pos (hab.trans hbc)]
        exact ltS_trans s t u d e f h1 h2
      · rw [if_neg hbc, decide_eq_true_eq] at h2
        rw [if_neg (by omega), decide_eq_true_eq]
        omega
    · rw [if_neg hab, decide_eq_true_eq] at h1
      by_cases hbc : b = c
      · rw [if_neg (by omega), decide_eq_true_eq]
        omega
      · rw [if_neg hbc, decide_eq_true_eq] at h2
        rw [if_neg (by omega), decide_eq_true_eq]
        omega
theorem ltS_total : ∀ (s t : List Int) (d e : Int), ltS s d t e = false → ltS t e s d = false → s = t ∧ d = e
  | [], [], d, e, h1, h2 => by simp [ltS] at *; omega
  | [], _ :: _, d, e, h1, h2 => by simp [ltS] at h1
  | _ :: _, [], d, e, h1, h2 => by simp [ltS] at h2
  | a :: s, b :: t, d, e, h1, h2 => by
    simp only [ltS] at h1 h2
    by_cases hab : a = b
    · rw [if_pos hab] at h1
      rw [if_pos hab.symm] at h2
      obtain ⟨h3, h4⟩ := ltS_total s t d e h1 h2
      exact ⟨by rw [hab, h3], h4⟩
    · rw [if_neg hab, decide_eq_false_iff_not] at h1
      rw [if_neg (fun h => hab h.symm), decide_eq_false_iff_not] at h2
      omega

/-- A row of documents, as two numbers. -/
abbrev RowOf (l : List ByteArray) := { r : Int × Int // rowOk l r.1 r.2 = true }
def ltR (l : List ByteArray) (a b : RowOf l) : Bool := ltS (suf l a.1.1 a.1.2) a.1.1 (suf l b.1.1 b.1.2) b.1.1
theorem lessB_ok {l : List ByteArray} (a b : RowOf l) : lessB l a.1.1 a.1.2 b.1.1 b.1.2 = ltR l a b := by
  unfold lessB ltR
  rw [a.2, b.2]
  rfl
theorem rowOk_iff {l : List ByteArray} {d i : Int} : rowOk l d i = true ↔ 0 ≤ d ∧ d < l.length ∧ 0 ≤ i ∧ i ≤ ((docAt l d).size : Int) := by
  unfold rowOk
  simp only [Bool.and_eq_true, decide_eq_true_eq]
theorem suf_length {l : List ByteArray} {d i : Int} (h : rowOk l d i = true) : ((suf l d i).length : Int) = (docAt l d).size - i := by
  have h' := rowOk_iff.1 h
  unfold suf
  rw [List.length_drop, bytesOf_length]
  omega
theorem ltR_irrefl {l : List ByteArray} (a : RowOf l) : ltR l a a = false := ltS_irrefl _ _
theorem ltR_trans {l : List ByteArray} {a b c : RowOf l} (h : ltR l a b = true) (k : ltR l b c = true) : ltR l a c = true := ltS_trans _ _ _ _ _ _ h k
theorem ltR_total {l : List ByteArray} {a b : RowOf l} (h : ltR l a b = false) (k : ltR l b a = false) : a = b := by
  obtain ⟨h1, h2⟩ := ltS_total _ _ _ _ h k
  have l1 := suf_length a.2
  have l2 := suf_length b.2
  rw [h1, h2] at l1
  apply Subtype.ext
  apply Prod.ext
  · exact h2
  · omega

end Go.Proofs.YtkcpkecaliegfaaGreat.P

end
section
set_option linter.unusedVariables false
set_option linter.unusedSimpArgs false
namespace Go.Proofs.YtkcpkecaliegfaaGreat.P
open Go.RowKit Go.Proofs.YtkcpkecaliegfaaGreatW.PrintWords Go.Proofs.YtkcpkecaliegfaaGreatW.PrintLast Go.Proofs.YtkcpkecaliegfaaGreatW.PrintMore

/-- The rows of one document, of the first d documents. -/
def rowsOf (l : List ByteArray) (d n : Nat) : List S75 := (List.range n).map fun i : Nat => (⟨(d : Int), (i : Int)⟩ : S75)
def rowsTo (l : List ByteArray) : Nat → List S75
  | 0 => []
  | d + 1 => rowsTo l d ++ rowsOf l d ((docAt l d).size + 1)
def allRows (l : List ByteArray) : List S75 := rowsTo l l.length
def okR (l : List ByteArray) (r : S75) : Bool := rowOk l r.f0 r.f1
def ltB (l : List ByteArray) (a b : S75) : Bool := lessB l a.f0 a.f1 b.f0 b.f1
def leB (l : List ByteArray) (a b : S75) : Bool := !ltB l b a

theorem rowsOf_succ (l : List ByteArray) (d n : Nat) : rowsOf l d (n + 1) = rowsOf l d n ++ [⟨(d : Int), (n : Int)⟩] := by
  simp [rowsOf, List.range_succ]
theorem rowsOf_length (l : List ByteArray) (d n : Nat) : (rowsOf l d n).length = n := by simp [rowsOf]
theorem mem_rowsTo (l : List ByteArray) (r : S75) (D : Nat) (h : r ∈ rowsTo l D) : ∃ d i : Nat, d < D ∧ i ≤ (docAt l d).size ∧ r = ⟨(d : Int), (i : Int)⟩ := by
  induction D with
  | zero => cases h
  | succ D ih =>
    simp only [rowsTo, List.mem_append] at h
    rcases h with h | h
    · obtain ⟨d, i, h1, h2, h3⟩ := ih h
      exact ⟨d, i, by omega, h2, h3⟩
    · simp only [rowsOf, List.mem_map, List.mem_range] at h
      obtain ⟨i, h1, h2⟩ := h
      exact ⟨D, i, by omega, by omega, h2.symm⟩
theorem allRows_ok (l : List ByteArray) (r : S75) (h : r ∈ allRows l) : okR l r = true := by
  obtain ⟨d, i, h1, h2, rfl⟩ := mem_rowsTo l r l.length h
  exact rowOk_iff.2 ⟨by dsimp only; omega, by dsimp only; omega, by dsimp only; omega, by dsimp only; omega⟩

theorem ltB_irrefl (l : List ByteArray) (a : S75) : ltB l a a = false := by
  unfold ltB lessB
  rw [ltS_irrefl, Bool.and_false, Bool.and_false]
theorem ltB_trans {l : List ByteArray} {a b c : S75} (h : ltB l a b = true) (k : ltB l b c = true) : ltB l a c = true := by
  unfold ltB lessB at *
  simp only [Bool.and_eq_true] at *
  exact ⟨h.1, k.2.1, ltS_trans _ _ _ _ _ _ h.2.2 k.2.2⟩
theorem ltB_asymm {l : List ByteArray} {a b : S75} (h : ltB l a b = true) : ltB l b a = false := by
  cases hb : ltB l b a with
  | false => rfl
  | true =>
    have := ltB_trans h hb
    rw [ltB_irrefl] at this
    cases this
theorem ltB_total {l : List ByteArray} {a b : S75} (ha : okR l a = true) (hb : okR l b = true) (h : ltB l a b = false) (k : ltB l b a = false) : a = b := by
  have h1 : ltR l ⟨(a.f0, a.f1), ha⟩ ⟨(b.f0, b.f1), hb⟩ = false := by rw [← lessB_ok]; exact h
  have h2 : ltR l ⟨(b.f0, b.f1), hb⟩ ⟨(a.f0, a.f1), ha⟩ = false := by rw [← lessB_ok]; exact k
  have h3 := congrArg Subtype.val (ltR_total h1 h2)
  simp only [Prod.mk.injEq] at h3
  cases a
  cases b
  simp only at h3
  rw [h3.1, h3.2]

/-- All suffixes, in order. -/
def sortedRows (l : List ByteArray) : List S75 := if rightB l then (allRows l).mergeSort (leB l) else []

theorem leB_trans_on (l : List ByteArray) : ∀ a b c : S75, okR l a = true → okR l b = true → okR l c = true → leB l a b = true → leB l b c = true → leB l a c = true := by
  intro a b c ha hb hc h1 h2
  unfold leB at *
  simp only [Bool.not_eq_true'] at *
  cases hca : ltB l c a with
  | false => rfl
  | true =>
    cases hab : ltB l a b with
    | true =>
      have := ltB_trans hca hab
      rw [h2] at this
      cases this
    | false =>
      have := ltB_total ha hb hab h1
      subst this
      rw [h2] at hca
      cases hca

/-- What is a permutation of all, and rises, is the sorted list. -/
theorem pairwise_unique {α : Type} (lt : α → α → Bool) (tot : ∀ a b, lt a b = true → lt b a = false) :
    ∀ (s t : List α), s.Perm t → s.Pairwise (fun a b => lt a b = true) → t.Pairwise (fun a b => lt a b = true) → s = t
  | [], t, hp, _, _ => (List.Perm.nil_eq hp)
  | a :: s, [], hp, _, _ => by have := hp.length_eq; simp at this
  | a :: s, b :: t, hp, hs, ht => by
    rw [List.pairwise_cons] at hs ht
    have hab : a = b := by
      have h1 : a ∈ b :: t := hp.mem_iff.1 List.mem_cons_self
      have h2 : b ∈ a :: s := hp.mem_iff.2 List.mem_cons_self
      rcases List.mem_cons.1 h1 with h | h
      · exact h
      · rcases List.mem_cons.1 h2 with h' | h'
        · exact h'.symm
        · have k1 := ht.1 a h
          have k2 := hs.1 b h'
          rw [tot _ _ k1] at k2
          cases k2
    subst hab
    rw [pairwise_unique lt tot s t (List.Perm.cons_inv hp) hs.2 ht.2]

end Go.Proofs.YtkcpkecaliegfaaGreat.P

end
section
set_option linter.unusedVariables false
set_option linter.unusedSimpArgs false
namespace Go.Proofs.YtkcpkecaliegfaaGreat.P
open Go.Sort (flatK size_flatK get_flatK HoldsK putRowK)
open Go.RowKit Go.Proofs.YtkcpkecaliegfaaGreatW.PrintWords Go.Proofs.YtkcpkecaliegfaaGreatW.PrintLast Go.Proofs.YtkcpkecaliegfaaGreatW.PrintMore

/-- A row's cells. -/
def encR {l : List ByteArray} (x : RowOf l) : List Value := [.int .i64 x.1.1, .int .i64 x.1.2]
def unR {l : List ByteArray} (x : RowOf l) : S75 := ⟨x.1.1, x.1.2⟩

theorem flat_at {l : List ByteArray} [Inhabited (RowOf l)] (d : Array (RowOf l)) (j : Nat) (h : j < d.size) :
    (flatK encR 2 d)[j * 2]! = .int .i64 d[j]!.1.1 ∧ (flatK encR 2 d)[j * 2 + 1]! = .int .i64 d[j]!.1.2 := by
  constructor
  · rw [get_flatK encR 2 d (j * 2) (by omega)]
    have e1 : j * 2 / 2 = j := by omega
    have e2 : j * 2 % 2 = 0 := by omega
    rw [e1, e2]
    rfl
  · rw [get_flatK encR 2 d (j * 2 + 1) (by omega)]
    have e1 : (j * 2 + 1) / 2 = j := by omega
    have e2 : (j * 2 + 1) % 2 = 1 := by omega
    rw [e1, e2]
    rfl

theorem holds_row {l : List ByteArray} [Inhabited (RowOf l)] {w : World} {base g n cap : Nat} {ok : Nat → Prop} {d : Array (RowOf l)}
    (h : k75.R 75 w base ok (.slice (some ⟨g, 0, none⟩) n cap) (d.toList.map unR)) : HoldsK encR 2 w g 0 d := by
  intro j hj
  rw [size_flatK] at hj
  have hfr : w.frozen? ⟨g, 0 + j, none⟩ = false := by
    obtain ⟨_, inner, ho, _⟩ := h
    rcases ho.2 with ⟨e0, _⟩ | ⟨g', cap', cur, e0, _, hg, _⟩
    · cases e0
    · injection e0 with e1
      injection e1 with e1
      injection e1 with e1
      subst e1
      simp [World.frozen?, hg]
  refine ⟨?_, hfr⟩
  obtain ⟨c, hcl, hM, hcc⟩ := Kd.R_get h z75 ((j / 2 : Nat) : Int) (by omega) (by
    obtain ⟨A, c, hv, hl, _⟩ := Kd.R_reads h
    injection hv with _ hv _
    rw [List.length_map, Array.length_toList] at hv
    omega)
  obtain rfl := k75_openM hM
  rw [Int.toNat_natCast] at hcc
  have hlt : j / 2 < d.size := by omega
  have hget : (d.toList.map unR).getD (j / 2) z75 = unR d[j / 2]! := by
    rw [List.getD_eq_getElem?_getD, List.getElem?_map, Array.getElem?_toList, Array.getElem?_eq_getElem hlt, getElem!_pos d _ hlt]
    rfl
  rw [hget] at hcc
  have h2 := flat_at d (j / 2) hlt
  rcases Nat.mod_two_eq_zero_or_one j with h0 | h0
  · have e : j = j / 2 * 2 := by omega
    have hc := hcc 0 (.int .i64 d[j / 2]!.1.1) rfl
    rw [add_plain] at hc
    have e3 : j / 2 * k75.sz + 0 = j := by show j / 2 * 2 + 0 = j; omega
    rw [e3] at hc
    rw [Nat.zero_add, hc]
    show _ = some (flatK encR 2 d)[j]!
    rw [← h2.1, ← e]
  · have e : j = j / 2 * 2 + 1 := by omega
    have hc := hcc 1 (.int .i64 d[j / 2]!.1.2) rfl
    rw [add_plain] at hc
    have e3 : j / 2 * k75.sz + 1 = j := by show j / 2 * 2 + 1 = j; omega
    rw [e3] at hc
    rw [Nat.zero_add, hc]
    show _ = some (flatK encR 2 d)[j]!
    rw [← h2.2, ← e]

theorem row_sorted {l : List ByteArray} [Inhabited (RowOf l)] {w : World} {base g n cap q : Nat} {os : Array Obj} {ok : Nat → Prop} {xs : List S75} {d : Array (RowOf l)} (hd : d.size = n) (hx : xs.length = n)
    (h : k75.R 75 w base ok (.slice (some ⟨g, 0, none⟩) n cap) xs) :
    k75.R 75 (Sort.grow (putRowK encR 2 (Sort.ahead w q) g 0 d) os) base ok (.slice (some ⟨g, 0, none⟩) n cap) (d.toList.map unR) := by
  obtain ⟨h0, inner, ho, hr⟩ := h
  rw [hx] at ho
  have hlen : (d.toList.map unR).length = n := by rw [List.length_map, Array.length_toList]; exact hd
  rcases ho.2 with ⟨e0, _⟩ | ⟨g', cap', cur, e0, hb, hg, hn, hm, hs, ht⟩
  · cases e0
  · injection e0 with e1 _ e3
    injection e1 with e1
    injection e1 with e1
    subst e1; subst e3
    have hglt : g < w.heap.size := by
      rcases Nat.lt_or_ge g w.heap.size with h' | h'
      · exact h'
      · rw [Array.getElem?_eq_none h'] at hg; cases hg
    have hF : (flatK encR 2 d).size = n * 2 := by rw [size_flatK, hd]
    have hcs : n * 2 ≤ cur.size := by
      have : cur.size = cap * 2 := hs
      omega
    have htake : (Sort.putCells id 0 (flatK encR 2 d) cur).toList.take (n * 2) = (flatK encR 2 d).toList := by
      apply List.ext_getElem?
      intro j
      rw [List.getElem?_take, Array.getElem?_toList, Array.getElem?_toList]
      by_cases hj : j < n * 2
      · have hjc : j < cur.size := by omega
        have hjF : j < (flatK encR 2 d).size := by omega
        simp only [if_pos hj, Sort.putCells, Array.getElem?_mapIdx, Array.getElem?_eq_getElem hjc, Option.map_some]
        rw [if_pos (by omega), Array.getElem?_eq_getElem hjF, Nat.sub_zero, getElem!_pos (flatK encR 2 d) j hjF]
        rfl
      · rw [if_neg hj, Array.getElem?_eq_none (by omega)]
    refine ⟨h0, (flatK encR 2 d).toList, ?_, ?_⟩
    · rw [hlen]
      refine ⟨by rw [Array.length_toList, hF]; rfl, .inr ⟨g, cap, Sort.putCells id 0 (flatK encR 2 d) cur, rfl, hb, ?_, hn, hm, by simpa [Sort.putCells] using hs, htake⟩⟩
      have e : (Sort.mapBlock (Sort.ahead w q) g (Sort.putCells id 0 (flatK encR 2 d))).heap[g]? = some (.cells (Sort.putCells id 0 (flatK encR 2 d) cur) 75 (0, 0)) := by
        simp [Sort.mapBlock, Sort.ahead, Array.getElem?_modify, hg, Sort.onCells]
      show ((Sort.mapBlock (Sort.ahead w q) g (Sort.putCells id 0 (flatK encR 2 d))).heap ++ os)[g]? = _
      rw [Array.getElem?_append_left (by simpa [Sort.mapBlock, Sort.ahead] using hglt)]
      exact e
    · refine ⟨by rw [Array.length_toList, hF, hlen]; rfl, fun j p hj => ?_⟩
      rw [List.getElem?_map, Array.getElem?_toList] at hj
      obtain ⟨x, hx1, rfl⟩ := Option.map_eq_some_iff.1 hj
      obtain ⟨hjd, hx2⟩ := Array.getElem?_eq_some_iff.1 hx1
      have hxx : d[j]! = x := by rw [getElem!_pos d j hjd, hx2]
      have h2 := flat_at d j hjd
      rw [hxx] at h2
      have hm2 := k75_mkM (Sort.grow (putRowK encR 2 (Sort.ahead w q) g 0 d) os) base (fun k => ok k ∧ some k ≠ (Value.slice (some ⟨g, 0, none⟩) n cap).ownBlock) (unR x)
      have hdt : ((flatK encR 2 d).toList.drop (j * 2)).take 2 = [.int .i64 (unR x).f0, .int .i64 (unR x).f1] := by
        have k1 : j * 2 < (flatK encR 2 d).toList.length := by rw [Array.length_toList, hF]; omega
        have k2 : j * 2 + 1 < (flatK encR 2 d).toList.length := by rw [Array.length_toList, hF]; omega
        rw [List.drop_eq_getElem_cons k1, List.take_succ_cons, List.drop_eq_getElem_cons k2, List.take_succ_cons, List.take_zero]
        rw [getElem!_pos (flatK encR 2 d) (j * 2) (by rw [hF]; omega), getElem!_pos (flatK encR 2 d) (j * 2 + 1) (by rw [hF]; omega)] at h2
        rw [Array.getElem_toList, Array.getElem_toList, h2.1, h2.2]
        rfl
      show k75.M _ _ _ (unR x) (((flatK encR 2 d).toList.drop (j * 2)).take 2)
      rw [hdt]
      exact hm2

end Go.Proofs.YtkcpkecaliegfaaGreat.P

end
section
set_option linter.unusedVariables false
set_option linter.unusedSimpArgs false
namespace Go.Proofs.YtkcpkecaliegfaaGreat.P
open Go.Sort (flatK size_flatK get_flatK HoldsK putRowK SWO PermIn SortedIn)
open Go.RowKit Go.Proofs.YtkcpkecaliegfaaGreatW.PrintWords Go.Proofs.YtkcpkecaliegfaaGreatW.PrintLast Go.Proofs.YtkcpkecaliegfaaGreatW.PrintMore

/-- What the closure tells of two rows. -/
def cmpR (l : List ByteArray) (x y : RowOf l) : Int := if ltB l (unR x) (unR y) then -1 else 1
theorem ltOf_cmpR (l : List ByteArray) (x y : RowOf l) : ltOf (cmpR l) x y = ltB l (unR x) (unR y) := by
  unfold ltOf cmpR
  cases ltB l (unR x) (unR y) <;> rfl
theorem okR_un {l : List ByteArray} (x : RowOf l) : okR l (unR x) = true := x.2
theorem unR_inj {l : List ByteArray} {x y : RowOf l} (h : unR x = unR y) : x = y := by
  obtain ⟨⟨a, b⟩, hx⟩ := x
  obtain ⟨⟨c, d⟩, hy⟩ := y
  unfold unR at h
  simp only [S75.mk.injEq] at h
  obtain ⟨rfl, rfl⟩ := h
  rfl
theorem swoR (l : List ByteArray) : SWO (ltOf (cmpR l)) where
  irrefl x := by rw [ltOf_cmpR]; exact ltB_irrefl _ _
  trans x y z h1 h2 := by rw [ltOf_cmpR] at *; exact ltB_trans h1 h2
  ntrans x y z h1 h2 := by
    rw [ltOf_cmpR] at *
    cases h3 : ltB l (unR x) (unR z) with
    | false => rfl
    | true =>
      cases h4 : ltB l (unR y) (unR x) with
      | true =>
        have := ltB_trans h4 h3
        rw [h2] at this
        cases this
      | false =>
        have := ltB_total (okR_un x) (okR_un y) h1 h4
        rw [← this] at h2
        rw [h2] at h3
        cases h3

/-- All suffixes, as rows that are. -/
def allOf (l : List ByteArray) : Array (RowOf l) := ((allRows l).pmap (fun r h => (⟨(r.f0, r.f1), h⟩ : RowOf l)) (fun r hr => allRows_ok l r hr)).toArray
theorem map_allOf (l : List ByteArray) : (allOf l).toList.map unR = allRows l := by
  unfold allOf
  rw [List.toList_toArray, List.map_pmap]
  have : ∀ (xs : List S75) (H : ∀ r ∈ xs, okR l r = true), xs.pmap (fun r h => unR (⟨(r.f0, r.f1), h⟩ : RowOf l)) H = xs := by
    intro xs H
    induction xs with
    | nil => rfl
    | cons x xs ih => rw [List.pmap_cons, ih]; rfl
  exact this _ _
theorem size_allOf (l : List ByteArray) : (allOf l).size = (allRows l).length := by
  have := congrArg List.length (map_allOf l)
  rw [List.length_map, Array.length_toList] at this
  exact this

theorem mem_rowsTo' (l : List ByteArray) (D : Nat) (r : S75) (h : r ∈ rowsTo l D) : r.f0 < D := by
  obtain ⟨d, i, h1, h2, rfl⟩ := mem_rowsTo l r D h
  dsimp only
  omega
theorem rowsTo_nodup (l : List ByteArray) (D : Nat) : (rowsTo l D).Nodup := by
  induction D with
  | zero => exact List.nodup_nil
  | succ D ih =>
    rw [rowsTo, List.nodup_append]
    refine ⟨ih, ?_, ?_⟩
    · unfold rowsOf
      rw [List.Nodup, List.pairwise_map]
      refine List.Pairwise.imp ?_ (List.nodup_range (n := (docAt l D).size + 1))
      intro a b hab he
      injection he with _ he
      omega
    · intro a ha b hb he
      subst he
      have h1 := mem_rowsTo' l D a ha
      unfold rowsOf at hb
      obtain ⟨i, _, rfl⟩ := List.mem_map.1 hb
      dsimp only at h1
      omega

/-- A permutation of all suffixes that rises is the sorted list. -/
theorem sorted_unique (l : List ByteArray) (hr : rightB l = true) (xs : List S75) (hp : xs.Perm (allRows l)) (hs : xs.Pairwise (fun a b => ltB l b a = false)) : xs = sortedRows l := by
  have hN : (allRows l).Nodup := rowsTo_nodup l l.length
  have key : ∀ ys : List S75, ys.Perm (allRows l) → ys.Pairwise (fun a b => ltB l b a = false) → ys.Pairwise (fun a b => ltB l a b = true) := by
    intro ys hy hw
    have hn : ys.Nodup := hy.nodup_iff.2 hN
    have hok : ∀ r ∈ ys, okR l r = true := fun r h => allRows_ok l r (hy.mem_iff.1 h)
    have h2 : ys.Pairwise (fun a b => a ≠ b ∧ ltB l b a = false) := List.Pairwise.and hn hw
    refine List.Pairwise.imp_of_mem ?_ h2
    intro a b ha hb ⟨h3, h4⟩
    cases h5 : ltB l a b with
    | true => rfl
    | false => exact absurd (ltB_total (hok a ha) (hok b hb) h5 h4) h3
  have hsort : sortedRows l = (allRows l).mergeSort (leB l) := by unfold sortedRows; rw [if_pos hr]
  have hp2 : (sortedRows l).Perm (allRows l) := by rw [hsort]; exact List.mergeSort_perm _ _
  have hs2 : (sortedRows l).Pairwise (fun a b => ltB l b a = false) := by
    rw [hsort]
    have hm : ((allOf l).toList.mergeSort (fun x y => leB l (unR x) (unR y))).map unR = (allRows l).mergeSort (leB l) := by
      rw [← map_allOf l]
      exact List.map_mergeSort (fun _ _ _ _ => rfl)
    rw [← hm, List.pairwise_map]
    have := List.pairwise_mergeSort (le := fun x y : RowOf l => leB l (unR x) (unR y)) (fun a b c h1 h2 => leB_trans_on l _ _ _ (okR_un a) (okR_un b) (okR_un c) h1 h2) (fun a b => by
      unfold leB
      cases h1 : ltB l (unR b) (unR a) with
      | false => rfl
      | true => rw [ltB_asymm h1]; rfl) (allOf l).toList
    refine List.Pairwise.imp ?_ this
    intro a b h
    unfold leB at h
    simpa using h
  exact pairwise_unique (ltB l) (fun a b h => ltB_asymm h) xs (sortedRows l) (hp.trans hp2.symm) (key xs hp hs) (key _ hp2 hs2)

theorem sort_left (l : List ByteArray) [Inhabited (RowOf l)] (hr : rightB l = true) (d' : Array (RowOf l)) (hp : PermIn 0 (allOf l).size (allOf l) d') (hs : SortedIn (ltOf (cmpR l)) 0 (allOf l).size d') : d'.toList.map unR = sortedRows l := by
  obtain ⟨h1, h2, h3⟩ := hp
  have e1 : d'.extract 0 (allOf l).size = d' := by rw [← h1]; exact Array.extract_size ..
  have e2 : (allOf l).extract 0 (allOf l).size = allOf l := Array.extract_size ..
  rw [e1, e2] at h3
  refine sorted_unique l hr _ (by rw [← map_allOf l]; exact h3.map unR) ?_
  rw [List.pairwise_map, List.pairwise_iff_getElem]
  intro i j hi hj hij
  rw [Array.length_toList] at hi hj
  have := hs i j (Nat.zero_le _) hij (by rw [← h1]; exact hj)
  rw [ltOf_cmpR, getElem!_pos d' i hi, getElem!_pos d' j hj] at this
  rw [Array.getElem_toList, Array.getElem_toList]
  exact this
end Go.Proofs.YtkcpkecaliegfaaGreat.P

end
section
set_option linter.unusedVariables false
set_option linter.unusedSimpArgs false
namespace Go.Proofs.YtkcpkecaliegfaaGreat.P
open Go.Sort (flatK size_flatK get_flatK HoldsK putRowK SWO PermIn SortedIn)
open Go.RowKit Go.Proofs.YtkcpkecaliegfaaGreatW.PrintWords Go.Proofs.YtkcpkecaliegfaaGreatW.PrintLast Go.Proofs.YtkcpkecaliegfaaGreatW.PrintMore

/-- Less computes lessB for this list, wherever it lies so. -/
def LessOk (A0 : Option Addr) (c0 : Nat) (l0 : List ByteArray) : Prop := ∀ (d i e j : Int) (w : World), Kd.C Kd.string w A0 l0.length l0 →
  Calls Tryz.prog 102 #[.slice A0 l0.length c0, .agg #[.int .i64 d, .int .i64 i], .agg #[.int .i64 e, .int .i64 j]] w fun en w' => en = .returned (.bool (lessB l0 d i e j)) ∧ G w w'

set_option maxRecDepth 100000 in
set_option maxHeartbeats 4000000 in
theorem cmp_calls (A0 : Option Addr) (c0 : Nat) (l0 : List ByteArray) (HL : LessOk A0 c0 l0) (g : Nat) (d i e j : Int) (w : World) (hr0 : Kd.C Kd.string w A0 l0.length l0) (hb : w.cell? ⟨g, 0, none⟩ = some (.slice A0 l0.length c0)) :
    Calls Tryz.prog 101 #[.agg #[.int .i64 d, .int .i64 i], .agg #[.int .i64 e, .int .i64 j], .pointer (some ⟨g, 0, none⟩)] w fun en w' => en = .returned (.int .i64 (if lessB l0 d i e j then -1 else 1)) ∧ G w w' := by
  have HC := Aside0.mk hr0
  have hu24 := Tryz.underlying75
  obtain ⟨W0, hW0⟩ : ∃ W0, (w.alloc (.cells #[.int .i64 d, .int .i64 i] 75)).alloc (.cells #[.int .i64 e, .int .i64 j] 75) = W0 := ⟨_, rfl⟩
  have HBW0 : Aside0 (G w W0) := ⟨by rw [← hW0]; exact (G.alloc _ _).trans (G.alloc _ _)⟩
  have z1 : W0.cell? ⟨w.heap.size, 0, none⟩ = some (.int .i64 d) := by rw [← hW0]; exact pw_cell_below (below_alloc (Below.refl _ _) _) (cell_new w _ _ 0 _ rfl)
  have z2 : W0.cell? ⟨w.heap.size, 1, none⟩ = some (.int .i64 i) := by rw [← hW0]; exact pw_cell_below (below_alloc (Below.refl _ _) _) (cell_new w _ _ 1 _ rfl)
  have z3 : W0.cell? ⟨w.heap.size + 1, 0, none⟩ = some (.int .i64 e) := by rw [← hW0]; have := cell_new (w.alloc (.cells #[.int .i64 d, .int .i64 i] 75)) #[.int .i64 e, .int .i64 j] 75 0 _ rfl; rwa [size_alloc] at this
  have z4 : W0.cell? ⟨w.heap.size + 1, 1, none⟩ = some (.int .i64 j) := by rw [← hW0]; have := cell_new (w.alloc (.cells #[.int .i64 d, .int .i64 i] 75)) #[.int .i64 e, .int .i64 j] 75 1 _ rfl; rwa [size_alloc] at this
  have z5 : W0.cell? ⟨g, 0, none⟩ = some (.slice A0 l0.length c0) := pw_cell_below HBW0.out.below hb
  have L0 := Aside0.mk (HL d i e j)
  clear hr0 hb HL
  subst hW0
  obtain ⟨b, hbq⟩ : ∃ b, lessB l0 d i e j = b := ⟨_, rfl⟩
  rw [hbq] at L0
  rw [hbq]
  clear hbq
  go_enter Tryz.func101, Tryz.ntmps101
  go_wp2_with fail
  refine (L0.out _ (Kd.C_below HC.out HBW0.out.below)).mono ?_
  rintro en w1 ⟨rfl, hg⟩
  have HB1 := Aside0.mk (HBW0.out.trans hg)
  clear z1 z2 z3 z4 z5 hg
  cases b with
  | true =>
    go_wp2_with fail
    go_ret
    exact ⟨rfl, HB1.out⟩
  | false =>
    go_wp2_with fail
    go_ret
    exact ⟨rfl, HB1.out⟩

/-- What the sort leaves below a number of blocks. -/
theorem below_sortWorldK {α : Type} [Inhabited α] (enc : α → List Value) (k : Nat) (w0 w : World) (s blk off m : Nat) (dk : Array α) (os : Array Obj) (h : Below s w0 w) (hs : s ≤ blk) (hw : s ≤ w.heap.size) : Below s w0 (sortWorldK enc k w blk off m dk os) := by
  have e1 : (putRowK enc k (Sort.ahead w m) blk off dk).heap.size = w.heap.size := by simp [putRowK, Sort.putRow, Sort.mapBlock, Sort.ahead]
  refine ⟨h.os, h.tape, h.output, ?_, ?_⟩
  · have := h.size
    show w0.heap.size ≤ ((putRowK enc k (Sort.ahead w m) blk off dk).heap ++ os).size
    rw [Array.size_append]
    omega
  · intro q hq
    rw [← h.block q hq]
    show ((putRowK enc k (Sort.ahead w m) blk off dk).heap ++ os)[q]? = _
    rw [Array.getElem?_append_left (by rw [e1]; omega)]
    simp [putRowK, Sort.putRow, Sort.mapBlock, Sort.ahead, Array.getElem?_modify]
    intro hb
    omega

theorem cmpLays (A0 : Option Addr) (c0 : Nat) (l0 : List ByteArray) [Inhabited (RowOf l0)] (HL : LessOk A0 c0 l0) (g s blk off n : Nat) (w0 w : World) (hr0 : Kd.C Kd.string w0 A0 l0.length l0) (hb : w0.cell? ⟨g, 0, none⟩ = some (.slice A0 l0.length c0)) (hB : Below s w0 w) (hw : s = w0.heap.size) (hs : s ≤ blk) :
    CmpLays Tryz.prog 101 #[.pointer (some ⟨g, 0, none⟩)] encR 2 (cmpR l0) blk off n w := by
  intro m os dk hdk x y
  have hbel := below_sortWorldK encR 2 w0 w s blk off m dk os hB hs (by rw [hw]; exact hB.size)
  subst hw
  have := cmp_calls A0 c0 l0 HL g x.1.1 x.1.2 y.1.1 y.1.2 _ (Kd.C_below hr0 hbel) (pw_cell_below hbel hb)
  exact this.mono fun en w' ⟨h1, h2⟩ => ⟨h1, h2.out⟩
end Go.Proofs.YtkcpkecaliegfaaGreat.P

end
