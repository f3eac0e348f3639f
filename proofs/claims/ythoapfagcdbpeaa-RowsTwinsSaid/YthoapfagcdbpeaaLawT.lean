/- The plain law of RowsTwins, and its walk. Conditions: the row's. -/
import Derived.Test.YthoapfagcdbpeaaPure0
import Derived.Test.YthoapfagcdbpeaaSort
import Derived.Test.YthoapfagcdbpeaaP6
set_option linter.unusedVariables false
set_option linter.unusedSimpArgs false
namespace Go.Proofs.Ythoapfagcdbpeaa.P
open Go.RowKit Go.Proofs.YthoapfagcdbpeaaW.PrintWords Go.Proofs.YthoapfagcdbpeaaW.PrintLast Go.Proofs.YthoapfagcdbpeaaW.PrintMore

theorem ltS_any : ∀ (s t : List Int) (d e d' e' : Int), ltS s d t e = true → s.length ≠ t.length → ltS s d' t e' = true
  | [], [], _, _, _, _, _, h => absurd rfl h
  | [], _ :: _, _, _, _, _, _, _ => by simp [ltS]
  | _ :: _, [], _, _, _, _, h, _ => by simp [ltS] at h
  | a :: s, b :: t, d, e, d', e', h, hl => by
    simp only [ltS] at h ⊢
    by_cases hab : a = b
    · rw [if_pos hab] at h ⊢
      exact ltS_any s t d e d' e' h (by simpa using hl)
    · rw [if_neg hab] at h ⊢
      exact h
theorem flat_len {α β : Type} (g : α → List β) (n : Nat) (hg : ∀ x, (g x).length = n) : ∀ L : List α, (L.flatMap g).length = L.length * n
  | [] => by simp
  | a :: L => by rw [List.flatMap_cons, List.length_append, hg, flat_len g n hg L, List.length_cons, Nat.add_mul, Nat.one_mul, Nat.add_comm]
theorem flat_get {α β : Type} (g : α → List β) (n : Nat) (hg : ∀ x, (g x).length = n) : ∀ (L : List α) (q d : Nat) (hq : q < L.length), d < n → (L.flatMap g)[q * n + d]? = (g L[q])[d]?
  | a :: L, 0, d, _, hd => by
    rw [List.flatMap_cons, Nat.zero_mul, Nat.zero_add, List.getElem?_append_left (by rw [hg]; exact hd)]
    rfl
  | a :: L, q + 1, d, hq, hd => by
    rw [List.flatMap_cons, List.getElem?_append_right (by rw [hg, Nat.add_mul, Nat.one_mul]; omega), hg]
    have e : (q + 1) * n + d - n = q * n + d := by rw [Nat.add_mul, Nat.one_mul]; omega
    rw [e, flat_get g n hg L q d (by simpa using hq) hd]
    rfl
def pieceOf (n : Nat) (i : Int) : List S24 := (List.range n).map fun d : Nat => (⟨(d : Int), i⟩ : S24)
def twinRows (s : ByteArray) (n : Nat) : List S24 := (sortedRows [s]).flatMap fun r => pieceOf n r.f1
theorem doc_rep (s : ByteArray) (n : Nat) (d : Int) (h0 : 0 ≤ d) (h1 : d < (n : Int)) : docAt (List.replicate n s) d = s := by
  unfold docAt rdOf
  rw [List.getD_eq_getElem?_getD, List.getElem?_replicate, if_pos (by omega)]
  rfl
theorem doc_one (s : ByteArray) : docAt [s] 0 = s := rfl
theorem right_rep (s : ByteArray) (n : Nat) (hs : s.size ≤ 20) (hn : n ≤ 6) : rightB (List.replicate n s) = true := by
  unfold rightB
  rw [List.length_replicate, decide_eq_true (by omega), Bool.true_and]
  have : (List.replicate n s).any longB = false := by
    rw [List.any_eq_false]
    intro x hx
    rw [(List.mem_replicate.1 hx).2]
    unfold longB
    rw [decide_eq_false (by omega)]
    decide
  rw [this]
  rfl
theorem right_one (s : ByteArray) (hs : s.size ≤ 20) : rightB [s] = true := right_rep s 1 hs (by omega)
theorem mem_one (s : ByteArray) (hs : s.size ≤ 20) (r : S24) : r ∈ sortedRows [s] ↔ r.f0 = 0 ∧ 0 ≤ r.f1 ∧ r.f1 ≤ (s.size : Int) := by
  rw [mem_sorted _ (right_one s hs)]
  unfold okR
  rw [rowOk_iff]
  constructor
  · intro ⟨h1, h2, h3, h4⟩
    have h2' : r.f0 < 1 := h2
    have h0 : r.f0 = 0 := by omega
    rw [h0, doc_one] at h4
    exact ⟨h0, h3, h4⟩
  · intro ⟨h0, h3, h4⟩
    rw [h0, doc_one]
    exact ⟨by omega, by show (0 : Int) < 1; omega, h3, h4⟩
theorem twin_is (s : ByteArray) (n : Nat) (hs : s.size ≤ 20) (hn : n ≤ 6) : twinRows s n = sortedRows (List.replicate n s) := by
  refine sorted_is _ (right_rep s n hs hn) _ ?_ ?_
  · intro r
    unfold twinRows okR
    rw [List.mem_flatMap, rowOk_iff, List.length_replicate]
    constructor
    · rintro ⟨r', hr', hm⟩
      obtain ⟨d, hd, rfl⟩ := List.mem_map.1 hm
      have hd' := List.mem_range.1 hd
      have h := (mem_one s hs r').1 hr'
      dsimp only
      rw [doc_rep s n d (by omega) (by omega)]
      exact ⟨by omega, by omega, h.2.1, h.2.2⟩
    · intro ⟨h1, h2, h3, h4⟩
      rw [doc_rep s n r.f0 h1 h2] at h4
      refine ⟨⟨0, r.f1⟩, (mem_one s hs _).2 ⟨rfl, h3, h4⟩, ?_⟩
      refine List.mem_map.2 ⟨r.f0.toNat, List.mem_range.2 (by omega), ?_⟩
      cases r
      dsimp only at *
      congr 1
      omega
  · unfold twinRows
    rw [List.pairwise_flatMap]
    have sufr : ∀ (d i : Int), 0 ≤ d → d < (n : Int) → suf (List.replicate n s) d i = (bytesOf s).drop i.toNat := by
      intro d i h0 h1
      unfold suf
      rw [doc_rep s n d h0 h1]
    constructor
    · intro r hr
      have h := (mem_one s hs r).1 hr
      unfold pieceOf
      rw [List.pairwise_map]
      refine List.Pairwise.imp_of_mem ?_ List.pairwise_lt_range
      intro a b ha hb hab
      have ha' := List.mem_range.1 ha
      have hb' := List.mem_range.1 hb
      unfold ltB lessB
      dsimp only
      have o1 : rowOk (List.replicate n s) (a : Int) r.f1 = true := rowOk_iff.2 ⟨by omega, by rw [List.length_replicate]; omega, h.2.1, by rw [doc_rep s n a (by omega) (by omega)]; exact h.2.2⟩
      have o2 : rowOk (List.replicate n s) (b : Int) r.f1 = true := rowOk_iff.2 ⟨by omega, by rw [List.length_replicate]; omega, h.2.1, by rw [doc_rep s n b (by omega) (by omega)]; exact h.2.2⟩
      rw [o1, o2, Bool.true_and, Bool.true_and, sufr a _ (by omega) (by omega), sufr b _ (by omega) (by omega)]
      have key : ∀ t : List Int, ltS t (a : Int) t (b : Int) = true := by
        intro t
        induction t with
        | nil => simp only [ltS]; exact decide_eq_true (by omega)
        | cons x t ih => simp only [ltS]; exact ih
      exact key _
    · refine List.Pairwise.imp_of_mem ?_ (sorted_rises [s] (right_one s hs))
      intro r r' hr hr' hlt x hx y hy
      have h := (mem_one s hs r).1 hr
      have h' := (mem_one s hs r').1 hr'
      obtain ⟨a, ha, rfl⟩ := List.mem_map.1 hx
      obtain ⟨b, hb, rfl⟩ := List.mem_map.1 hy
      have ha' := List.mem_range.1 ha
      have hb' := List.mem_range.1 hb
      unfold ltB lessB
      dsimp only
      have o1 : rowOk (List.replicate n s) (a : Int) r.f1 = true := rowOk_iff.2 ⟨by omega, by rw [List.length_replicate]; omega, h.2.1, by rw [doc_rep s n a (by omega) (by omega)]; exact h.2.2⟩
      have o2 : rowOk (List.replicate n s) (b : Int) r'.f1 = true := rowOk_iff.2 ⟨by omega, by rw [List.length_replicate]; omega, h'.2.1, by rw [doc_rep s n b (by omega) (by omega)]; exact h'.2.2⟩
      rw [o1, o2, Bool.true_and, Bool.true_and, sufr a _ (by omega) (by omega), sufr b _ (by omega) (by omega)]
      unfold ltB lessB at hlt
      rw [Bool.and_eq_true, Bool.and_eq_true] at hlt
      have h3 := hlt.2.2
      unfold suf at h3
      rw [h.1, h'.1, doc_one] at h3
      refine ltS_any _ _ _ _ _ _ h3 ?_
      intro he
      rw [List.length_drop, List.length_drop, bytesOf_length] at he
      have he2 : r.f1.toNat = r'.f1.toNat := by omega
      rw [he2, ltS_irrefl] at h3
      cases h3
theorem piece_len (n : Nat) (i : Int) : (pieceOf n i).length = n := by unfold pieceOf; rw [List.length_map, List.length_range]
theorem twin_len (s : ByteArray) (n : Nat) (hs : s.size ≤ 20) : (twinRows s n).length = (s.size + 1) * n := by
  unfold twinRows
  rw [flat_len (fun r : S24 => pieceOf n r.f1) n (fun r => piece_len n r.f1), sorted_length _ (right_one s hs)]
  unfold sumTo
  simp
  rw [Nat.add_comm]
theorem twin_get (s : ByteArray) (n : Nat) (hs : s.size ≤ 20) (hn : 0 < n) (i : Nat) (hi : i < (s.size + 1) * n) : rd_T24 (twinRows s n) (i : Int) = ⟨((i % n : Nat) : Int), ((sortedRows [s]).getD (i / n) ⟨0, 0⟩).f1⟩ := by
  have hl1 : (sortedRows [s]).length = s.size + 1 := by
    rw [sorted_length _ (right_one s hs)]
    unfold sumTo
    simp
    omega
  have hq : i / n < (sortedRows [s]).length := by
    rw [hl1]
    exact (Nat.div_lt_iff_lt_mul hn).2 hi
  have hd : i % n < n := Nat.mod_lt _ hn
  have h := flat_get (fun r : S24 => pieceOf n r.f1) n (fun r => piece_len n r.f1) (sortedRows [s]) (i / n) (i % n) hq hd
  have e : i / n * n + i % n = i := by rw [Nat.mul_comm]; exact Nat.div_add_mod i n
  rw [e] at h
  unfold rd_T24 twinRows
  rw [Int.toNat_natCast, List.getD_eq_getElem?_getD, h]
  unfold pieceOf
  rw [List.getElem?_map, List.getElem?_range hd, List.getD_eq_getElem?_getD, List.getElem?_eq_getElem hq]
  rfl
theorem twins_l1 (s : ByteArray) (n : Nat) (hs : s.size ≤ 20) (hn : 0 < n) (hn6 : n ≤ 6) : ∀ (m j k : Nat), m = (s.size + 1) * n - j → j ≤ (s.size + 1) * n → m + 1 ≤ k →
    scriniumlaw3_RowsTwins.l1 k (n : Int) (twinRows s n) (((s.size + 1) * n : Nat) : Int) (j : Int) = some true := by
  have hT : (s.size + 1) * n ≤ 21 * 6 := Nat.mul_le_mul (by omega) hn6
  have htl := twin_len s n hs
  intro m
  induction m with
  | zero =>
    intro j k hm hj hk
    obtain ⟨k1, rfl⟩ : ∃ k1, k = k1 + 1 := ⟨k - 1, by omega⟩
    rw [scriniumlaw3_RowsTwins.l1, if_neg (by omega)]
  | succ m ih =>
    intro j k hm hj hk
    obtain ⟨k1, rfl⟩ : ∃ k1, k = k1 + 1 := ⟨k - 1, by omega⟩
    have hrec := ih (j + 1) k1 (by omega) (by omega) (by omega)
    have hw : wrap64 ((j : Int) + 1) = ((j + 1 : Nat) : Int) := w64 (j + 1) (by omega)
    have htm : Int.tmod (j : Int) (n : Int) = ((j % n : Nat) : Int) := by rw [Int.tmod_eq_emod_of_nonneg (by omega)]; rfl
    have hmod : j % n < n := Nat.mod_lt _ hn
    have hle : j % n ≤ j := Nat.mod_le _ _
    have hw2 : wrap64 ((j : Int) - ((j % n : Nat) : Int)) = ((j - j % n : Nat) : Int) := by rw [w64i _ (by omega)]; omega
    have g1 := twin_get s n hs hn j (by omega)
    have g2 := twin_get s n hs hn (j - j % n) (by omega)
    have hdiv : (j - j % n) / n = j / n := by
      have e := Nat.div_add_mod j n
      have e2 : j - j % n = n * (j / n) := by omega
      rw [e2, Nat.mul_div_cancel_left _ hn]
    rw [hdiv] at g2
    rw [scriniumlaw3_RowsTwins.l1]
    rw [if_pos (by omega), if_pos (by omega), if_pos (by omega), if_neg (by omega), htm, hw, hw2, g1, g2]
    dsimp only
    rw [if_pos rfl, if_pos (by omega), if_pos (by omega), if_pos rfl]
    exact hrec
theorem twins_l0 (s : ByteArray) (n : Nat) (hs : s.size ≤ 20) (hn : 0 < n) (hn6 : n ≤ 6) : ∀ (m j k : Nat), m = n - j → j ≤ n → m + 200 ≤ k →
    scriniumlaw3_RowsTwins.l0 k s (n : Int) (List.replicate j s) (j : Int) = some true := by
  have hT : (s.size + 1) * n ≤ 21 * 6 := Nat.mul_le_mul (by omega) hn6
  intro m
  induction m with
  | zero =>
    intro j k hm hj hk
    obtain ⟨k1, rfl⟩ : ∃ k1, k = k1 + 1 := ⟨k - 1, by omega⟩
    obtain rfl : j = n := by omega
    rw [scriniumlaw3_RowsTwins.l0, if_neg (by omega)]
    have hS : rows_Sorted.f (List.replicate j s) = some (twinRows s j) := by rw [twin_is s j hs hn6]; rfl
    have htl := twin_len s j hs
    rw [hS, Option.bind_some, htl]
    have e1 : wrap64 ((s.size : Int) + 1) = ((s.size + 1 : Nat) : Int) := w64 (s.size + 1) (by omega)
    have e2 : wrap64 ((j : Int) * ((s.size + 1 : Nat) : Int)) = (((s.size + 1) * j : Nat) : Int) := by
      rw [← Int.natCast_mul, Nat.mul_comm]
      exact w64 _ (by omega)
    rw [e1, e2, if_pos rfl]
    exact twins_l1 s j hs hn hn6 _ 0 k1 rfl (Nat.zero_le _) (by omega)
  | succ m ih =>
    intro j k hm hj hk
    obtain ⟨k1, rfl⟩ : ∃ k1, k = k1 + 1 := ⟨k - 1, by omega⟩
    have hrec := ih (j + 1) k1 (by omega) (by omega) (by omega)
    have hw : wrap64 ((j : Int) + 1) = ((j + 1 : Nat) : Int) := w64 (j + 1) (by omega)
    rw [scriniumlaw3_RowsTwins.l0]
    rw [if_pos (by omega), if_pos (by rw [List.length_replicate]; omega), hw, ← List.replicate_succ']
    exact hrec
theorem RowsTwins_pure : scriniumlaw3_RowsTwins.Pure := by
  intro s n _ _
  obtain ⟨q, hq⟩ : ∃ q : Nat, q = 500 := ⟨_, rfl⟩
  refine ⟨q, ?_⟩
  have ht : scriniumlaw3_RowsTwins.j0 q s n true = some true := by
    obtain ⟨k, rfl⟩ : ∃ k, q = k + 1 := ⟨q - 1, by omega⟩
    rw [scriniumlaw3_RowsTwins.j0, if_pos rfl, alive_ok k (by omega)]
    rfl
  unfold scriniumlaw3_RowsTwins.f
  by_cases c1 : (s.size : Int) > 20
  · rw [if_pos c1]; exact ht
  rw [if_neg c1]
  by_cases c2 : n < 1
  · rw [if_pos c2]; exact ht
  rw [if_neg c2]
  by_cases c3 : n > 6
  · rw [if_pos c3]; exact ht
  rw [if_neg c3, alive_ok q (by omega), Option.bind_some]
  show scriniumlaw3_RowsTwins.j0 q s n false = some true
  obtain ⟨k, rfl⟩ : ∃ k, q = k + 1 := ⟨q - 1, by omega⟩
  obtain ⟨m, rfl⟩ : ∃ m : Nat, n = m := ⟨n.toNat, by omega⟩
  rw [scriniumlaw3_RowsTwins.j0, if_neg (by simp)]
  exact twins_l0 s m (by omega) (by omega) (by omega) m 0 k (by omega) (Nat.zero_le _) (by omega)
theorem RowsTwins_all (a0 : ByteArray) (a1 : Int) (w : World) (w0 : a0.size ≤ 140737488351232) (w1 : (Lit.int .i64 a1).wf = true) :
    Calls Try.prog 7 #[.string a0, .int .i64 a1] w fun e w' => e = .returned (.bool true) ∧ Below w.heap.size w w' := scriniumlaw3_RowsTwins.walk RowsTwins_pure a0 a1 w w0 w1
end Go.Proofs.Ythoapfagcdbpeaa.P
