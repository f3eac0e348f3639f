/- The plain laws of Docs, Counts, Equal, SameTexts and SameInts; the first call of the statements of bwt. Conditions: lists of at most a thousand symbols. -/
import Derived.Test.YtkcpkecaliegfaaBackB
import Derived.Test.YtkcpkecaliegfaaBwtT
import Derived.Test.YtkcpkecaliegfaaP12
set_option linter.unusedVariables false
set_option linter.unusedSimpArgs false
namespace Go.Proofs.Ytkcpkecaliegfaa.P
open Go.RowKit Go.Proofs.YtkcpkecaliegfaaW.PrintWords Go.Proofs.YtkcpkecaliegfaaW.PrintLast Go.Proofs.YtkcpkecaliegfaaW.PrintMore

theorem take_same {α : Type} (a b : List α) (j : Nat) (hj : j < a.length) (hl : a.length = b.length) : (a.drop j = b.drop j) ↔ (a[j] = b[j]'(by omega) ∧ a.drop (j + 1) = b.drop (j + 1)) := by
  rw [List.drop_eq_getElem_cons hj, List.drop_eq_getElem_cons (show j < b.length by omega), List.cons.injEq]
theorem equal_l (a b : List Int) (hl : a.length = b.length) (hn : a.length ≤ 1000000) : ∀ (m j k : Nat), m = a.length - j → j ≤ a.length → m + 1 ≤ k →
    slices_Equal_int_int.l0 k a b (a.length : Int) (j : Int) = some (decide (a.drop j = b.drop j)) := by
  intro m
  induction m with
  | zero =>
    intro j k hm hj hk
    obtain ⟨k1, rfl⟩ : ∃ k1, k = k1 + 1 := ⟨k - 1, by omega⟩
    rw [slices_Equal_int_int.l0, if_neg (by omega), List.drop_eq_nil_of_le (by omega), List.drop_eq_nil_of_le (by omega)]
    rfl
  | succ m ih =>
    intro j k hm hj hk
    obtain ⟨k1, rfl⟩ : ∃ k1, k = k1 + 1 := ⟨k - 1, by omega⟩
    have hjl : j < a.length := by omega
    have hrec := ih (j + 1) k1 (by omega) (by omega) (by omega)
    have ht := take_same a b j hjl hl
    rw [slices_Equal_int_int.l0, if_pos (by omega), if_pos (by omega), if_pos (by omega), if_pos (by omega), rd_get a j hjl, rd_get b j (by omega), show wrap64 ((j : Int) + 1) = ((j + 1 : Nat) : Int) from w64 (j + 1) (by omega)]
    by_cases h : a[j] = b[j]
    · rw [if_pos h, hrec]
      congr 1
      rw [decide_eq_decide, ht]
      exact ⟨fun h2 => ⟨h, h2⟩, fun h2 => h2.2⟩
    · rw [if_neg h]
      congr 1
      exact (decide_eq_false (fun h2 => h (ht.1 h2).1)).symm
theorem equal_ev (a b : List Int) (hn : a.length ≤ 1000000) : Ev (fun k => slices_Equal_int_int.f k a b) (decide (a = b)) := by
  refine ⟨a.length + 1, fun k hk => ?_⟩
  unfold slices_Equal_int_int.f
  dsimp only
  by_cases hl : a.length = b.length
  · rw [if_pos (by omega)]
    exact equal_l a b hl hn _ 0 k rfl (Nat.zero_le _) (by omega)
  · rw [if_neg (by omega)]
    congr 1
    exact (decide_eq_false (fun h => hl (by rw [h]))).symm
theorem sameInts_l (a b : List Int) (hl : a.length = b.length) (hn : a.length ≤ 1000000) : ∀ (m j k : Nat), m = a.length - j → j ≤ a.length → m + 1 ≤ k →
    scriniumbook_SameInts.l0 k a b (j : Int) = some (decide (a.drop j = b.drop j)) := by
  intro m
  induction m with
  | zero =>
    intro j k hm hj hk
    obtain ⟨k1, rfl⟩ : ∃ k1, k = k1 + 1 := ⟨k - 1, by omega⟩
    rw [scriniumbook_SameInts.l0, if_neg (by omega), List.drop_eq_nil_of_le (by omega), List.drop_eq_nil_of_le (by omega)]
    rfl
  | succ m ih =>
    intro j k hm hj hk
    obtain ⟨k1, rfl⟩ : ∃ k1, k = k1 + 1 := ⟨k - 1, by omega⟩
    have hjl : j < a.length := by omega
    have hrec := ih (j + 1) k1 (by omega) (by omega) (by omega)
    have ht := take_same a b j hjl hl
    rw [scriniumbook_SameInts.l0, if_pos (by omega), if_pos (by omega), if_pos (by omega), rd_get a j hjl, rd_get b j (by omega), show wrap64 ((j : Int) + 1) = ((j + 1 : Nat) : Int) from w64 (j + 1) (by omega)]
    by_cases h : a[j] = b[j]
    · rw [if_pos h, hrec]
      congr 1
      rw [decide_eq_decide, ht]
      exact ⟨fun h2 => ⟨h, h2⟩, fun h2 => h2.2⟩
    · rw [if_neg h]
      congr 1
      exact (decide_eq_false (fun h2 => h (ht.1 h2).1)).symm
theorem sameInts_ev (a b : List Int) (hn : a.length ≤ 1000000) : Ev (fun k => scriniumbook_SameInts.f k a b) (decide (a = b)) := by
  refine ⟨a.length + 1, fun k hk => ?_⟩
  unfold scriniumbook_SameInts.f
  dsimp only
  by_cases hl : a.length = b.length
  · rw [if_pos (by omega)]
    exact sameInts_l a b hl hn _ 0 k rfl (Nat.zero_le _) (by omega)
  · rw [if_neg (by omega)]
    congr 1
    exact (decide_eq_false (fun h => hl (by rw [h]))).symm
theorem toList_inj (s t : ByteArray) : s.toList = t.toList ↔ s = t := by
  rw [ByteArray.toList_eq, ByteArray.toList_eq]
  constructor
  · intro h
    cases s
    cases t
    congr 1
    exact Array.toList_inj.1 h
  · intro h
    rw [h]
theorem sameTexts_l (a b : List ByteArray) (hl : a.length = b.length) (hn : a.length ≤ 1000000) : ∀ (m j k : Nat), m = a.length - j → j ≤ a.length → m + 1 ≤ k →
    scriniumbook_SameTexts.l0 k a b (j : Int) = some (decide (a.drop j = b.drop j)) := by
  intro m
  induction m with
  | zero =>
    intro j k hm hj hk
    obtain ⟨k1, rfl⟩ : ∃ k1, k = k1 + 1 := ⟨k - 1, by omega⟩
    rw [scriniumbook_SameTexts.l0, if_neg (by omega), List.drop_eq_nil_of_le (by omega), List.drop_eq_nil_of_le (by omega)]
    congr 1
  | succ m ih =>
    intro j k hm hj hk
    obtain ⟨k1, rfl⟩ : ∃ k1, k = k1 + 1 := ⟨k - 1, by omega⟩
    have hjl : j < a.length := by omega
    have hrec := ih (j + 1) k1 (by omega) (by omega) (by omega)
    have ht := take_same a b j hjl hl
    rw [scriniumbook_SameTexts.l0, if_pos (by omega), if_pos (by omega), if_pos (by omega), rd_doc a j hjl, rd_doc b j (by omega), show wrap64 ((j : Int) + 1) = ((j + 1 : Nat) : Int) from w64 (j + 1) (by omega)]
    by_cases h : a[j] = b[j]
    · rw [if_pos ((toList_inj _ _).2 h), hrec]
      congr 1
      rw [decide_eq_decide, ht]
      exact ⟨fun h2 => ⟨h, h2⟩, fun h2 => h2.2⟩
    · rw [if_neg (fun h2 => h ((toList_inj _ _).1 h2))]
      congr 1
      exact (decide_eq_false (fun h2 => h (ht.1 h2).1)).symm
theorem sameTexts_ev (a b : List ByteArray) (hn : b.length ≤ 1000000) : Ev (fun k => scriniumbook_SameTexts.f k a b) (decide (a = b)) := by
  refine ⟨a.length + 1, fun k hk => ?_⟩
  unfold scriniumbook_SameTexts.f
  dsimp only
  by_cases hl : a.length = b.length
  · rw [if_pos (by omega)]
    exact sameTexts_l a b hl (by omega) _ 0 k rfl (Nat.zero_le _) (by omega)
  · rw [if_neg (by omega)]
    congr 1
    exact (decide_eq_false (fun h => hl (by rw [h]))).symm

theorem wf_range (x : Int) (h : (Lit.int .i64 x).wf = true) : -9223372036854775808 ≤ x ∧ x ≤ 9223372036854775807 := by
  simp only [Lit.wf, Bool.and_eq_true, decide_eq_true_eq] at h
  have h1 : IntKind.i64.min = -9223372036854775808 := by decide
  have h2 : IntKind.i64.max = 9223372036854775807 := by decide
  omega

/-! ### Docs -/
theorem text_f (s : List Int) (hn : s.length ≤ 1000000) (d : Int) : bwt_Text.f d s = some (textB s d) := if_pos hn
def outOf (s : List Int) (D : Nat) : List ByteArray := (List.range D).map fun d : Nat => (textB s (d : Int)).1
theorem out_succ (s : List Int) (D : Nat) : outOf s (D + 1) = outOf s D ++ [(textB s (D : Int)).1] := by
  unfold outOf
  rw [List.range_succ, List.map_append]
  rfl
theorem out_length (s : List Int) (D : Nat) : (outOf s D).length = D := by unfold outOf; rw [List.length_map, List.length_range]
def lastOf (s : List Int) (out : List ByteArray) : List ByteArray × Bool := if symbolsOf out = s then (out, true) else ([], false)
theorem docs_end (s : List Int) (out : List ByteArray) : Ev (fun k => (rows_Symbols.f k out).bind fun t263 => ((slices_Equal_int_int.f k t263 s).bind fun t266 => (if t266 = true then (some (out, true)) else (some (([] : List ByteArray), false))))) (lastOf s out) := by
  have hs := symbols_le out
  refine Ev.bind (symbols_ev out) (Ev.bind (equal_ev _ s (by omega)) ?_)
  unfold lastOf
  by_cases h : symbolsOf out = s
  · rw [if_pos h]
    exact ev_if (decide_eq_true h) (Ev.now _)
  · rw [if_neg h]
    exact ev_else (by rw [decide_eq_false h]; decide) (Ev.now _)
theorem docs_all (s : List Int) (hn : s.length ≤ 1000000) (R : Nat) (hR : R ≤ s.length) (hok : ∀ d : Nat, d < R → (textB s (d : Int)).2 = true) : ∀ (m D : Nat), m = R - D → D ≤ R →
    Ev (fun k => bwt_Docs.l0 k s (outOf s D) (R : Int) (D : Int)) (lastOf s (outOf s R)) := by
  intro m
  induction m with
  | zero =>
    intro D hm hD
    obtain rfl : D = R := by omega
    refine Ev.step (fun k => ?_) (docs_end s (outOf s D))
    rw [bwt_Docs.l0, if_neg (by omega)]
  | succ m ih =>
    intro D hm hD
    have hrec := ih (D + 1) (by omega) (by omega)
    have hol := out_length s D
    refine Ev.step (fun k => ?_) hrec
    rw [bwt_Docs.l0, if_pos (by omega), text_f s hn, Option.bind_some, if_pos (hok D (by omega)), if_pos (by omega), ← out_succ, show wrap64 ((D : Int) + 1) = ((D + 1 : Nat) : Int) from w64 (D + 1) (by omega)]
theorem docs_bad (s : List Int) (hn : s.length ≤ 1000000) (R : Nat) (hR : R ≤ s.length) (b : Nat) (hb : b < R) (hbad : (textB s (b : Int)).2 = false) : ∀ (m D : Nat), m = b - D → D ≤ b →
    Ev (fun k => bwt_Docs.l0 k s (outOf s D) (R : Int) (D : Int)) ([], false) := by
  intro m
  induction m with
  | zero =>
    intro D hm hD
    obtain rfl : D = b := by omega
    refine Ev.step (f := fun _ => some (([] : List ByteArray), false)) (fun k => ?_) (Ev.now _)
    rw [bwt_Docs.l0, if_pos (by omega), text_f s hn, Option.bind_some, if_neg (by rw [hbad]; decide)]
  | succ m ih =>
    intro D hm hD
    have hrec := ih (D + 1) (by omega) (by omega)
    have hol := out_length s D
    cases hT : (textB s (D : Int)).2 with
    | true =>
      refine Ev.step (fun k => ?_) hrec
      rw [bwt_Docs.l0, if_pos (by omega), text_f s hn, Option.bind_some, if_pos hT, if_pos (by omega), ← out_succ, show wrap64 ((D : Int) + 1) = ((D + 1 : Nat) : Int) from w64 (D + 1) (by omega)]
    | false =>
      refine Ev.step (f := fun _ => some (([] : List ByteArray), false)) (fun k => ?_) (Ev.now _)
      rw [bwt_Docs.l0, if_pos (by omega), text_f s hn, Option.bind_some, if_neg (by rw [hT]; decide)]
theorem rank_ev (s : List Int) (hn : s.length ≤ 1000000) (hc : colB s = true) (x : Int) (i : Nat) (hi : i ≤ s.length) : Ev (fun k => bwt_Rank.f k x (i : Int) s) (rank x i s : Int) :=
  ⟨s.length + 1, fun k hk => by
    show bwt_Rank.f k x (i : Int) s = _
    rw [rank_ok s x i hn k hk, hc, if_pos rfl, clamp_nat _ _ hi]⟩
/-- Docs, whatever the symbols: nothing, or documents that have them. -/
theorem docs_any (s : List Int) (hn : s.length ≤ 1000000) : ∃ r, Ev (fun k => bwt_Docs.f k s) r ∧ (r = ([], false) ∨ ∃ d, r = (d, true) ∧ symbolsOf d = s) := by
  have hcf : bwt_Right.f s = some (colB s) := col_f s hn
  unfold bwt_Docs.f
  rw [hcf]
  cases hc : colB s with
  | false => exact ⟨([], false), ev_some (ev_else (by decide) (Ev.now _)), Or.inl rfl⟩
  | true =>
    have hR := rank_le 0 s.length s
    by_cases hok : ∀ d : Nat, d < rank 0 s.length s → (textB s (d : Int)).2 = true
    · refine ⟨lastOf s (outOf s (rank 0 s.length s)), ev_some (ev_if rfl (Ev.bind (rank_ev s hn hc 0 _ (Nat.le_refl _)) (docs_all s hn _ hR hok _ 0 rfl (Nat.zero_le _)))), ?_⟩
      unfold lastOf
      by_cases h : symbolsOf (outOf s (rank 0 s.length s)) = s
      · rw [if_pos h]; exact Or.inr ⟨_, rfl, h⟩
      · rw [if_neg h]; exact Or.inl rfl
    · obtain ⟨b, hb, hbad⟩ : ∃ b : Nat, b < rank 0 s.length s ∧ (textB s (b : Int)).2 = false := by
        by_cases h : ∃ b : Nat, b < rank 0 s.length s ∧ (textB s (b : Int)).2 = false
        · exact h
        · exact absurd (fun d hd => by
            cases hT : (textB s ((d : Nat) : Int)).2 with
            | true => rfl
            | false => exact absurd ⟨d, hd, hT⟩ h) hok
      exact ⟨([], false), ev_some (ev_if rfl (Ev.bind (rank_ev s hn hc 0 _ (Nat.le_refl _)) (docs_bad s hn _ hR b hb hbad _ 0 rfl (Nat.zero_le _)))), Or.inl rfl⟩
theorem str_bytes (s : ByteArray) : strOfNums (bytesOf s) = s := by
  unfold strOfNums bytesOf
  cases s with
  | mk d =>
    congr 1
    rw [List.map_map]
    have : ((fun n : Int => UInt8.ofNat n.toNat) ∘ fun b : UInt8 => (b.toNat : Int)) = id := by
      funext b
      show UInt8.ofNat ((b.toNat : Int)).toNat = b
      rw [Int.toNat_natCast]
      exact UInt8.ofNat_toNat
    rw [this, List.map_id]
theorem text_back (l : List ByteArray) (hl : rightB l = true) (d : Nat) (hd : d < l.length) : textB (symbolsOf l) (d : Int) = (l[d], true) := by
  unfold textB
  rw [if_pos ⟨col_symbols l, by omega, by rw [rank_zero l hl]; omega⟩, Int.toNat_natCast, text_doc l hl d hd]
  show (strOfNums (bytesOf l[d]), true) = (l[d], true)
  rw [str_bytes]
theorem out_back (l : List ByteArray) (hl : rightB l = true) : outOf (symbolsOf l) l.length = l := by
  apply List.ext_getElem
  · rw [out_length]
  · intro d h1 h2
    simp only [outOf, List.getElem_map, List.getElem_range]
    rw [text_back l hl d h2]
/-- The documents of the symbols of documents are these. -/
theorem docs_back (l : List ByteArray) (hl : rightB l = true) : Ev (fun k => bwt_Docs.f k (symbolsOf l)) (l, true) := by
  have hn := symbols_le l
  have hc := col_symbols l
  have hcf : bwt_Right.f (symbolsOf l) = some (colB (symbolsOf l)) := col_f _ (by omega)
  have hrz := rank_zero l hl
  have hR := rank_le 0 (symbolsOf l).length (symbolsOf l)
  unfold bwt_Docs.f
  rw [hcf, hc]
  have h := docs_all (symbolsOf l) (by omega) l.length (by omega) (fun d hd => by rw [text_back l hl d hd]) _ 0 rfl (Nat.zero_le _)
  rw [out_back l hl] at h
  refine ev_some (ev_if rfl (Ev.bind (rank_ev _ (by omega) hc 0 _ (Nat.le_refl _)) ?_))
  rw [hrz]
  refine ev_is h ?_
  unfold lastOf
  rw [if_pos rfl]

/-! ### Counts -/
def countsOf (s : List Int) : List Int := (List.range 257).map fun v : Nat => ((s.countP (fun y => decide (y = (v : Int))) : Nat) : Int)
theorem counts_set (s : List Int) (x : Int) (h0 : 0 ≤ x) (h1 : x < 257) : (countsOf s).set x.toNat (rd (countsOf s) x + 1) = countsOf (s ++ [x]) := by
  have hlen : ∀ t, (countsOf t).length = 257 := fun t => by unfold countsOf; rw [List.length_map, List.length_range]
  have hget : ∀ (t : List Int) (v : Nat) (hv : v < (countsOf t).length), (countsOf t)[v] = ((t.countP (fun y => decide (y = (v : Int))) : Nat) : Int) := fun t v hv => by
    simp only [countsOf, List.getElem_map, List.getElem_range]
  apply List.ext_getElem
  · rw [List.length_set, hlen, hlen]
  · intro v hv1 hv2
    rw [List.getElem_set, hget s, hget (s ++ [x]), List.countP_append, List.countP_cons, List.countP_nil, Nat.zero_add]
    by_cases h : x.toNat = v
    · rw [if_pos h]
      have hx : x = (v : Int) := by omega
      subst hx
      rw [if_pos (decide_eq_true rfl), rd_get _ v (by rw [hlen]; omega), hget]
      omega
    · rw [if_neg h]
      rw [if_neg (by simp; omega)]
      rfl
theorem counts_l (s : List Int) (hn : s.length ≤ 1000000) (hc : colB s = true) : ∀ (m j k : Nat), m = s.length - j → j ≤ s.length → m + 1 ≤ k →
    bwt_Counts.l0 k (countsOf (s.take j)) s (s.length : Int) (j : Int) = some (countsOf s) := by
  intro m
  induction m with
  | zero =>
    intro j k hm hj hk
    obtain ⟨k1, rfl⟩ : ∃ k1, k = k1 + 1 := ⟨k - 1, by omega⟩
    obtain rfl : j = s.length := by omega
    rw [bwt_Counts.l0, if_neg (by omega), List.take_length]
  | succ m ih =>
    intro j k hm hj hk
    obtain ⟨k1, rfl⟩ : ∃ k1, k = k1 + 1 := ⟨k - 1, by omega⟩
    have hjl : j < s.length := by omega
    have hrec := ih (j + 1) k1 (by omega) (by omega) (by omega)
    have hsy := col_sym s hc j hjl
    rw [symOf_get s j hjl] at hsy
    have hset := counts_set (s.take j) s[j] hsy.1 (by omega)
    rw [← List.take_succ_eq_append_getElem hjl] at hset
    rw [← hset] at hrec
    have hlen : (countsOf (s.take j)).length = 257 := by unfold countsOf; rw [List.length_map, List.length_range]
    have hrd : 0 ≤ rd (countsOf (s.take j)) s[j] ∧ rd (countsOf (s.take j)) s[j] ≤ 1000000 := by
      obtain ⟨v, hv⟩ : ∃ v : Nat, s[j] = (v : Int) := ⟨s[j].toNat, by omega⟩
      rw [hv, rd_get _ v (by rw [hlen]; omega)]
      simp only [countsOf, List.getElem_map, List.getElem_range]
      have h1 : (s.take j).countP (fun y => decide (y = (v : Int))) ≤ (s.take j).length := List.countP_le_length
      have h2 : (s.take j).length ≤ j := List.length_take_le _ _
      omega
    rw [bwt_Counts.l0, if_pos (by omega), if_pos (by omega), if_pos (by omega), rd_get s j hjl, if_pos hsy.1, if_pos (by omega), show wrap64 ((j : Int) + 1) = ((j + 1 : Nat) : Int) from w64 (j + 1) (by omega), w64i _ (by omega)]
    exact hrec
theorem counts_zero : List.replicate 257 (0 : Int) = countsOf [] := by
  apply List.ext_getElem
  · rw [List.length_replicate]
    unfold countsOf
    rw [List.length_map, List.length_range]
  · intro v h1 h2
    simp only [countsOf, List.getElem_replicate, List.getElem_map, List.countP_nil]
    rfl
theorem counts_ev (s : List Int) (hn : s.length ≤ 1000000) : Ev (fun k => bwt_Counts.f k s) (if colB s = true then countsOf s else []) := by
  refine ⟨s.length + 1, fun k hk => ?_⟩
  unfold bwt_Counts.f
  dsimp only
  rw [col_f s hn, Option.bind_some]
  by_cases hc : colB s = true
  · rw [if_pos hc, if_pos hc, if_pos (by decide), counts_zero]
    exact counts_l s hn hc _ 0 k rfl (Nat.zero_le _) (by omega)
  · rw [if_neg hc, if_neg hc]

/-! ### the first call -/
theorem ab_right : rightB [(⟨#[97, 98]⟩ : ByteArray)] = true := by decide +kernel
theorem sorted_ab4 : sortedRows [(⟨#[97, 98]⟩ : ByteArray)] = [⟨0, 2⟩, ⟨0, 0⟩, ⟨0, 1⟩] := by
  refine (sorted_unique _ (by decide) _ ?_ ?_).symm
  · have h : allRows [(⟨#[97, 98]⟩ : ByteArray)] = [⟨0, 0⟩, ⟨0, 1⟩, ⟨0, 2⟩] := by rfl
    rw [h]
    exact (List.perm_append_comm (l₁ := [(⟨0, 2⟩ : S34)]) (l₂ := [⟨0, 0⟩, ⟨0, 1⟩]))
  · have h1 : ltB [(⟨#[97, 98]⟩ : ByteArray)] ⟨0, 0⟩ ⟨0, 2⟩ = false := by decide
    have h2 : ltB [(⟨#[97, 98]⟩ : ByteArray)] ⟨0, 1⟩ ⟨0, 2⟩ = false := by decide
    have h3 : ltB [(⟨#[97, 98]⟩ : ByteArray)] ⟨0, 1⟩ ⟨0, 0⟩ = false := by decide
    simp [h1, h2, h3]
theorem symbols_ab4 : symbolsOf [(⟨#[97, 98]⟩ : ByteArray)] = [99, 0, 98] := by
  unfold symbolsOf
  rw [sorted_ab4]
  decide +kernel
theorem alive4_ev : Ev (fun k => scriniumlaw4_alive.f k) true := by
  unfold scriniumlaw4_alive.f
  have h1 := docs_back [(⟨#[97, 98]⟩ : ByteArray)] ab_right
  rw [symbols_ab4] at h1
  have hcol : colB [99, 0, 98] = true := by decide
  have hsym : symOf [99, 0, 98] 0 ≠ 0 := by decide
  have hnx : nextOf [99, 0, 98] 0 = 2 := by decide
  have h2 : Ev (fun k => bwt_Next.f k 0 [99, 0, 98]) ((2 : Int), true) := ⟨5, fun k hk => by
    have := next_ok [99, 0, 98] (by decide) 0 (by decide) hcol hsym k hk
    rw [hnx] at this
    exact this⟩
  have h3 : Ev (fun k => bwt_Rank.f k 0 3 [99, 0, 98]) (1 : Int) := by
    have := rank_ev [99, 0, 98] (by decide) hcol 0 3 (by decide)
    exact this
  refine Ev.bind h1 (Ev.bind h2 (ev_if rfl ?_))
  refine Ev.bind (sameTexts_ev _ _ (by decide)) (ev_if (decide_eq_true rfl) (ev_if rfl (ev_if rfl ?_)))
  refine Ev.bind h3 (ev_if rfl ?_)
  refine Ev.bind (counts_ev [1] (by decide)) ?_
  have : (if colB [1] = true then countsOf [1] else []).length = 257 := by decide +kernel
  rw [this]
  exact Ev.now _
end Go.Proofs.Ytkcpkecaliegfaa.P
