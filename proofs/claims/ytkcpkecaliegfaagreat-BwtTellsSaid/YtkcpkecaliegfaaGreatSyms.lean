/- The plain law of Symbols: the symbols ahead of all rows, in their order. Conditions: none. -/
import Derived.Test.YtkcpkecaliegfaaGreatFew
import Derived.Test.YtkcpkecaliegfaaGreatP35
set_option linter.unusedVariables false
set_option linter.unusedSimpArgs false
namespace Go.Proofs.YtkcpkecaliegfaaGreat.P
open Go.RowKit Go.Proofs.YtkcpkecaliegfaaGreatW.PrintWords Go.Proofs.YtkcpkecaliegfaaGreatW.PrintLast Go.Proofs.YtkcpkecaliegfaaGreatW.PrintMore

/-- The symbol ahead of a row. -/
def symAt (l : List ByteArray) (r : S75) : Int := if r.f1 > 0 then bt (docAt l r.f0) (r.f1 - 1) + 1 else 0
def symbolsOf (l : List ByteArray) : List Int := (sortedRows l).map (symAt l)

theorem sortedRows_perm (l : List ByteArray) (h : rightB l = true) : (sortedRows l).Perm (allRows l) := by
 unfold sortedRows
 rw [if_pos h]
 exact List.mergeSort_perm _ _
theorem sortedRows_ok (l : List ByteArray) (r : S75) (hr : r ∈ sortedRows l) : okR l r = true := by
 cases h : rightB l with
 | true => exact allRows_ok l r ((sortedRows_perm l h).mem_iff.1 hr)
 | false =>
  unfold sortedRows at hr
  rw [h] at hr
  cases hr
theorem sortedRows_none (l : List ByteArray) (h : rightB l = false) : sortedRows l = [] := by
 unfold sortedRows
 rw [h]
 rfl
theorem sortedRows_le (l : List ByteArray) : (sortedRows l).length ≤ 410 := by
 cases h : rightB l with
 | true =>
  rw [(sortedRows_perm l h).length_eq]
  have h1 := rowsTo_le h l.length
  have h2 := right_len h
  unfold allRows
  omega
 | false => rw [sortedRows_none l h]; exact Nat.zero_le _
theorem rd_row (xs : List S75) (j : Nat) (h : j < xs.length) : rd_T75 xs (j : Int) = xs[j] := by
 unfold rd_T75
 rw [Int.toNat_natCast, List.getD_eq_getElem?_getD, List.getElem?_eq_getElem h]
 rfl
theorem w64i (n : Int) (h : -9223372036854775808 ≤ n ∧ n ≤ 9223372036854775807) : wrap64 n = n := (i64_w _).symm.trans (IntWalk.i64_in _ (by omega))

theorem of_sym (b : Int) (h : 0 ≤ b ∧ b ≤ 255) : sym_Of.f b = some (b + 1) := by
 unfold sym_Of.f
 rw [w64i b (by omega), w64i (b + 1) (by omega)]
theorem symbols_l (l : List ByteArray) (R : List S75) (hR : ∀ r ∈ R, okR l r = true) (hsz : ∀ d : Int, (docAt l d).size ≤ 140737488351232) (hn : R.length ≤ 410) : ∀ (m j k : Nat), m = R.length - j → j ≤ R.length → m + 1 ≤ k →
  rows_Symbols.l0 k l ((R.take j).map (symAt l)) R (R.length : Int) (j : Int) = some (R.map (symAt l)) := by
 intro m
 induction m with
 | zero =>
  intro j k hm hj hk
  obtain ⟨k1, rfl⟩ : ∃ k1, k = k1 + 1 := ⟨k - 1, by omega⟩
  have : j = R.length := by omega
  subst this
  unfold rows_Symbols.l0
  rw [if_neg (by omega), List.take_length]
 | succ m ih =>
  intro j k hm hj hk
  obtain ⟨k1, rfl⟩ : ∃ k1, k = k1 + 1 := ⟨k - 1, by omega⟩
  have hjl : j < R.length := by omega
  have hrec := ih (j + 1) k1 (by omega) (by omega) (by omega)
  have hj1 : wrap64 ((j : Int) + 1) = ((j + 1 : Nat) : Int) := w64i _ (by omega)
  have hok := hR R[j] (List.getElem_mem hjl)
  obtain ⟨o1, o2, o3, o4⟩ := rowOk_iff.1 hok
  have hs := hsz R[j].f0
  have htl : ((R.take j).map (symAt l)).length < 17592186044416 := by rw [List.length_map, List.length_take]; omega
  have htk : (R.take (j + 1)).map (symAt l) = (R.take j).map (symAt l) ++ [symAt l R[j]] := by
   rw [List.take_succ_eq_append_getElem hjl, List.map_append]
   rfl
  rw [htk] at hrec
  unfold rows_Symbols.l0
  rw [if_pos (by omega), if_pos (by omega), if_pos (by omega), rd_row R j hjl, hj1]
  by_cases h1 : R[j].f1 > 0
  ·have hsy : symAt l R[j] = bt (docAt l R[j].f0) (R[j].f1 - 1) + 1 := by unfold symAt; rw [if_pos h1]
   rw [if_pos h1, if_pos o1, if_pos o2, w64i (R[j].f1 - 1) (by omega), if_pos (show 0 ≤ R[j].f1 - 1 by omega)]
   have h5 : R[j].f1 - 1 < ((docAt l R[j].f0).size : Int) := by omega
   rw [if_pos (show R[j].f1 - 1 < ((rdOf ByteArray.empty l R[j].f0).size : Int) from h5)]
   have hb := bt_range (docAt l R[j].f0) (R[j].f1 - 1)
   have hof : sym_Of.f (bt (docAt l R[j].f0) (R[j].f1 - 1)) = some (symAt l R[j]) := by
    rw [hsy]
    exact of_sym _ hb
   show (sym_Of.f (bt (docAt l R[j].f0) (R[j].f1 - 1))).bind _ = _
   rw [hof]
   show (if ((R.take j).map (symAt l)).length < 17592186044416 then _ else _) = _
   rw [if_pos htl]
   exact hrec
  ·have hsy : symAt l R[j] = 0 := by unfold symAt; rw [if_neg h1]
   rw [if_neg h1, if_pos htl]
   rw [hsy] at hrec
   exact hrec
theorem symbols_ok (l : List ByteArray) (k : Nat) (hk : 411 ≤ k) : rows_Symbols.f k l = some (symbolsOf l) := by
 unfold rows_Symbols.f rows_Sorted.f
 show rows_Symbols.l0 k l [] (sortedRows l) ((sortedRows l).length : Int) 0 = _
 cases h : rightB l with
 | true =>
  have := symbols_l l (sortedRows l) (sortedRows_ok l) (fun d => by have := right_doc h d; omega) (sortedRows_le l) (sortedRows l).length 0 k (by omega) (Nat.zero_le _) (by have := sortedRows_le l; omega)
  exact this
 | false =>
  unfold symbolsOf
  rw [sortedRows_none l h]
  obtain ⟨k1, rfl⟩ : ∃ k1, k = k1 + 1 := ⟨k - 1, by omega⟩
  rfl
theorem symbolsOf_length (l : List ByteArray) : (symbolsOf l).length = (sortedRows l).length := List.length_map ..

theorem rowsTo_length (l : List ByteArray) : ∀ D : Nat, D ≤ l.length → (rowsTo l D).length = D + sumTo (l.take D)
 | 0, _ => rfl
 | D + 1, h => by
  have hd : docAt l (D : Int) = l[D] := rd_doc l D (by omega)
  rw [rowsTo, List.length_append, rowsOf_length, rowsTo_length l D (by omega), sum_take l D (by omega), hd]
  omega
theorem sorted_length (l : List ByteArray) (h : rightB l = true) : (sortedRows l).length = l.length + sumTo l := by
 rw [(sortedRows_perm l h).length_eq]
 unfold allRows
 rw [rowsTo_length l l.length (Nat.le_refl _), List.take_length]
end Go.Proofs.YtkcpkecaliegfaaGreat.P
