/- The document's symbols ahead of all rows are those of package rows. Conditions: the list is not too long. -/
import Derived.Test.YtkcpkecaliegfaaGreatSyms
import Derived.Test.YtkcpkecaliegfaaGreatRefS
import Derived.Test.YtkcpkecaliegfaaGreatP39
set_option linter.unusedVariables false
set_option linter.unusedSimpArgs false
namespace Go.Proofs.YtkcpkecaliegfaaGreat.P
open Go.RowKit Go.Proofs.YtkcpkecaliegfaaGreatW.PrintWords Go.Proofs.YtkcpkecaliegfaaGreatW.PrintLast Go.Proofs.YtkcpkecaliegfaaGreatW.PrintMore

theorem refSyms_l (l : List ByteArray) (R : List S75) (hR : ∀ r ∈ R, okR l r = true) (hsz : ∀ d : Int, (docAt l d).size ≤ 140737488351232) (hn : R.length ≤ 410) : ∀ (m j k : Nat), m = R.length - j → j ≤ R.length → m + 1 ≤ k →
  scriniumref1_Symbols.l0 k l R ((R.take j).map (symAt l)) (j : Int) = some (R.map (symAt l)) := by
 intro m
 induction m with
 | zero =>
  intro j k hm hj hk
  obtain ⟨k1, rfl⟩ : ∃ k1, k = k1 + 1 := ⟨k - 1, by omega⟩
  have : j = R.length := by omega
  subst this
  rw [scriniumref1_Symbols.l0, if_neg (by omega), List.take_length]
 | succ m ih =>
  intro j k hm hj hk
  obtain ⟨k1, rfl⟩ : ∃ k1, k = k1 + 1 := ⟨k - 1, by omega⟩
  have hjl : j < R.length := by omega
  have hrec := ih (j + 1) k1 (by omega) (by omega) (by omega)
  have hj1 : wrap64 ((j : Int) + 1) = ((j + 1 : Nat) : Int) := w64i _ (by omega)
  have hok := hR R[j] (List.getElem_mem hjl)
  obtain ⟨o1, o2, o3, o4⟩ := rowOk_iff.1 hok
  have hs := hsz R[j].f0
  have htl : ((R.take j).map (symAt l)).length < 17592186044416 := by rw [List.length_map, List.length_take]; omega
  have htk : (R.take (j + 1)).map (symAt l) = (R.take j).map (symAt l) ++ [symAt l R[j]] := by
   rw [List.take_succ_eq_append_getElem hjl, List.map_append]
   rfl
  rw [htk] at hrec
  rw [scriniumref1_Symbols.l0, if_pos (by omega), if_pos (by omega), rd_row R j hjl, hj1]
  by_cases h1 : R[j].f1 = 0
  ·have hsy : symAt l R[j] = 0 := by unfold symAt; rw [if_neg (by omega)]
   rw [if_pos h1, if_pos htl]
   rw [hsy] at hrec
   exact hrec
  ·have hsy : symAt l R[j] = bt (docAt l R[j].f0) (R[j].f1 - 1) + 1 := by unfold symAt; rw [if_pos (by omega)]
   have h5 : R[j].f1 - 1 < ((docAt l R[j].f0).size : Int) := by omega
   have hb := bt_range (docAt l R[j].f0) (R[j].f1 - 1)
   rw [if_neg h1, if_pos o1, if_pos o2, w64i (R[j].f1 - 1) (by omega), if_pos (show 0 ≤ R[j].f1 - 1 by omega), if_pos (show R[j].f1 - 1 < ((rdOf ByteArray.empty l R[j].f0).size : Int) from h5), if_pos htl]
   rw [show wrap64 (wrap64 (bt (rdOf ByteArray.empty l R[j].f0) (R[j].f1 - 1)) + 1) = symAt l R[j] from by
    rw [hsy, show rdOf ByteArray.empty l R[j].f0 = docAt l R[j].f0 from rfl, w64i (bt _ _) (by omega), w64i _ (by omega)]]
   exact hrec
theorem refSyms_ok (l : List ByteArray) (hl : l.length ≤ 1000000) (k : Nat) (hk : 411 ≤ k) : scriniumref1_Symbols.f k l = some (symbolsOf l) := by
 unfold scriniumref1_Symbols.f scriniumref1_Sorted.f
 rw [if_pos hl]
 show scriniumref1_Symbols.l0 k l (sortedRows l) [] 0 = _
 cases h : rightB l with
 | true => exact refSyms_l l (sortedRows l) (sortedRows_ok l) (fun d => by have := right_doc h d; omega) (sortedRows_le l) (sortedRows l).length 0 k (by omega) (Nat.zero_le _) (by have := sortedRows_le l; omega)
 | false =>
  unfold symbolsOf
  rw [sortedRows_none l h]
  obtain ⟨k1, rfl⟩ : ∃ k1, k = k1 + 1 := ⟨k - 1, by omega⟩
  rfl
end Go.Proofs.YtkcpkecaliegfaaGreat.P
