/- What the document's Next, Text and Docs compute: the same as package bwt's, of every symbols. Conditions: the list is not too long. -/
import Derived.Test.YtkcpkecaliegfaaGreatRefBwt
import Derived.Test.YtkcpkecaliegfaaGreatRefSyms
import Derived.Test.YtkcpkecaliegfaaGreatBwtC
import Derived.Test.YtkcpkecaliegfaaGreatPf
import Derived.Test.YtkcpkecaliegfaaGreatP40
set_option linter.unusedVariables false
set_option linter.unusedSimpArgs false
namespace Go.Proofs.YtkcpkecaliegfaaGreat.P
open Go.RowKit Go.Proofs.YtkcpkecaliegfaaGreatW.PrintWords Go.Proofs.YtkcpkecaliegfaaGreatW.PrintLast Go.Proofs.YtkcpkecaliegfaaGreatW.PrintMore

/-- The row that is one byte longer, of every symbols. -/
def nextI (s : List Int) (i : Int) : Int × Bool := if colB s = true ∧ 0 ≤ i ∧ i < (s.length : Int) ∧ rd s i ≠ 0 then ((nextOf s i.toNat : Int), true) else (0, false)
theorem next_any (s : List Int) (i : Int) (hn : s.length ≤ 1000000) : Ev (fun k => bwt_Next.f k i s) (nextI s i) := by
 unfold nextI
 by_cases h : colB s = true ∧ 0 ≤ i ∧ i < (s.length : Int) ∧ rd s i ≠ 0
 ·rw [if_pos h]
  obtain ⟨hc, h0, h1, h2⟩ := h
  obtain ⟨n, rfl⟩ : ∃ n : Nat, i = (n : Int) := ⟨i.toNat, by omega⟩
  rw [Int.toNat_natCast]
  exact ⟨s.length + 2, fun k hk => next_ok s hn n (by omega) hc (by rw [symOf_get s n (by omega), ← rd_get s n (by omega)]; exact h2) k hk⟩
 ·rw [if_neg h]
  refine ⟨1, fun k hk => next_none s hn i ?_ k hk⟩
  by_cases h1 : colB s = true
  ·by_cases h2 : 0 ≤ i
   ·by_cases h3 : i < (s.length : Int)
    ·by_cases h4 : rd s i = 0
     ·exact Or.inr (Or.inr (Or.inr h4))
     ·exact absurd ⟨h1, h2, h3, h4⟩ h
    ·exact Or.inr (Or.inr (Or.inl (by omega)))
   ·exact Or.inr (Or.inl (by omega))
  ·exact Or.inl (by simpa using h1)
theorem refNext_ev (s : List Int) (i : Int) (hn : s.length ≤ 1000000) : Ev (fun k => scriniumref1_Next.f k i s) (nextI s i) := by
 have hno : Ev (fun k => scriniumref1_Next.j0 k i s true) ((0 : Int), false) := by
  refine Ev.step (f := fun _ => some ((0 : Int), false)) (fun k => ?_) (Ev.now _)
  rw [scriniumref1_Next.j0, if_pos rfl]
 refine Ev.congr (f := fun k => (scriniumref1_Column.f k s).bind fun t246 => (if t246 = true then (if i < 0 then (scriniumref1_Next.j0 k i s true) else (if i ≥ (s.length : Int) then (scriniumref1_Next.j0 k i s true) else (if 0 ≤ i then (if i < (s.length : Int) then (scriniumref1_Next.j0 k i s ((rd s i) == 0)) else (none)) else (none)))) else (scriniumref1_Next.j0 k i s true))) (fun k => rfl) (Ev.bind (refCol_ev s hn) ?_)
 unfold nextI
 cases hc : colB s with
 | false =>
  rw [if_neg (by simp)]
  exact ev_else (by decide) hno
 | true =>
  refine ev_if rfl ?_
  by_cases h1 : i < 0
  ·rw [if_neg (by omega)]
   exact ev_if h1 hno
  refine ev_else h1 ?_
  by_cases h2 : i ≥ (s.length : Int)
  ·rw [if_neg (by omega)]
   exact ev_if h2 hno
  refine ev_else h2 (ev_if (by omega) (ev_if (by omega) ?_))
  by_cases h3 : rd s i = 0
  ·rw [if_neg (fun h => h.2.2.2 h3), h3]
   exact hno
  ·rw [if_pos ⟨rfl, by omega, by omega, h3⟩, beq_eq_false_iff_ne.2 h3]
   obtain ⟨n, rfl⟩ : ∃ n : Nat, i = (n : Int) := ⟨i.toNat, by omega⟩
   have hni : n < s.length := by omega
   have hr : rd s (n : Int) = symOf s n := by rw [rd_get s n hni, symOf_get s n hni]
   have hlt := before_rank_lt s n hni
   have B := refBefore_ev s (rd s (n : Int)) hn
   have R := refRank_ev s (rd s (n : Int)) (n : Int) hn
   rw [hc, if_pos rfl] at B R
   refine Ev.step (f := fun k => (scriniumref1_Before.f k (rd s (n : Int)) s).bind fun t249 => ((scriniumref1_Rank.f k (rd s (n : Int)) (n : Int) s).bind fun t251 => (some (wrap64 (t249 + t251), true)))) (fun k => ?_) (Ev.bind B (Ev.bind R ?_))
   ·rw [scriniumref1_Next.j0, if_neg (by decide), if_pos (by omega), if_pos (by omega)]
   ·rw [hr, clamp_nat _ _ (by omega), ← Int.natCast_add, Int.toNat_natCast]
    unfold nextOf at hlt ⊢
    rw [w64 _ (by omega)]
    exact Ev.now _
theorem strOf_cons (x : Int) (xs : List Int) : strOfNums [x] ++ strOfNums xs = strOfNums (x :: xs) := by
 unfold strOfNums
 apply ByteArray.ext
 rw [ByteArray.data_append]
 apply Array.ext'
 simp
theorem strOf_size (xs : List Int) : (strOfNums xs).size = xs.length := by
 unfold strOfNums
 show (List.toArray _).size = _
 simp
theorem refText_l (s : List Int) (hn : s.length ≤ 1000000) (hc : colB s = true) : ∀ (m k at_ : Nat) (acc : List Int), m = s.length - k → k ≤ s.length → at_ < s.length → acc.length ≤ k →
  Ev (fun f => scriniumref1_Text.l0 f s (strOfNums acc) (at_ : Int) (k : Int)) (textR (textGo s m at_ acc)) := by
 have hstep : ∀ (k at_ : Nat) (acc : List Int) (r : ByteArray × Bool), k ≤ s.length → at_ < s.length → acc.length ≤ k → ¬ symOf s at_ < 1 → Ev (fun f => scriniumref1_Text.l0 f s (strOfNums ((symOf s at_ - 1) :: acc)) (nextOf s at_ : Int) ((k + 1 : Nat) : Int)) r → Ev (fun f => scriniumref1_Text.l0 f s (strOfNums acc) (at_ : Int) (k : Int)) r := by
  intro k at_ acc r hk ha hl hsy hr
  have hcs := col_sym s hc at_ ha
  have hrd : rd s (at_ : Int) = symOf s at_ := by rw [rd_get s at_ ha, symOf_get s at_ ha]
  have hnx : nextI s (at_ : Int) = ((nextOf s at_ : Int), true) := by
   unfold nextI
   rw [if_pos ⟨hc, by omega, by omega, by rw [hrd]; omega⟩, Int.toNat_natCast]
  have hb : wrap64 (symOf s at_ - 1) % 256 = symOf s at_ - 1 := by rw [w64i _ (by omega)]; omega
  have hN := refNext_ev s (at_ : Int) hn
  rw [hnx] at hN
  refine Ev.step (f := fun f => (scriniumref1_Next.f f (at_ : Int) s).bind fun bt => scriniumref1_Text.l0 f s (strOfNums ((symOf s at_ - 1) :: acc)) bt.1 ((k + 1 : Nat) : Int)) (fun f => ?_) (Ev.bind hN hr)
  rw [scriniumref1_Text.l0, if_pos (by omega), if_pos (by omega), if_pos (by omega), hrd, if_neg (by omega), Option.bind_some, hb, if_pos (by rw [strOf_size, strOf_size, List.length_singleton]; omega), strOf_cons, show wrap64 ((k : Int) + 1) = ((k + 1 : Nat) : Int) from w64 (k + 1) (by omega)]
 have hend : ∀ (k at_ : Nat) (acc : List Int) (m : Nat), k ≤ s.length → at_ < s.length → symOf s at_ < 1 → Ev (fun f => scriniumref1_Text.l0 f s (strOfNums acc) (at_ : Int) (k : Int)) (textR (textGo s m at_ acc)) := by
  intro k at_ acc m hk ha hsy
  have hcs := col_sym s hc at_ ha
  have hrd : rd s (at_ : Int) = symOf s at_ := by rw [rd_get s at_ ha, symOf_get s at_ ha]
  rw [text_end s at_ m acc hsy]
  refine Ev.step (f := fun _ => some (strOfNums acc, true)) (fun f => ?_) (Ev.now _)
  rw [scriniumref1_Text.l0, if_pos (by omega), if_pos (by omega), if_pos (by omega), hrd, if_pos (by omega)]
 intro m
 induction m with
 | zero =>
  intro k at_ acc hm hk ha hl
  obtain rfl : k = s.length := by omega
  by_cases hsy : symOf s at_ < 1
  ·exact hend _ _ _ _ hk ha hsy
  ·rw [text_zero s at_ acc hsy]
   refine hstep _ _ _ _ hk ha hl hsy ?_
   refine Ev.step (f := fun _ => some ((⟨#[]⟩ : ByteArray), false)) (fun f => ?_) (Ev.now _)
   rw [scriniumref1_Text.l0, if_neg (by omega)]
 | succ m ih =>
  intro k at_ acc hm hk ha hl
  by_cases hsy : symOf s at_ < 1
  ·exact hend _ _ _ _ hk ha hsy
  ·rw [text_step s at_ m acc hsy]
   exact hstep _ _ _ _ hk ha hl hsy (ih (k + 1) (nextOf s at_) _ (by omega) (by omega) (before_rank_lt s at_ ha) (by rw [List.length_cons]; omega))
theorem refText_ev (s : List Int) (d : Int) (hn : s.length ≤ 1000000) : Ev (fun k => scriniumref1_Text.f k d s) (textB s d) := by
 have hno : Ev (fun k => scriniumref1_Text.j0 k d s true) ((⟨#[]⟩ : ByteArray), false) := by
  refine Ev.step (f := fun _ => some ((⟨#[]⟩ : ByteArray), false)) (fun k => ?_) (Ev.now _)
  rw [scriniumref1_Text.j0, if_pos rfl]
 refine Ev.congr (f := fun k => (scriniumref1_Column.f k s).bind fun t252 => (if t252 = true then (if d < 0 then (scriniumref1_Text.j0 k d s true) else ((scriniumref1_Rank.f k 0 (s.length : Int) s).bind fun t253 => (scriniumref1_Text.j0 k d s (decide (d ≥ t253))))) else (scriniumref1_Text.j0 k d s true))) (fun k => rfl) (Ev.bind (refCol_ev s hn) ?_)
 unfold textB
 cases hc : colB s with
 | false =>
  rw [if_neg (by simp)]
  exact ev_else (by decide) hno
 | true =>
  refine ev_if rfl ?_
  by_cases h1 : d < 0
  ·rw [if_neg (by omega)]
   exact ev_if h1 hno
  refine ev_else h1 ?_
  have R := refRank_ev s 0 (s.length : Int) hn
  rw [hc, if_pos rfl, clamp_nat _ _ (Nat.le_refl _)] at R
  refine Ev.bind R ?_
  by_cases h2 : d ≥ (rank 0 s.length s : Int)
  ·rw [if_neg (by omega), decide_eq_true h2]
   exact hno
  ·rw [if_pos ⟨rfl, by omega, by omega⟩, decide_eq_false h2]
   have hle := rank_le 0 s.length s
   have := refText_l s hn hc s.length 0 d.toNat [] rfl (Nat.zero_le _) (by omega) (Nat.le_refl _)
   rw [show ((d.toNat : Nat) : Int) = d by omega] at this
   refine Ev.step (fun k => ?_) this
   rw [scriniumref1_Text.j0, if_neg (by decide)]
   rfl
def docsB (s : List Int) : List ByteArray × Bool := if colB s = true ∧ ∀ d : Nat, d < rank 0 s.length s → (textB s (d : Int)).2 = true then lastOf s (outOf s (rank 0 s.length s)) else ([], false)
theorem bad_there {s : List Int} (h : ¬ ∀ d : Nat, d < rank 0 s.length s → (textB s (d : Int)).2 = true) : ∃ b : Nat, b < rank 0 s.length s ∧ (textB s (b : Int)).2 = false := by
 by_cases h2 : ∃ b : Nat, b < rank 0 s.length s ∧ (textB s (b : Int)).2 = false
 ·exact h2
 ·exact absurd (fun d hd => by
   cases hT : (textB s ((d : Nat) : Int)).2 with
   | true => rfl
   | false => exact absurd ⟨d, hd, hT⟩ h2) h
theorem docs_ev (s : List Int) (hn : s.length ≤ 1000000) : Ev (fun k => bwt_Docs.f k s) (docsB s) := by
 have hcf : bwt_Right.f s = some (colB s) := col_f s hn
 unfold bwt_Docs.f docsB
 rw [hcf]
 cases hc : colB s with
 | false => rw [if_neg (by simp)]; exact ev_some (ev_else (by decide) (Ev.now _))
 | true =>
  have hR := rank_le 0 s.length s
  by_cases hok : ∀ d : Nat, d < rank 0 s.length s → (textB s (d : Int)).2 = true
  ·rw [if_pos ⟨rfl, hok⟩]
   exact ev_some (ev_if rfl (Ev.bind (rank_ev s hn hc 0 _ (Nat.le_refl _)) (docs_all s hn _ hR hok _ 0 rfl (Nat.zero_le _))))
  ·rw [if_neg (fun h => hok h.2)]
   obtain ⟨b, hb, hbad⟩ := bad_there hok
   exact ev_some (ev_if rfl (Ev.bind (rank_ev s hn hc 0 _ (Nat.le_refl _)) (docs_bad s hn _ hR b hb hbad _ 0 rfl (Nat.zero_le _))))
theorem refDocs_l1 (s b : List Int) (out : List ByteArray) (hn : s.length ≤ 1000000) (hl : b.length = s.length) : ∀ (m j : Nat), m = s.length - j → j ≤ s.length →
  Ev (fun k => scriniumref1_Docs.l1 k s out b (j : Int)) (if b.drop j = s.drop j then (out, true) else ([], false)) := by
 intro m
 induction m with
 | zero =>
  intro j hm hj
  obtain rfl : j = s.length := by omega
  rw [if_pos (by rw [List.drop_eq_nil_of_le (by omega), List.drop_eq_nil_of_le (Nat.le_refl _)])]
  refine Ev.step (f := fun _ => some (out, true)) (fun k => ?_) (Ev.now _)
  rw [scriniumref1_Docs.l1, if_neg (by omega)]
 | succ m ih =>
  intro j hm hj
  have hjl : j < s.length := by omega
  have hrec := ih (j + 1) (by omega) (by omega)
  have hw : wrap64 ((j : Int) + 1) = ((j + 1 : Nat) : Int) := w64 (j + 1) (by omega)
  rw [List.drop_eq_getElem_cons hjl, List.drop_eq_getElem_cons (show j < b.length by omega)]
  by_cases h : b[j] = s[j]
  ·have hgo : Ev (fun k => scriniumref1_Docs.l1 k s out b (j : Int)) (if b.drop (j + 1) = s.drop (j + 1) then (out, true) else ([], false)) := by
    refine Ev.step (fun k => ?_) hrec
    rw [scriniumref1_Docs.l1, if_pos (by omega), if_pos (by omega), if_pos (by omega), rd_get b j (by omega), rd_get s j hjl, if_pos h, hw]
   by_cases e : b.drop (j + 1) = s.drop (j + 1)
   ·rw [if_pos e] at hgo
    rw [if_pos (by rw [h, e])]
    exact hgo
   ·rw [if_neg e] at hgo
    rw [if_neg (fun q => e (List.cons.inj q).2)]
    exact hgo
  ·rw [if_neg (fun e => h (List.cons.inj e).1)]
   refine Ev.step (f := fun _ => some (([] : List ByteArray), false)) (fun k => ?_) (Ev.now _)
   rw [scriniumref1_Docs.l1, if_pos (by omega), if_pos (by omega), if_pos (by omega), rd_get b j (by omega), rd_get s j hjl, if_neg h]
theorem refDocs_end (s : List Int) (out : List ByteArray) (hn : s.length ≤ 1000000) (ho : out.length ≤ 1000000) (hz : s = [] → out = []) :
  Ev (fun k => (scriniumref1_Symbols.f k out).bind fun t290 => (if (t290.length : Int) = (s.length : Int) then ((scriniumref1_Right.f k out).bind fun t293 => (scriniumref1_Docs.j1 k s out t290 (!t293))) else (scriniumref1_Docs.j1 k s out t290 true))) (lastOf s out) := by
 have hno : ∀ b, Ev (fun k => scriniumref1_Docs.j1 k s out b true) (([] : List ByteArray), false) := fun b => by
  refine Ev.step (f := fun _ => some (([] : List ByteArray), false)) (fun k => ?_) (Ev.now _)
  rw [scriniumref1_Docs.j1, if_pos rfl]
 refine Ev.bind (a := symbolsOf out) ⟨411, fun k hk => refSyms_ok out ho k hk⟩ ?_
 unfold lastOf
 by_cases h1 : ((symbolsOf out).length : Int) = (s.length : Int)
 ·refine ev_if h1 (Ev.bind (a := rightB out) ⟨out.length + 1, fun k hk => refRight_ok out ho k hk⟩ ?_)
  cases hr : rightB out with
  | true =>
   have := refDocs_l1 s (symbolsOf out) out hn (by omega) s.length 0 rfl (Nat.zero_le _)
   rw [List.drop_zero, List.drop_zero] at this
   refine Ev.step (fun k => ?_) this
   show scriniumref1_Docs.j1 (k + 1) s out (symbolsOf out) false = _
   rw [scriniumref1_Docs.j1, if_neg (by decide)]
   rfl
  | false =>
   have hs : symbolsOf out = [] := by unfold symbolsOf; rw [sortedRows_none out hr]; rfl
   have hne : symbolsOf out ≠ s := fun e => by
    rw [hs] at e
    have := hz e.symm
    rw [this] at hr
    exact absurd hr (by decide)
   rw [if_neg hne]
   exact hno _
 ·rw [if_neg (fun e => h1 (by rw [e]))]
  exact ev_else h1 (hno _)
theorem refDocs_l0 (s : List Int) (hn : s.length ≤ 1000000) (hc : colB s = true) : ∀ (m D : Nat), m = rank 0 s.length s - D → D ≤ rank 0 s.length s → (∀ d : Nat, d < D → (textB s (d : Int)).2 = true) →
  Ev (fun k => scriniumref1_Docs.l0 k s (outOf s D) (D : Int)) (if ∀ d : Nat, d < rank 0 s.length s → (textB s (d : Int)).2 = true then lastOf s (outOf s (rank 0 s.length s)) else ([], false)) := by
 have hR := rank_le 0 s.length s
 have RK := refRank_ev s 0 (s.length : Int) hn
 rw [hc, if_pos rfl, clamp_nat _ _ (Nat.le_refl _)] at RK
 intro m
 induction m with
 | zero =>
  intro D hm hD hlow
  obtain rfl : D = rank 0 s.length s := by omega
  rw [if_pos hlow]
  have hzero : s = [] → outOf s (rank 0 s.length s) = [] := by
   intro e
   have h1 := out_length s (rank 0 s.length s)
   have h2 : s.length = 0 := by rw [e]; rfl
   exact List.length_eq_zero_iff.1 (by omega)
  have hE := refDocs_end s (outOf s (rank 0 s.length s)) hn (by rw [out_length]; omega) hzero
  refine Ev.step (fun k => ?_) (Ev.bind RK (ev_else (show ¬ ((rank 0 s.length s : Int) < (rank 0 s.length s : Int)) by omega) hE) (f := fun k t284 => (if ((rank 0 s.length s : Nat) : Int) < t284 then ((scriniumref1_Text.f k ((rank 0 s.length s : Nat) : Int) s).bind fun bt285 => (if bt285.2 = true then (if (outOf s (rank 0 s.length s)).length < 8796093022208 then (scriniumref1_Docs.l0 k s (outOf s (rank 0 s.length s) ++ [bt285.1]) (wrap64 (((rank 0 s.length s : Nat) : Int) + 1))) else (none)) else (some (([] : List ByteArray), false)))) else _)))
  rw [scriniumref1_Docs.l0]
 | succ m ih =>
  intro D hm hD hlow
  have hol := out_length s D
  have hw : wrap64 ((D : Int) + 1) = ((D + 1 : Nat) : Int) := w64 (D + 1) (by omega)
  have TX := refText_ev s (D : Int) hn
  cases hT : (textB s (D : Int)).2 with
  | true =>
   have hrec := ih (D + 1) (by omega) (by omega) (fun d hd => by
    by_cases e : d = D
    ·rw [e]; exact hT
    ·exact hlow d (by omega))
   rw [out_succ] at hrec
   refine Ev.step (fun k => ?_) (Ev.bind RK (ev_if (show (D : Int) < (rank 0 s.length s : Int) by omega) (Ev.bind TX (ev_if hT (ev_if (show (outOf s D).length < 8796093022208 by omega) hrec)))) (f := fun k t284 => (if (D : Int) < t284 then ((scriniumref1_Text.f k (D : Int) s).bind fun bt285 => (if bt285.2 = true then (if (outOf s D).length < 8796093022208 then (scriniumref1_Docs.l0 k s (outOf s D ++ [bt285.1]) ((D + 1 : Nat) : Int)) else (none)) else (some (([] : List ByteArray), false)))) else ((scriniumref1_Symbols.f k (outOf s D)).bind fun t290 => (if (t290.length : Int) = (s.length : Int) then ((scriniumref1_Right.f k (outOf s D)).bind fun t293 => (scriniumref1_Docs.j1 k s (outOf s D) t290 (!t293))) else (scriniumref1_Docs.j1 k s (outOf s D) t290 true))))))
   rw [scriniumref1_Docs.l0, hw]
  | false =>
   rw [if_neg (fun h => by have := h D (by omega); rw [hT] at this; cases this)]
   refine Ev.step (fun k => ?_) (Ev.bind RK (ev_if (show (D : Int) < (rank 0 s.length s : Int) by omega) (Ev.bind TX (ev_else (show ¬ (textB s (D : Int)).2 = true by rw [hT]; decide) (Ev.now (([] : List ByteArray), false))))) (f := fun k t284 => (if (D : Int) < t284 then ((scriniumref1_Text.f k (D : Int) s).bind fun bt285 => (if bt285.2 = true then (if (outOf s D).length < 8796093022208 then (scriniumref1_Docs.l0 k s (outOf s D ++ [bt285.1]) ((D + 1 : Nat) : Int)) else (none)) else (some (([] : List ByteArray), false)))) else ((scriniumref1_Symbols.f k (outOf s D)).bind fun t290 => (if (t290.length : Int) = (s.length : Int) then ((scriniumref1_Right.f k (outOf s D)).bind fun t293 => (scriniumref1_Docs.j1 k s (outOf s D) t290 (!t293))) else (scriniumref1_Docs.j1 k s (outOf s D) t290 true))))))
   rw [scriniumref1_Docs.l0, hw]
theorem refDocs_ev (s : List Int) (hn : s.length ≤ 1000000) : Ev (fun k => scriniumref1_Docs.f k s) (docsB s) := by
 refine Ev.congr (f := fun k => (scriniumref1_Column.f k s).bind fun t283 => (if t283 = true then (scriniumref1_Docs.l0 k s ([] : List ByteArray) 0) else (some (([] : List ByteArray), false)))) (fun k => rfl) (Ev.bind (refCol_ev s hn) ?_)
 unfold docsB
 cases hc : colB s with
 | false => rw [if_neg (by simp)]; exact ev_else (by decide) (Ev.now _)
 | true =>
  have h := refDocs_l0 s hn hc _ 0 rfl (Nat.zero_le _) (fun d hd => absurd hd (Nat.not_lt_zero _))
  refine ev_if rfl ?_
  by_cases hok : ∀ d : Nat, d < rank 0 s.length s → (textB s (d : Int)).2 = true
  ·rw [if_pos hok] at h
   rw [if_pos ⟨rfl, hok⟩]
   exact h
  ·rw [if_neg hok] at h
   rw [if_neg (fun e => hok e.2)]
   exact h
end Go.Proofs.YtkcpkecaliegfaaGreat.P
