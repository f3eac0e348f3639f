/- The plain law of BackWhole, and its walk. Conditions: the row's. -/
import Derived.Test.YtkcpkecaliegfaaBackB
import Derived.Test.YtkcpkecaliegfaaP8
set_option linter.unusedVariables false
set_option linter.unusedSimpArgs false
namespace Go.Proofs.Ytkcpkecaliegfaa.P
open Go.RowKit Go.Proofs.YtkcpkecaliegfaaW.PrintWords Go.Proofs.YtkcpkecaliegfaaW.PrintLast Go.Proofs.YtkcpkecaliegfaaW.PrintMore

theorem whole_end (l : List ByteArray) (hl : rightB l = true) (X : ByteArray) (hX : X.size ≤ 1000) (hb : ∀ s ∈ l, s.size < X.size) :
    Ev (fun k => (back_Range.f k (⟨#[]⟩ : ByteArray) (symbolsOf l)).bind fun bt185 => ((back_Count.f k X (symbolsOf l)).bind fun t187 => (if t187 = 0 then (if bt185.1 = 0 then (if bt185.2 = ((symbolsOf l).length : Int) then ((back_Naive.f k (⟨#[]⟩ : ByteArray) l).bind fun t188 => (some ((t188.length : Int) == ((symbolsOf l).length : Int)))) else (some false)) else (some false)) else (some false)))) true := by
  have h0 : occOf l (bytesOf X) = 0 := occ_none l _ (fun s hs => by rw [bytesOf_length]; exact hb s hs)
  have he : bytesOf (⟨#[]⟩ : ByteArray) = [] := rfl
  have hn : occOf l [] = (sortedRows l).length := by rw [occ_nil, (sortedRows_perm l hl).length_eq]
  have hr : rangeOf l (bytesOf (⟨#[]⟩ : ByteArray)) = (0, ((symbolsOf l).length : Int)) := by
    rw [he]
    unfold rangeOf
    rw [hn, low_nil, high_nil, symbolsOf_length]
    by_cases h : (sortedRows l).length = 0
    · rw [if_pos h, h]
      rfl
    · rw [if_neg h]
      rfl
  refine Ev.bind (ev_is (range_ev l hl ⟨#[]⟩ (by decide)) hr) ?_
  refine Ev.bind (ev_is (count_ev l hl X (by omega)) (show ((occOf l (bytesOf X) : Nat) : Int) = 0 by rw [h0]; rfl)) ?_
  refine ev_if rfl (ev_if rfl (ev_if rfl ?_))
  refine Ev.bind (naive_ev l hl ⟨#[]⟩) ?_
  rw [naive_len, he, hn, symbolsOf_length, beq_self_eq_true]
  exact Ev.now _
theorem whole_l (l : List ByteArray) (hl : rightB l = true) : ∀ (m j : Nat) (X : ByteArray), m = l.length - j → j ≤ l.length → X.size ≤ 1 + 41 * j → (∀ s ∈ l.take j, s.size < X.size) → 1 ≤ X.size →
    Ev (fun k => scriniumlaw5_BackWhole.l0 k l (symbolsOf l) X l (l.length : Int) (j : Int)) true := by
  have hlen := right_len hl
  intro m
  induction m with
  | zero =>
    intro j X hm hj hX hb h1
    obtain rfl : j = l.length := by omega
    rw [List.take_length] at hb
    refine Ev.step (fun k => ?_) (whole_end l hl X (by omega) hb)
    rw [scriniumlaw5_BackWhole.l0, if_neg (by omega)]
  | succ m ih =>
    intro j X hm hj hX hb h1
    have hjl : j < l.length := by omega
    have hz : l[j].size ≤ 40 := by have := right_doc hl (j : Int); rwa [docAt_get l j hjl] at this
    have hw : wrap64 ((j : Int) + 1) = ((j + 1 : Nat) : Int) := w64 (j + 1) (by omega)
    have hocc := occ_self l l[j] (List.getElem_mem hjl)
    have hsz : (X ++ (l[j] ++ (⟨#[120]⟩ : ByteArray))).size = X.size + (l[j].size + 1) := by
      rw [ByteArray.size_append, ByteArray.size_append]
      rfl
    have hrec := ih (j + 1) (X ++ (l[j] ++ (⟨#[120]⟩ : ByteArray))) (by omega) (by omega) (by omega) (by
      intro s hs
      rw [List.take_succ_eq_append_getElem hjl, List.mem_append] at hs
      rcases hs with h | h
      · have := hb s h; omega
      · rw [List.mem_singleton] at h
        subst h
        omega) (by omega)
    refine Ev.step (f := fun k => (back_Count.f k l[j] (symbolsOf l)).bind fun t184 => (if t184 < 1 then (some false) else (scriniumlaw5_BackWhole.l0 k l (symbolsOf l) (X ++ (l[j] ++ (⟨#[120]⟩ : ByteArray))) l (l.length : Int) ((j + 1 : Nat) : Int)))) (fun k => ?_) ?_
    · rw [scriniumlaw5_BackWhole.l0, if_pos (by omega), if_pos (by omega), if_pos (by omega), rd_doc l j hjl, hw, if_pos (show l[j].size + 1 ≤ 9223372036854775807 by omega), if_pos (show X.size + (l[j] ++ (⟨#[120]⟩ : ByteArray)).size ≤ 9223372036854775807 by rw [← ByteArray.size_append, hsz]; omega)]
    · refine Ev.bind (count_ev l hl l[j] (by omega)) (ev_else (by omega) hrec)
theorem BackWhole_ev (l : List ByteArray) (hs : ∀ s ∈ l, s.size ≤ 140737488351232) (hl : l.length * 16 ≤ 140737488351232) : Ev (fun k => scriniumlaw5_BackWhole.f k l) true := by
  have ht : Ev (fun k => scriniumlaw5_BackWhole.j0 k l true) true := by
    refine Ev.step (fun k => ?_) (Ev.bind alive5_ev (Ev.now _))
    rw [scriniumlaw5_BackWhole.j0, if_pos rfl]
  unfold scriniumlaw5_BackWhole.f
  refine Ev.bind (few_ev l hs hl) ?_
  by_cases hf : fewB l = true
  case neg => exact ev_else hf ht
  refine ev_if hf (ev_some ?_)
  by_cases hR : rightB l = true
  case neg => exact ev_else hR ht
  refine ev_if hR (Ev.bind alive5_ev ?_)
  show Ev (fun k => scriniumlaw5_BackWhole.j0 k l false) true
  have h := whole_l l hR l.length 0 ⟨#[120]⟩ (by omega) (Nat.zero_le _) (by decide) (by intro s hs; cases hs) (by decide)
  refine Ev.step (fun k => ?_) (Ev.bind (f := fun k t180 => scriniumlaw5_BackWhole.l0 k l t180 (⟨#[120]⟩ : ByteArray) l (l.length : Int) 0) (symbols_ev l) h)
  rw [scriniumlaw5_BackWhole.j0, if_neg (by simp)]
theorem BackWhole_all (A0 : Option Addr) (c0 : Nat) (l0 : List ByteArray) (w : World) (hC : Kd.C Kd.string w A0 l0.length l0) (hc : l0.length ≤ c0) (hs : ∀ s ∈ l0, s.size ≤ 140737488351232) (hl : l0.length * 16 ≤ 140737488351232) :
    Calls Try.prog 5 #[.slice A0 l0.length c0] w fun e w' => e = .returned (.bool true) ∧ Below w.heap.size w w' := by
  obtain ⟨k, h⟩ := (BackWhole_ev l0 hs hl).rounds
  exact scriniumlaw5_BackWhole.calls k A0 c0 l0 true w hC hc h
end Go.Proofs.Ytkcpkecaliegfaa.P
