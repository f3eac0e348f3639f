/- The plain law of BackLonger, and its walk. Conditions: the row's. -/
import Derived.Test.YtkcpkecaliegfaaBackB
import Derived.Test.YtkcpkecaliegfaaP7
set_option linter.unusedVariables false
set_option linter.unusedSimpArgs false
namespace Go.Proofs.Ytkcpkecaliegfaa.P
open Go.RowKit Go.Proofs.YtkcpkecaliegfaaW.PrintWords Go.Proofs.YtkcpkecaliegfaaW.PrintLast Go.Proofs.YtkcpkecaliegfaaW.PrintMore

theorem heads_pre (s p : ByteArray) : ((s.extract 0 p.size).toList = p.toList) ↔ preP (bytesOf s) (bytesOf p) = true := by
  unfold bytesOf
  rw [pre_take, ByteArray.toList_eq, ByteArray.toList_eq, ByteArray.data_extract, Array.toList_extract, List.extract_eq_take_drop, List.drop_zero, Nat.sub_zero, data_length, beq_iff_eq]
theorem longer_l1 (l : List ByteArray) (hl : rightB l = true) (p : ByteArray) (hp : p.size ≤ 20) (B : Nat) (hB : B ≤ 1000) (n : Int) (hn : n = ((B + headsOf l (bytesOf p) : Nat) : Int)) : ∀ (m j : Nat), m = l.length - j → j ≤ l.length →
    Ev (fun k => scriniumlaw5_BackLonger.l1 k p n ((B + headsOf (l.take j) (bytesOf p) : Nat) : Int) l (l.length : Int) (j : Int)) true := by
  have hlen := right_len hl
  intro m
  induction m with
  | zero =>
    intro j hm hj
    obtain rfl : j = l.length := by omega
    rw [List.take_length, ← hn]
    refine Ev.step (f := fun _ => some true) (fun k => ?_) (Ev.now _)
    rw [scriniumlaw5_BackLonger.l1, if_neg (by omega), beq_self_eq_true]
  | succ m ih =>
    intro j hm hj
    have hjl : j < l.length := by omega
    have hrec := ih (j + 1) (by omega) (by omega)
    have hw : wrap64 ((j : Int) + 1) = ((j + 1 : Nat) : Int) := w64 (j + 1) (by omega)
    have hle : headsOf (l.take j) (bytesOf p) ≤ j := Nat.le_trans List.countP_le_length (List.length_take_le _ _)
    have hh : headsOf (l.take (j + 1)) (bytesOf p) = headsOf (l.take j) (bytesOf p) + if preP (bytesOf l[j]) (bytesOf p) = true then 1 else 0 := by
      unfold headsOf
      rw [List.take_succ_eq_append_getElem hjl, List.countP_append, List.countP_cons, List.countP_nil, Nat.zero_add]
    rw [hh] at hrec
    refine Ev.step (fun k => ?_) hrec
    rw [scriniumlaw5_BackLonger.l1, if_pos (by omega), if_pos (by omega), if_pos (by omega), rd_doc l j hjl, hw, Int.toNat_natCast]
    by_cases hsz : (l[j].size : Int) ≥ (p.size : Int)
    · rw [if_pos hsz, if_pos (by omega), if_pos (by omega)]
      by_cases h : preP (bytesOf l[j]) (bytesOf p) = true
      · rw [if_pos ((heads_pre _ _).2 h), if_pos h]
        rw [show ((B + headsOf (l.take j) (bytesOf p) : Nat) : Int) + 1 = ((B + (headsOf (l.take j) (bytesOf p) + 1) : Nat) : Int) by omega, w64 _ (by omega)]
      · rw [if_neg (fun h2 => h ((heads_pre _ _).1 h2)), if_neg h]
        rfl
    · rw [if_neg hsz]
      have h : ¬ preP (bytesOf l[j]) (bytesOf p) = true := by
        intro h
        have := pre_length _ _ h
        rw [bytesOf_length, bytesOf_length] at this
        omega
      rw [if_neg h]
      rfl
theorem long_le (l : List ByteArray) (hl : rightB l = true) (p : List Int) (k : Int) : longOf l p k ≤ 410 := by
  unfold longOf
  have h1 := rowsTo_le hl l.length
  have h2 := right_len hl
  have h3 : (allRows l).countP (fun r => decide (r.f1 > 0) && (decide (bt (docAt l r.f0) (r.f1 - 1) < k) && preP (suf l r.f0 r.f1) p)) ≤ (allRows l).length := List.countP_le_length
  unfold allRows at *
  omega
theorem longer_l0 (l : List ByteArray) (hl : rightB l = true) (p : ByteArray) (hp : p.size ≤ 20) : ∀ (m j : Nat), m = 256 - j → j ≤ 256 →
    Ev (fun k => scriniumlaw5_BackLonger.l0 k l p (symbolsOf l) (occOf l (bytesOf p) : Int) (longOf l (bytesOf p) (j : Int) : Int) (j : Int)) true := by
  have hlen := right_len hl
  intro m
  induction m with
  | zero =>
    intro j hm hj
    obtain rfl : j = 256 := by omega
    have hall := long_all l (bytesOf p)
    have hle := long_le l hl (bytesOf p) 256
    have h := longer_l1 l hl p hp (longOf l (bytesOf p) 256) (by omega) (occOf l (bytesOf p) : Int) (by rw [hall]) l.length 0 (by omega) (Nat.zero_le _)
    refine Ev.step (fun k => ?_) h
    rw [scriniumlaw5_BackLonger.l0, if_neg (by omega)]
    rfl
  | succ m ih =>
    intro j hm hj
    have hrec := ih (j + 1) (by omega) (by omega)
    have hw : wrap64 ((j : Int) + 1) = ((j + 1 : Nat) : Int) := w64 (j + 1) (by omega)
    have hls := long_succ l (bytesOf p) (j : Int)
    have hle := long_le l hl (bytesOf p) ((j : Int) + 1)
    have hmod : (j : Int) % 256 = (j : Int) := by omega
    have hocc := occ_cons_le l hl (j : Int) (by omega) (bytesOf p)
    have hsz : (strOfNums [(j : Int)]).size = 1 := by rw [strOfNums_size]; rfl
    have hby : bytesOf (strOfNums [(j : Int)] ++ p) = (j : Int) :: bytesOf p := by
      rw [bytesOf_app, strOf_bytes [(j : Int)] (fun x hx => by rw [List.mem_singleton] at hx; omega)]
      rfl
    rw [show ((j + 1 : Nat) : Int) = (j : Int) + 1 from rfl, hls] at hrec
    refine Ev.step (f := fun k => (back_Count.f k ((strOfNums [(j : Int)]) ++ p) (symbolsOf l)).bind fun t174 => (if t174 < 0 then (some false) else (if t174 > (occOf l (bytesOf p) : Int) then (some false) else (scriniumlaw5_BackLonger.l0 k l p (symbolsOf l) (occOf l (bytesOf p) : Int) (wrap64 ((longOf l (bytesOf p) (j : Int) : Int) + t174)) ((j + 1 : Nat) : Int))))) (fun k => ?_) ?_
    · rw [scriniumlaw5_BackLonger.l0, if_pos (by omega), Option.bind_some, hmod, hw, if_pos (show (strOfNums [(j : Int)]).size + p.size ≤ 9223372036854775807 by omega)]
    · refine Ev.bind (ev_is (count_ev l hl _ (by rw [ByteArray.size_append]; omega)) (by rw [hby])) ?_
      refine ev_else (by omega) (ev_else (by omega) ?_)
      rw [← Int.natCast_add, w64 _ (by omega)]
      exact hrec
theorem BackLonger_ev (l : List ByteArray) (p : ByteArray) (hs : ∀ s ∈ l, s.size ≤ 140737488351232) (hl : l.length * 16 ≤ 140737488351232) : Ev (fun k => scriniumlaw5_BackLonger.f k l p) true := by
  have ht : Ev (fun k => scriniumlaw5_BackLonger.j0 k l p true) true := by
    refine Ev.step (fun k => ?_) (Ev.bind alive5_ev (Ev.now _))
    rw [scriniumlaw5_BackLonger.j0, if_pos rfl]
  unfold scriniumlaw5_BackLonger.f
  refine Ev.bind (few_ev l hs hl) ?_
  by_cases hf : fewB l = true
  case neg => exact ev_else hf ht
  refine ev_if hf (ev_some ?_)
  by_cases hR : rightB l = true
  case neg => exact ev_else hR ht
  refine ev_if hR ?_
  by_cases hp : (p.size : Int) > 20
  · exact ev_if hp ht
  refine ev_else hp (Ev.bind alive5_ev ?_)
  show Ev (fun k => scriniumlaw5_BackLonger.j0 k l p false) true
  have h := longer_l0 l hR p (by omega) 256 0 rfl (by omega)
  have h0 : longOf l (bytesOf p) ((0 : Nat) : Int) = 0 := occ_long_zero l (bytesOf p)
  rw [h0] at h
  refine Ev.step (fun k => ?_) (Ev.bind (f := fun k t167 => (back_Count.f k p t167).bind fun t170 => (scriniumlaw5_BackLonger.l0 k l p t167 t170 0 0)) (symbols_ev l) (Ev.bind (count_ev l hR p (by omega)) h))
  rw [scriniumlaw5_BackLonger.j0, if_neg (by simp)]
theorem BackLonger_all (A0 : Option Addr) (c0 : Nat) (l0 : List ByteArray) (a1 : ByteArray) (w : World) (hC : Kd.C Kd.string w A0 l0.length l0) (hc : l0.length ≤ c0) (hs : ∀ s ∈ l0, s.size ≤ 140737488351232) (hl : l0.length * 16 ≤ 140737488351232) (_ : a1.size ≤ 140737488351232) :
    Calls Try.prog 4 #[.slice A0 l0.length c0, .string a1] w fun e w' => e = .returned (.bool true) ∧ Below w.heap.size w w' := by
  obtain ⟨k, h⟩ := (BackLonger_ev l0 a1 hs hl).rounds
  exact scriniumlaw5_BackLonger.calls k A0 c0 l0 a1 true w hC hc h
end Go.Proofs.Ytkcpkecaliegfaa.P
