/- The plain law of BackBytes, and its walk. Conditions: the row's. -/
import Derived.Test.YtkcpkecaliegfaaBackB
import Derived.Test.YtkcpkecaliegfaaP11
set_option linter.unusedVariables false
set_option linter.unusedSimpArgs false
namespace Go.Proofs.Ytkcpkecaliegfaa.P
open Go.RowKit Go.Proofs.YtkcpkecaliegfaaW.PrintWords Go.Proofs.YtkcpkecaliegfaaW.PrintLast Go.Proofs.YtkcpkecaliegfaaW.PrintMore

theorem bytes_get (s : ByteArray) (i : Nat) (h : i < (bytesOf s).length) : (bytesOf s)[i] = bt s (i : Int) := by
  have h1 := rd_bytesOf s (i : Int)
  rw [rd_get _ i h] at h1
  exact h1
/-- How often a byte stands in the first documents. -/
def byteTo (l : List ByteArray) (b : Int) (j : Nat) : Nat := ((l.take j).map (fun s => occIn s [b])).sum
theorem byteTo_all (l : List ByteArray) (b : Int) : byteTo l b l.length = occOf l [b] := by
  unfold byteTo
  rw [List.take_length, occ_sum]
theorem byteTo_le (l : List ByteArray) (b : Int) (hl : rightB l = true) (j : Nat) : byteTo l b j ≤ 41 * j := by
  unfold byteTo
  have h : ∀ t : List ByteArray, (∀ s ∈ t, s.size ≤ 40) → (t.map (fun s => occIn s [b])).sum ≤ 41 * t.length := by
    intro t
    induction t with
    | nil => intro _; exact Nat.zero_le _
    | cons x t ih =>
      intro h
      rw [List.map_cons, List.sum_cons, List.length_cons]
      have h1 := ih (fun s hs => h s (List.mem_cons_of_mem _ hs))
      have h2 := h x List.mem_cons_self
      have h3 : occIn x [b] ≤ x.size + 1 := by
        unfold occIn
        exact Nat.le_trans List.countP_le_length (by rw [List.length_range]; exact Nat.le_refl _)
      omega
  have h1 := h (l.take j) (fun s hs => by
    obtain ⟨d, hd, rfl⟩ := List.mem_iff_getElem.1 (List.mem_of_mem_take hs)
    have := right_doc hl (d : Int)
    rwa [docAt_get l d hd] at this)
  have h2 : (l.take j).length ≤ j := List.length_take_le _ _
  omega
theorem bytes_end (l : List ByteArray) (hl : rightB l = true) (b : Int) (hb : 0 ≤ b ∧ b ≤ 255) :
    Ev (fun k => (rows_Symbols.f k l).bind fun t235 => ((back_Range.f k (strOfNums (([b] : List Int))) t235).bind fun bt241 => ((back_Count.f k (strOfNums (([b] : List Int))) t235).bind fun t246 => (if t246 = (occOf l [b] : Int) then (some ((wrap64 (bt241.2 - bt241.1)) == (occOf l [b] : Int))) else (some false))))) true := by
  have hS : (strOfNums [b]).size ≤ 140737488351232 := by rw [strOfNums_size]; exact (by decide : 1 ≤ 140737488351232)
  have hB : bytesOf (strOfNums [b]) = [b] := strOf_bytes [b] (fun x hx => by rw [List.mem_singleton] at hx; omega)
  have q1 := high_eq l hl [b]
  have q2 := high_le l [b]
  have q3 := sortedRows_le l
  refine Ev.bind (symbols_ev l) (Ev.bind (ev_is (range_ev l hl _ hS) (by rw [hB])) (Ev.bind (ev_is (count_ev l hl _ hS) (by rw [hB])) ?_))
  refine ev_if rfl ?_
  have e : wrap64 ((rangeOf l [b]).2 - (rangeOf l [b]).1) = (occOf l [b] : Int) := by
    unfold rangeOf
    by_cases h : occOf l [b] = 0
    · rw [if_pos h, h]
      dsimp only
      rw [w64i _ (by omega)]
      rfl
    · rw [if_neg h]
      dsimp only
      rw [w64i _ (by omega)]
      omega
  rw [e, beq_self_eq_true]
  exact Ev.now _
theorem bytes_l1 (l : List ByteArray) (b : Int) (D : Nat) (S : ByteArray) (hS : S.size ≤ 40) (n : Nat) (hn : n ≤ 1000)
    (hnext : Ev (fun k => scriniumlaw5_BackBytes.l0 k l b ((n + (bytesOf S).countP (fun x => decide (x = b)) : Nat) : Int) l (l.length : Int) (wrap64 ((D : Int) + 1))) true) : ∀ (m i : Nat), m = S.size - i → i ≤ S.size →
    Ev (fun k => scriniumlaw5_BackBytes.l1 k l b ((n + ((bytesOf S).take i).countP (fun x => decide (x = b)) : Nat) : Int) S (i : Int) l (l.length : Int) (D : Int)) true := by
  intro m
  induction m with
  | zero =>
    intro i hm hi
    obtain rfl : i = S.size := by omega
    rw [List.take_of_length_le (by rw [bytesOf_length]; exact Nat.le_refl _)]
    refine Ev.step (fun k => ?_) hnext
    rw [scriniumlaw5_BackBytes.l1, if_neg (by omega)]
  | succ m ih =>
    intro i hm hi
    have hil : i < (bytesOf S).length := by rw [bytesOf_length]; omega
    have hrec := ih (i + 1) (by omega) (by omega)
    have hw : wrap64 ((i : Int) + 1) = ((i + 1 : Nat) : Int) := w64 (i + 1) (by omega)
    have hle : ((bytesOf S).take i).countP (fun x => decide (x = b)) ≤ i := Nat.le_trans List.countP_le_length (List.length_take_le _ _)
    rw [List.take_succ_eq_append_getElem hil, List.countP_append, List.countP_cons, List.countP_nil, Nat.zero_add, bytes_get S i hil] at hrec
    refine Ev.step (fun k => ?_) hrec
    rw [scriniumlaw5_BackBytes.l1, if_pos (by omega), if_pos (by omega), hw]
    by_cases h : bt S (i : Int) = b
    · rw [if_pos h, if_pos (decide_eq_true h)]
      congr 1
      rw [show ((n + ((bytesOf S).take i).countP (fun x => decide (x = b)) : Nat) : Int) + 1 = ((n + ((bytesOf S).take i).countP (fun x => decide (x = b)) + 1 : Nat) : Int) by omega, w64 _ (by omega)]
      omega
    · rw [if_neg h, if_neg (by simpa using h)]
      rfl
theorem bytes_l0 (l : List ByteArray) (hl : rightB l = true) (b : Int) (hb : 0 ≤ b ∧ b ≤ 255) : ∀ (m D : Nat), m = l.length - D → D ≤ l.length →
    Ev (fun k => scriniumlaw5_BackBytes.l0 k l b (byteTo l b D : Int) l (l.length : Int) (D : Int)) true := by
  have hlen := right_len hl
  intro m
  induction m with
  | zero =>
    intro D hm hD
    obtain rfl : D = l.length := by omega
    rw [byteTo_all]
    refine Ev.step (fun k => ?_) (bytes_end l hl b hb)
    rw [scriniumlaw5_BackBytes.l0, if_neg (by omega)]
  | succ m ih =>
    intro D hm hD
    have hDl : D < l.length := by omega
    have hz : l[D].size ≤ 40 := by have := right_doc hl (D : Int); rwa [docAt_get l D hDl] at this
    have hrec := ih (D + 1) (by omega) (by omega)
    have hbt : byteTo l b (D + 1) = byteTo l b D + (bytesOf l[D]).countP (fun x => decide (x = b)) := by
      unfold byteTo
      rw [List.take_succ_eq_append_getElem hDl, List.map_append, List.sum_append]
      simp only [List.map_cons, List.map_nil, List.sum_cons, List.sum_nil, Nat.add_zero]
      rw [occ_byte]
    have hw : wrap64 ((D : Int) + 1) = ((D + 1 : Nat) : Int) := w64 (D + 1) (by omega)
    have hle := byteTo_le l b hl D
    rw [hbt, ← hw] at hrec
    have h1 := bytes_l1 l b D l[D] hz (byteTo l b D) (by omega) hrec _ 0 rfl (Nat.zero_le _)
    refine Ev.step (fun k => ?_) h1
    rw [scriniumlaw5_BackBytes.l0, if_pos (by omega), if_pos (by omega), if_pos (by omega), rd_doc l D hDl]
    rfl
theorem BackBytes_ev (l : List ByteArray) (b : Int) (hb : 0 ≤ b ∧ b ≤ 255) (hs : ∀ s ∈ l, s.size ≤ 140737488351232) (hl : l.length * 16 ≤ 140737488351232) : Ev (fun k => scriniumlaw5_BackBytes.f k l b) true := by
  have ht : Ev (fun k => scriniumlaw5_BackBytes.j0 k l b true) true := by
    refine Ev.step (fun k => ?_) (Ev.bind alive5_ev (Ev.now _))
    rw [scriniumlaw5_BackBytes.j0, if_pos rfl]
  unfold scriniumlaw5_BackBytes.f
  refine Ev.bind (few_ev l hs hl) ?_
  by_cases hf : fewB l = true
  case neg => exact ev_else hf ht
  refine ev_if hf (ev_some ?_)
  by_cases hR : rightB l = true
  case neg => exact ev_else hR ht
  refine ev_if hR (Ev.bind alive5_ev ?_)
  show Ev (fun k => scriniumlaw5_BackBytes.j0 k l b false) true
  refine Ev.step (fun k => ?_) (bytes_l0 l hR b hb _ 0 rfl (Nat.zero_le _))
  rw [scriniumlaw5_BackBytes.j0, if_neg (by simp)]
  rfl
theorem wf_byte (x : Int) (h : (Lit.int .u8 x).wf = true) : 0 ≤ x ∧ x ≤ 255 := by
  simp only [Lit.wf, Bool.and_eq_true, decide_eq_true_eq] at h
  have e0 : IntKind.u8.min = 0 := rfl
  have e1 : IntKind.u8.max = 255 := rfl
  omega
theorem BackBytes_all (A0 : Option Addr) (c0 : Nat) (l0 : List ByteArray) (a1 : Int) (w : World) (hC : Kd.C Kd.string w A0 l0.length l0) (hc : l0.length ≤ c0) (hs : ∀ s ∈ l0, s.size ≤ 140737488351232) (hl : l0.length * 16 ≤ 140737488351232) (h1 : (Lit.int .u8 a1).wf = true) :
    Calls Try.prog 9 #[.slice A0 l0.length c0, .int .u8 a1] w fun e w' => e = .returned (.bool true) ∧ Below w.heap.size w w' := by
  obtain ⟨k, h⟩ := (BackBytes_ev l0 a1 (wf_byte a1 h1) hs hl).rounds
  exact scriniumlaw5_BackBytes.calls k A0 c0 l0 a1 true w hC hc h
end Go.Proofs.Ytkcpkecaliegfaa.P
