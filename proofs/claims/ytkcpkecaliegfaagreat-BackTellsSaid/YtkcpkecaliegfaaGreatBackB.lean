/- The first call of the statements of back; words for rounds that are enough. Conditions: none. -/
import Derived.Test.YtkcpkecaliegfaaGreatBackA
import Derived.Test.YtkcpkecaliegfaaGreatP36
set_option linter.unusedVariables false
set_option linter.unusedSimpArgs false
namespace Go.Proofs.YtkcpkecaliegfaaGreat.P
open Go.RowKit Go.Proofs.YtkcpkecaliegfaaGreatW.PrintWords Go.Proofs.YtkcpkecaliegfaaGreatW.PrintLast Go.Proofs.YtkcpkecaliegfaaGreatW.PrintMore

theorem ev_if {α : Type} {c : Prop} [Decidable c] {a b : Nat → Option α} {r : α} (h : c) (k : Ev a r) : Ev (fun n => if c then a n else b n) r := Ev.congr (fun n => if_pos h) k
theorem ev_else {α : Type} {c : Prop} [Decidable c] {a b : Nat → Option α} {r : α} (h : ¬ c) (k : Ev b r) : Ev (fun n => if c then a n else b n) r := Ev.congr (fun n => if_neg h) k
theorem ev_some {α β : Type} {a : α} {f : Nat → α → Option β} {r : β} (k : Ev (fun n => f n a) r) : Ev (fun n => (some a).bind (f n)) r := k
theorem ev_is {α : Type} {g : Nat → Option α} {r q : α} (h : Ev g r) (e : r = q) : Ev g q := e ▸ h
theorem ev_from {α : Type} {g : Nat → Option α} {r : α} (K : Nat) (h : ∀ k, K ≤ k → g k = some r) : Ev g r := ⟨K, h⟩
theorem symbols_ev (l : List ByteArray) : Ev (fun k => rows_Symbols.f k l) (symbolsOf l) := ⟨411, fun k hk => symbols_ok l k hk⟩
theorem count_ev (l : List ByteArray) (hl : rightB l = true) (p : ByteArray) (hp : p.size ≤ 140737488351232) : Ev (fun k => back_Count.f k p (symbolsOf l)) (occOf l (bytesOf p) : Int) := ⟨420 + p.size, fun k hk => count_ok l hl p hp k hk⟩
theorem range_ev (l : List ByteArray) (hl : rightB l = true) (p : ByteArray) (hp : p.size ≤ 140737488351232) : Ev (fun k => back_Range.f k p (symbolsOf l)) (rangeOf l (bytesOf p)) := ⟨420 + p.size, fun k hk => range_ok l hl p hp k hk⟩
theorem few_ev (l : List ByteArray) (hs : ∀ s ∈ l, s.size ≤ 140737488351232) (hl : l.length * 16 ≤ 140737488351232) : Ev (fun k => scriniumlaw3_Few.f k l) (fewB l) := ⟨l.length + 1, fun k hk => few_all l hs hl k hk⟩
theorem right_doc1 {l : List ByteArray} (hl : rightB l = true) (d : Int) : (docAt l d).size ≤ 1000000 := by have := right_doc hl d; omega
theorem naive_ev (l : List ByteArray) (hl : rightB l = true) (p : ByteArray) : Ev (fun k => back_Naive.f k p l) (naiveOf l (bytesOf p)) := naive_ok l p (by have := right_len hl; omega) (right_doc1 hl)

def aba : ByteArray := ⟨#[97, 98, 97]⟩
theorem aba_right : rightB [(⟨#[97, 98, 97]⟩ : ByteArray)] = true := by decide +kernel
theorem alive5_ev : Ev (fun k => scriniumlaw5_alive.f k) true := by
  unfold scriniumlaw5_alive.f
  refine Ev.bind (symbols_ev [(⟨#[97, 98, 97]⟩ : ByteArray)]) ?_
  have hlen : ((symbolsOf [(⟨#[97, 98, 97]⟩ : ByteArray)]).length : Int) = 4 := by
    rw [symbolsOf_length, sorted_length _ aba_right]
    decide
  refine ev_if hlen ?_
  refine Ev.bind (ev_is (count_ev _ aba_right ⟨#[97]⟩ (by decide)) (show ((occOf [(⟨#[97, 98, 97]⟩ : ByteArray)] (bytesOf ⟨#[97]⟩) : Nat) : Int) = 2 by decide +kernel)) ?_
  refine ev_if rfl ?_
  refine Ev.bind (ev_is (count_ev _ aba_right ⟨#[120]⟩ (by decide)) (show ((occOf [(⟨#[97, 98, 97]⟩ : ByteArray)] (bytesOf ⟨#[120]⟩) : Nat) : Int) = 0 by decide +kernel)) ?_
  refine ev_if rfl ?_
  refine Ev.bind (naive_ev [(⟨#[97, 98, 97]⟩ : ByteArray)] aba_right ⟨#[97]⟩) ?_
  have hn : ((naiveOf [(⟨#[97, 98, 97]⟩ : ByteArray)] (bytesOf ⟨#[97]⟩)).length : Int) = 2 := by
    rw [naive_len]
    decide +kernel
  rw [hn]
  exact Ev.now _
theorem strOf_bytes : ∀ xs : List Int, (∀ x ∈ xs, 0 ≤ x ∧ x ≤ 255) → bytesOf (strOfNums xs) = xs := by
  intro xs h
  unfold bytesOf
  rw [strOfNums_data, List.map_map]
  conv => rhs; rw [← List.map_id xs]
  apply List.map_congr_left
  intro x hx
  have := h x hx
  show ((UInt8.ofNat x.toNat).toNat : Int) = x
  rw [UInt8.toNat_ofNat']
  omega
theorem bytesOf_app (s t : ByteArray) : bytesOf (s ++ t) = bytesOf s ++ bytesOf t := by
  unfold bytesOf
  rw [ByteArray.data_append, Array.toList_append, List.map_append]
end Go.Proofs.YtkcpkecaliegfaaGreat.P
