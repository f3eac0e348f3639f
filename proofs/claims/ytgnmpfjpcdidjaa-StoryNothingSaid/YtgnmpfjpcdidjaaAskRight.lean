/- Which requests may be: the function Right of package ask. Conditions: none. -/
import Derived.Test.YtgnmpfjpcdidjaaAskOf
import Derived.Test.YtgnmpfjpcdidjaaNums
import Derived.Test.YtgnmpfjpcdidjaaContains
import Derived.Maps.RangeRun
set_option linter.unusedVariables false
set_option linter.unusedSimpArgs false
namespace Go.Proofs.Ytgnmpfjpcdidjaa.P
open Go.RowKit Go.Proofs.YtgnmpfjpcdidjaaW.PrintWords Go.Proofs.YtgnmpfjpcdidjaaW.PrintLast Go.Proofs.YtgnmpfjpcdidjaaW.PrintMore
open Go.ChangeMaps (setBlock heap_setBlock_same heap_setBlock_other)

theorem text_calls (s : ByteArray) (w : World) : Calls Try.prog 64 #[.string s] w fun e w' => e = .returned (.bool (decide ((s.size : Int) ≤ 40))) ∧ w' = w := by
  go_enter Try.func64, Try.ntmps64
  go_wp2
  go_ret
  exact ⟨rfl, rfl⟩
/-- A number that a kind has, or 0. -/
def letOk (has : ByteArray) (c : UInt8) (n : Int) : Bool := decide (0 ≤ n) && (decide (n ≤ 65535) && (decide (n ≤ 0) || hasC has c))
def askB (kind id fr tt snap : Int) (text : ByteArray) : Bool :=
  !(nameOf kind).toList.isEmpty && (decide ((text.size : Int) ≤ 40) && ((text.toList.isEmpty || hasC (hasOf kind) 116) &&
    (letOk (hasOf kind) 105 id && (letOk (hasOf kind) 102 fr && (letOk (hasOf kind) 111 tt && letOk (hasOf kind) 115 snap)))))
def fldOf (id fr tt snap : Int) (f : Nat) : Int := if f = 1 then id else if f = 2 then fr else if f = 3 then tt else snap
def passB (has : ByteArray) (id fr tt snap : Int) (p : Int × Nat) : Bool := letOk has p.1.toNat.toUInt8 (fldOf id fr tt snap p.2)
def fourL : List (Int × Nat) := [(105, 1), (102, 2), (111, 3), (115, 4)]
theorem pass_all (has : ByteArray) (id fr tt snap : Int) (ks : List (Int × Nat)) (hp : ks.Perm fourL) :
    ks.all (passB has id fr tt snap) = (letOk has 105 id && (letOk has 102 fr && (letOk has 111 tt && letOk has 115 snap))) := by
  rw [hp.all_eq]
  simp [fourL, passB, fldOf]
theorem setB_other (w : World) (r : Nat) (o : Obj) (k : Nat) (h : k ≠ r) : (setBlock w r o).heap[k]? = w.heap[k]? := by
  unfold setBlock
  exact Array.getElem?_setIfInBounds_ne (fun e => h e.symm)
theorem setB_same (w : World) (r : Nat) (o : Obj) (h : r < w.heap.size) : (setBlock w r o).heap[r]? = some o := by
  unfold setBlock
  exact Array.getElem?_setIfInBounds_self_of_lt h
/-- How far the iterator has gone. -/
def gone (r : Nat) (w : World) : Nat := match w.heap[r]? with | some (.mapIter _ _ seen _) => seen.size | _ => 0
theorem gone_eq {r : Nat} {w : World} {m : Option Nat} {s c : Nat} {seen : Array Nat} (h : w.heap[r]? = some (.mapIter m s seen c)) : gone r w = seen.size := by unfold gone; rw [h]
theorem below_next {base : Nat} {w0 w w1 : World} (h : Below base w0 w) (hw : w1 = w ∨ w1 = w.drew) (r : Nat) (hr : base ≤ r) (o : Obj) : Below base w0 (setBlock w1 r o) := by
  have h1 : Below base w0 w1 := by rcases hw with rfl | rfl; exact h; exact below_drew1 h
  exact ⟨h1.os, h1.tape, h1.output, by simpa [setBlock] using h1.size, fun k hk => (setB_other w1 r o k (by omega)).trans (h1.block k hk)⟩
def SeenOk (pass : Int × Nat → Bool) (ks : List (Int × Nat)) (seen : Array Nat) : Prop := seen.toList.Nodup ∧ ∀ s ∈ seen.toList, ∃ p, ks[s]? = some p ∧ pass p = true
theorem nums_mem {B : Nat} {ks : List (Int × Nat)} {e : MapEntry} (h : e ∈ (numsE B ks).toArray.toList) : ∃ i p, ks[i]? = some p ∧ e = numE B (p, i) := by
  unfold numsE at h
  rw [List.toList_toArray] at h
  obtain ⟨⟨p, i⟩, hp, rfl⟩ := List.mem_map.1 h
  exact ⟨i, p, List.mem_zipIdx_iff_getElem?.1 hp, rfl⟩
theorem nums_left {B : Nat} {ks : List (Int × Nat)} {seen : Array Nat} {e : MapEntry} (h : e ∈ (leftOf (numsE B ks).toArray seen).toList) : ∃ i p, ks[i]? = some p ∧ e = numE B (p, i) ∧ i ∉ seen.toList := by
  obtain ⟨h1, h2⟩ := mem_left h
  obtain ⟨i, p, hp, rfl⟩ := nums_mem h1
  refine ⟨i, p, hp, rfl, ?_⟩
  intro hm
  have h3 : seen.contains i = true := Array.contains_iff_mem.2 (Array.mem_toList_iff.1 hm)
  change seen.contains i = false at h2
  rw [h3] at h2
  cases h2
theorem nums_born (B : Nat) (ks : List (Int × Nat)) : ∀ x ∈ (numsE B ks).toArray.toList, x.born < ks.length := by
  intro x hx
  obtain ⟨i, p, hp, rfl⟩ := nums_mem hx
  obtain ⟨h, _⟩ := List.getElem?_eq_some_iff.1 hp
  exact h
theorem nums_nodup (B : Nat) (ks : List (Int × Nat)) : ((numsE B ks).toArray.toList.map (·.born)).Nodup := by
  unfold numsE
  rw [List.map_map]
  have e : ((fun x : MapEntry => x.born) ∘ numE B) = Prod.snd := rfl
  rw [e, List.zipIdx_map_snd]
  exact List.nodup_range'
theorem nodup_lt : ∀ (n : Nat) (xs : List Nat), xs.Nodup → (∀ x ∈ xs, x < n) → xs.length ≤ n
  | 0, xs, _, h => by
    cases xs with
    | nil => exact Nat.le_refl _
    | cons x xs => exact absurd (h x List.mem_cons_self) (Nat.not_lt_zero _)
  | n + 1, xs, hn, h => by
    by_cases hm : n ∈ xs
    · have h1 := nodup_lt n (xs.erase n) (hn.erase n) (fun x hx => by
        obtain ⟨h2, h3⟩ := hn.mem_erase_iff.1 hx
        have := h x h3
        omega)
      rw [List.length_erase_of_mem hm] at h1
      omega
    · have h1 := nodup_lt n xs hn (fun x hx => by
        have := h x hx
        have : x ≠ n := fun e => hm (e ▸ hx)
        omega)
      omega
theorem seen_size {pass : Int × Nat → Bool} {ks : List (Int × Nat)} {seen : Array Nat} (h : SeenOk pass ks seen) : seen.size ≤ ks.length := by
  have := nodup_lt ks.length seen.toList h.1 (fun s hs => by
    obtain ⟨p, hp, _⟩ := h.2 s hs
    obtain ⟨hl, _⟩ := List.getElem?_eq_some_iff.1 hp
    exact hl)
  simpa using this
theorem seen_push {pass : Int × Nat → Bool} {ks : List (Int × Nat)} {seen : Array Nat} (h : SeenOk pass ks seen) (i : Nat) (p : Int × Nat) (hi : ks[i]? = some p) (hn : i ∉ seen.toList) (hp : pass p = true) : SeenOk pass ks (seen.push i) := by
  refine ⟨?_, fun s hs => ?_⟩
  · rw [Array.toList_push]
    rw [List.nodup_append]
    exact ⟨h.1, by simp, fun a ha b hb => by rw [List.mem_singleton] at hb; subst hb; rintro rfl; exact hn ha⟩
  · rw [Array.toList_push, List.mem_append, List.mem_singleton] at hs
    rcases hs with hs | rfl
    · exact h.2 s hs
    · exact ⟨p, hi, hp⟩
theorem seen_end {pass : Int × Nat → Bool} {ks : List (Int × Nat)} {seen : Array Nat} {B : Nat} (h : SeenOk pass ks seen) (h0 : (leftOf (numsE B ks).toArray seen).size = 0) : ks.all pass = true := by
  rw [List.all_eq_true]
  intro p hp
  obtain ⟨i, hi, rfl⟩ := List.getElem_of_mem hp
  have hm : numE B (ks[i], i) ∈ (numsE B ks).toArray := by
    unfold numsE
    simp only [List.mem_toArray]
    exact List.mem_map.2 ⟨(ks[i], i), List.mem_zipIdx_iff_getElem?.2 (List.getElem?_eq_getElem hi), rfl⟩
  have hc : seen.contains i = true := by
    cases hc : seen.contains i with
    | true => rfl
    | false =>
      have : numE B (ks[i], i) ∈ leftOf (numsE B ks).toArray seen := by
        unfold leftOf
        exact Array.mem_filter.2 ⟨hm, by show (!seen.contains i) = true; rw [hc]; rfl⟩
      rw [Array.eq_empty_of_size_eq_zero h0] at this
      simp at this
  have hs : i ∈ seen.toList := by
    rw [Array.contains_iff_mem] at hc
    exact Array.mem_toList_iff.2 hc
  obtain ⟨p, hp1, hp2⟩ := h.2 i hs
  rw [List.getElem?_eq_getElem hi] at hp1
  cases hp1
  exact hp2
theorem seen_fail {pass : Int × Nat → Bool} {ks : List (Int × Nat)} (i : Nat) (p : Int × Nat) (hi : ks[i]? = some p) (hp : pass p = false) : ks.all pass = false := by
  rw [List.all_eq_false]
  exact ⟨p, List.mem_of_getElem? hi, by rw [hp]; simp⟩
end Go.Proofs.Ytgnmpfjpcdidjaa.P
