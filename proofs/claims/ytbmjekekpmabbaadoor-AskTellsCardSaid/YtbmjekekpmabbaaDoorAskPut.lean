/- A request as bytes, and back, in plain Lean. Conditions: none. -/
import Derived.Test.YtbmjekekpmabbaaDoorAskRef
set_option linter.unusedVariables false
set_option linter.unusedSimpArgs false
namespace Go.Proofs.YtbmjekekpmabbaaDoor.P
open Go.RowKit Go.Proofs.YtbmjekekpmabbaaDoorW.PrintWords Go.Proofs.YtbmjekekpmabbaaDoorW.PrintLast Go.Proofs.YtbmjekekpmabbaaDoorW.PrintMore

theorem bytesOf_app (s t : ByteArray) : bytesOf (s ++ t) = bytesOf s ++ bytesOf t := by
  unfold bytesOf
  rw [show (s ++ t).data.toList = s.data.toList ++ t.data.toList by simp, List.map_append]
theorem strOf_bytes : ∀ xs : List Int, (∀ x ∈ xs, 0 ≤ x ∧ x ≤ 255) → bytesOf (strOfNums xs) = xs := by
  intro xs h
  unfold bytesOf
  rw [strOfNums_data, List.map_map]
  conv => rhs; rw [← List.map_id xs]
  refine List.map_congr_left fun x hx => ?_
  have := h x hx
  show ((UInt8.ofNat x.toNat).toNat : Int) = x
  rw [UInt8.toNat_ofNat']
  omega
theorem bytes_inj {s t : ByteArray} (h : bytesOf s = bytesOf t) : s = t := by
  apply bl_inj
  unfold bytesOf at h
  exact (List.map_inj_right (fun a b e => UInt8.toNat_inj.1 (by exact_mod_cast e))).1 h
def putB (a : AskV) : List Int := [a.kind % 256, a.id / 256 % 256, a.id % 256, a.fr / 256 % 256, a.fr % 256, a.tt / 256 % 256, a.tt % 256, a.snap / 256 % 256, a.snap % 256, (a.text.size : Int) % 256]
theorem putB_rng (a : AskV) : ∀ x ∈ putB a, 0 ≤ x ∧ x ≤ 255 := by
  intro x hx
  simp only [putB, List.mem_cons, List.not_mem_nil, or_false] at hx
  omega
theorem putK_bytes (a : AskV) : bytesOf (putK a) = putB a ++ bytesOf a.text := by
  show bytesOf (strOfNums (putB a) ++ a.text) = _
  rw [bytesOf_app, strOf_bytes _ (putB_rng a)]
theorem putK_size (a : AskV) : (putK a).size = 10 + a.text.size := by
  rw [← bytesOf_length, putK_bytes, List.length_append, bytesOf_length]
  rfl
theorem putK_at (a : AskV) (i : Nat) (h : i < 10) : (putB a)[i]? = some (bt (putK a) (i : Int)) := by
  have h1 := bytes_at (s := putK a) (k := i) (by rw [putK_size]; omega)
  rw [putK_bytes, List.getElem?_append_left (by show i < 10; exact h)] at h1
  exact h1
theorem ok_rng {a : AskV} (h : a.ok = true) : (1 ≤ a.kind ∧ a.kind ≤ 9) ∧ (0 ≤ a.id ∧ a.id ≤ 65535) ∧ (0 ≤ a.fr ∧ a.fr ≤ 65535) ∧ (0 ≤ a.tt ∧ a.tt ≤ 65535) ∧ (0 ≤ a.snap ∧ a.snap ≤ 65535) ∧ a.text.size ≤ 40 := askB_rng h
theorem put_nine {a : AskV} (h : a.ok = true) : bt (putK a) 9 = a.text.size := by
  have h1 := putK_at a 9 (by decide)
  have h2 := (ok_rng h).2.2.2.2.2
  simp only [putB, List.getElem?_cons_succ, List.getElem?_cons_zero, Option.some.injEq] at h1
  show bt (putK a) ((9 : Nat) : Int) = _
  rw [← h1]
  omega
theorem getV_put {a : AskV} (h : a.ok = true) : getV (putK a) = a := by
  obtain ⟨k, i, f, t, s, x⟩ := ok_rng h
  have g : ∀ (j : Nat) (y : Int), j < 10 → (putB a)[j]? = some y → bt (putK a) (j : Int) = y := fun j y hj hy => by
    have := putK_at a j hj
    rw [hy] at this
    injection this with this
    exact this.symm
  have e0 := g 0 _ (by decide) rfl
  have e1 := g 1 _ (by decide) rfl
  have e2 := g 2 _ (by decide) rfl
  have e3 := g 3 _ (by decide) rfl
  have e4 := g 4 _ (by decide) rfl
  have e5 := g 5 _ (by decide) rfl
  have e6 := g 6 _ (by decide) rfl
  have e7 := g 7 _ (by decide) rfl
  have e8 := g 8 _ (by decide) rfl
  have et : (putK a).extract 10 (putK a).size = a.text := by
    apply bytes_inj
    have h1 : bytesOf ((putK a).extract 10 (putK a).size) = (bytesOf (putK a)).drop 10 := by
      unfold bytesOf
      rw [Lib.extract_data, List.take_of_length_le (by rw [List.length_drop, ← Lib.size_eq]; exact Nat.le_refl _), List.map_drop]
    rw [h1, putK_bytes]
    rfl
  unfold getV numAt
  rw [et]
  show AskV.mk (bt (putK a) ((0 : Nat) : Int)) (bt (putK a) ((1 : Nat) : Int) * 256 + bt (putK a) ((2 : Nat) : Int)) (bt (putK a) ((3 : Nat) : Int) * 256 + bt (putK a) ((4 : Nat) : Int)) (bt (putK a) ((5 : Nat) : Int) * 256 + bt (putK a) ((6 : Nat) : Int)) (bt (putK a) ((7 : Nat) : Int) * 256 + bt (putK a) ((8 : Nat) : Int)) a.text = a
  rw [e0, e1, e2, e3, e4, e5, e6, e7, e8]
  cases a
  simp only at k i f t s x ⊢
  congr 1 <;> omega
theorem get_put {a : AskV} (h : a.ok = true) : getOf (putK a) = some a := by
  unfold getOf
  rw [if_neg (by rw [putK_size]; omega), getV_put h, if_pos ⟨h, rfl⟩]
theorem toList_inj {s t : ByteArray} (h : s.toList = t.toList) : s = t := by
  rw [Lib.toList_data, Lib.toList_data] at h
  exact bl_inj h
theorem get_some {s : ByteArray} {c : AskV} (h : getOf s = some c) : c.ok = true ∧ putK c = s := by
  unfold getOf at h
  split at h
  · cases h
  · split at h
    · rename_i h1
      injection h with h
      rw [← h]
      exact ⟨h1.1, toList_inj h1.2⟩
    · cases h
theorem get_sized {s : ByteArray} {c : AskV} (h : getOf s = some c) : s.size = 10 + c.text.size ∧ bt s 9 = c.text.size := by
  obtain ⟨h1, rfl⟩ := get_some h
  exact ⟨putK_size c, put_nine h1⟩
theorem bt_app {s t : ByteArray} {i : Nat} (h : i < s.size) : bt (s ++ t) (i : Int) = bt s (i : Int) := by
  have h1 := bytes_at (s := s ++ t) (k := i) (by rw [ByteArray.size_append]; omega)
  rw [bytesOf_app, List.getElem?_append_left (by rw [bytesOf_length]; exact h), bytes_at h] at h1
  injection h1 with h1
  exact h1.symm
theorem bt_cut {s : ByteArray} {i j : Nat} (h : i < j) (hj : j ≤ s.size) : bt (s.extract 0 j) (i : Int) = bt s (i : Int) := by
  have h1 := bytes_at (s := s.extract 0 j) (k := i) (by rw [ByteArray.size_extract]; omega)
  have e : bytesOf (s.extract 0 j) = (bytesOf s).take j := by
    unfold bytesOf
    rw [Lib.extract_data, List.drop_zero, Nat.sub_zero, List.map_take]
  rw [e, List.getElem?_take_of_lt h, bytes_at (by omega)] at h1
  injection h1 with h1
  exact h1.symm
theorem get_cut {a : AskV} (h : a.ok = true) (j : Nat) (hj : j < (putK a).size) : getOf ((putK a).extract 0 j) = none := by
  cases hg : getOf ((putK a).extract 0 j) with
  | none => rfl
  | some c =>
    obtain ⟨h1, h2⟩ := get_sized hg
    rw [ByteArray.size_extract] at h1
    have h9 : 9 < j := by omega
    have h3 := bt_cut (s := putK a) h9 (by omega)
    have h4 := put_nine h
    have h5 : bt ((putK a).extract 0 j) ((9 : Nat) : Int) = bt (putK a) ((9 : Nat) : Int) := h3
    have h6 : bt ((putK a).extract 0 j) ((9 : Nat) : Int) = c.text.size := h2
    have h7 : bt (putK a) ((9 : Nat) : Int) = a.text.size := h4
    have h8 := putK_size a
    omega
theorem get_long {a : AskV} (h : a.ok = true) (t : ByteArray) (ht : 0 < t.size) : getOf (putK a ++ t) = none := by
  cases hg : getOf (putK a ++ t) with
  | none => rfl
  | some c =>
    obtain ⟨h1, h2⟩ := get_sized hg
    rw [ByteArray.size_append] at h1
    have h8 := putK_size a
    have h5 : bt (putK a ++ t) ((9 : Nat) : Int) = bt (putK a) ((9 : Nat) : Int) := bt_app (by omega)
    have h6 : bt (putK a ++ t) ((9 : Nat) : Int) = c.text.size := h2
    have h7 : bt (putK a) ((9 : Nat) : Int) = a.text.size := put_nine h
    omega
theorem putO_ok {a : AskV} (h : a.ok = true) : putO a = (putK a, true) := by unfold putO; rw [if_pos h]
theorem putO_no {a : AskV} (h : a.ok = false) : putO a = (⟨#[]⟩, false) := by unfold putO; rw [if_neg (by rw [h]; decide)]
theorem empty_nil : ((⟨#[]⟩ : ByteArray).toList == ([] : List UInt8)) = true := by decide +kernel
theorem put_at (a : AskV) (n : Nat) (h : 5 ≤ n) (hs : a.text.size ≤ 1000000) : ask_Put.f n a.kind a.id a.fr a.tt a.snap a.text = some ((putO a).1, (putO a).2) := at_rounds (fun n => ask_Put.mono _ _ _ _ _ _ n) h (put_told a hs)
end Go.Proofs.YtbmjekekpmabbaaDoor.P
