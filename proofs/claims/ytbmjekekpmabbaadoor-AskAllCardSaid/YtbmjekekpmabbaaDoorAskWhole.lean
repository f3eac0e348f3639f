/- The line of a request is read as it, in plain Lean. Conditions: none. -/
import Derived.Test.YtbmjekekpmabbaaDoorAskHex
set_option linter.unusedVariables false
set_option linter.unusedSimpArgs false
namespace Go.Proofs.YtbmjekekpmabbaaDoor.P
open Go.RowKit Go.Proofs.YtbmjekekpmabbaaDoorW.PrintWords Go.Proofs.YtbmjekekpmabbaaDoorW.PrintLast Go.Proofs.YtbmjekekpmabbaaDoorW.PrintMore

def fieldC (a : AskV) (c : Int) : Int := if c = 105 then a.id else if c = 102 then a.fr else if c = 111 then a.tt else a.snap
def wordC (a : AskV) (c : Int) : ByteArray := if c = 116 then hexB a.text else digB (fieldC a c)
theorem ok_zero {has : ByteArray} {c : UInt8} {n : Int} (h : letOk has c n = true) (hc : hasC has c = false) : n = 0 := by
  unfold letOk at h
  rw [hc] at h
  simp only [Bool.or_false, Bool.and_eq_true, decide_eq_true_eq] at h
  omega
theorem ok_parts {a : AskV} (h : a.ok = true) : (a.text.toList.isEmpty || hasC (hasOf a.kind) 116) = true ∧ letOk (hasOf a.kind) 105 a.id = true ∧ letOk (hasOf a.kind) 102 a.fr = true ∧ letOk (hasOf a.kind) 111 a.tt = true ∧ letOk (hasOf a.kind) 115 a.snap = true := by
  unfold AskV.ok askB at h
  simp only [Bool.and_eq_true] at h
  exact ⟨h.2.2.1, h.2.2.2.1, h.2.2.2.2.1, h.2.2.2.2.2.1, h.2.2.2.2.2.2⟩
theorem ok_text {a : AskV} (h : a.ok = true) (hc : hasC (hasOf a.kind) 116 = false) : a.text = ⟨#[]⟩ := by
  have := (ok_parts h).1
  rw [hc, Bool.or_false] at this
  apply toList_inj
  rw [List.isEmpty_iff.1 this]
  decide +kernel
def hasBytes (k : Int) : List Int := if k = 1 then [116] else if k = 2 then [105] else if k = 3 then [116, 115] else if k = 4 then [116, 115] else if k = 5 then [105, 102, 111, 115] else if k = 6 then [115] else if k = 7 then [105, 111, 115] else if k = 9 then [115] else []
theorem has_bytes (k : Int) (h1 : 1 ≤ k) (h2 : k ≤ 9) : bytesOf (hasOf k) = hasBytes k ∧ hasC (hasOf k) 116 = (hasBytes k).contains 116 ∧ hasC (hasOf k) 105 = (hasBytes k).contains 105 ∧ hasC (hasOf k) 102 = (hasBytes k).contains 102 ∧ hasC (hasOf k) 111 = (hasBytes k).contains 111 ∧ hasC (hasOf k) 115 = (hasBytes k).contains 115 := by
  rcases (show k = 1 ∨ k = 2 ∨ k = 3 ∨ k = 4 ∨ k = 5 ∨ k = 6 ∨ k = 7 ∨ k = 8 ∨ k = 9 by omega) with rfl | rfl | rfl | rfl | rfl | rfl | rfl | rfl | rfl <;> decide +kernel
theorem fill_line (a : AskV) (h : a.ok = true) : fillL (bytesOf (hasOf a.kind)) ((bytesOf (hasOf a.kind)).map (wordC a)) { zeroV with kind := a.kind } = some a := by
  obtain ⟨k, i, f, t, s, x⟩ := ok_rng h
  obtain ⟨p0, p1, p2, p3, p4⟩ := ok_parts h
  have pt := ok_text h
  obtain ⟨e0, et, e1, e2, e3, e4⟩ := has_bytes a.kind k.1 k.2
  have z1 := fun hc => ok_zero p1 hc
  have z2 := fun hc => ok_zero p2 hc
  have z3 := fun hc => ok_zero p3 hc
  have z4 := fun hc => ok_zero p4 hc
  rw [e0]
  rw [et] at pt
  rw [e1] at z1
  rw [e2] at z2
  rw [e3] at z3
  rw [e4] at z4
  have d1 := num_dig a.id i.1 i.2
  have d2 := num_dig a.fr f.1 f.2
  have d3 := num_dig a.tt t.1 t.2
  have d4 := num_dig a.snap s.1 s.2
  have d5 := text_hex a.text
  clear h p0 p1 p2 p3 p4 e0 et e1 e2 e3 e4 i f t s x
  obtain ⟨ak, ai, af, at_, as_, ax⟩ := a
  dsimp only at *
  rcases (show ak = 1 ∨ ak = 2 ∨ ak = 3 ∨ ak = 4 ∨ ak = 5 ∨ ak = 6 ∨ ak = 7 ∨ ak = 8 ∨ ak = 9 by omega) with rfl | rfl | rfl | rfl | rfl | rfl | rfl | rfl | rfl
  all_goals
    simp [hasBytes, zeroV, fillL, wordC, fieldC, d1, d2, d3, d4, d5, AskV.setN] at pt z1 z2 z3 z4 ⊢
    try simp [*]
theorem read_line {a : AskV} (h : a.ok = true) {s : ByteArray} {k : Nat} (hs : bl s = bl (nameOf a.kind) ++ joinW k ((bytesOf (hasOf a.kind)).map fun c => bl (wordC a c))) : readOf s = some a := by
  obtain ⟨hk, _⟩ := ok_rng h
  have hw : ∀ w ∈ (bytesOf (hasOf a.kind)).map (fun c => bl (wordC a c)), IsW w := by
    intro w hw
    obtain ⟨c, _, rfl⟩ := List.mem_map.1 hw
    unfold wordC
    split
    · exact hexB_word _
    · exact digB_word _
  have e : ((bytesOf (hasOf a.kind)).map (fun c => bl (wordC a c))).map ofL = (bytesOf (hasOf a.kind)).map (wordC a) := by
    rw [List.map_map]
    exact List.map_congr_left fun c _ => ofL_bl _
  rw [read_join hs (name_word a.kind hk.1 hk.2) hw, ofL_bl, kind_name a.kind hk.1 hk.2, if_neg, e, fill_line a h, Option.bind_some, if_pos h]
  rw [List.length_map, bytesOf_length]
  intro h'
  rcases h' with h' | h'
  · omega
  · exact h' rfl
end Go.Proofs.YtbmjekekpmabbaaDoor.P
