/- The statement AskBytes, in plain Lean. Conditions: none. -/
import Derived.Test.YtbmjekekpmabbaaDoorAskCuts
import Derived.Test.YtbmjekekpmabbaaDoorP12
set_option linter.unusedVariables false
set_option linter.unusedSimpArgs false
namespace Go.Proofs.YtbmjekekpmabbaaDoor.P
open Go.RowKit Go.Proofs.YtbmjekekpmabbaaDoorW.PrintWords Go.Proofs.YtbmjekekpmabbaaDoorW.PrintLast Go.Proofs.YtbmjekekpmabbaaDoorW.PrintMore

theorem xor_other (v b : Int) (h0 : 0 ≤ v) (h1 : v ≤ 255) (h2 : 0 < b) (h3 : b ≤ 255) : Go.bits .xor .u8 v b ≠ v ∧ 0 ≤ Go.bits .xor .u8 v b ∧ Go.bits .xor .u8 v b ≤ 255 := by
  rw [u8_xor v b h0 (by omega) (by omega) (by omega)]
  have hlt : v.toNat ^^^ b.toNat < 2 ^ 8 := Nat.xor_lt_two_pow (by omega) (by omega)
  refine ⟨fun e => ?_, by omega, by omega⟩
  have e1 : v.toNat ^^^ b.toNat = v.toNat := by omega
  have e2 := congrArg (fun z => v.toNat ^^^ z) e1
  simp only [← Nat.xor_assoc, Nat.xor_self, Nat.zero_xor] at e2
  omega
theorem byte_turned (s : ByteArray) (k : Nat) (hk : k < s.size) (v : Int) (h0 : 0 ≤ v) (h1 : v ≤ 255) : bt (s.extract 0 k ++ strOfNums [v] ++ s.extract (k + 1) s.size) (k : Int) = v := by
  have hs : (s.extract 0 k).size = k := by rw [ByteArray.size_extract]; omega
  have hn : (strOfNums [v]).size = 1 := strOfNums_size [v]
  have h2 := bytes_at (s := s.extract 0 k ++ strOfNums [v] ++ s.extract (k + 1) s.size) (k := k) (by rw [ByteArray.size_append, ByteArray.size_append, hs, hn]; omega)
  rw [bytesOf_app, bytesOf_app, strOf_bytes [v] (by intro x hx; simp at hx; omega)] at h2
  have hl : (bytesOf (s.extract 0 k)).length = k := by rw [bytesOf_length, hs]
  rw [List.append_assoc, List.getElem?_append_right (by rw [hl]; exact Nat.le_refl _), hl, Nat.sub_self] at h2
  injection h2 with h2
  exact h2.symm
theorem bytes_j (a : AskV) (a1 a2 : Int) (ht : ¬ (a.text.size : Int) > 100) (h2 : 0 < a2) (h3 : a2 ≤ 255) : scriniumlaw20_AskBytes.j0 (29 + 1) a1 a2 false a.kind a.id a.fr a.tt a.snap a.text = some true := by
  rw [scriniumlaw20_AskBytes.j0, if_neg (by decide), put_at a 29 (by decide) (by omega), Option.bind_some]
  cases ho : a.ok with
  | false =>
    rw [putO_no ho]
    dsimp only
    rw [if_neg (by decide)]
    rfl
  | true =>
    have hsz := putK_size a
    rw [putO_ok ho]
    dsimp only
    rw [if_pos rfl, if_neg (by omega)]
    obtain ⟨x, hx⟩ : ∃ x, Int.tmod (wrap64 (Int.tmod a1 ((putK a).size : Int) + ((putK a).size : Int))) ((putK a).size : Int) = x := ⟨_, rfl⟩
    obtain ⟨m1, m2⟩ := mod_place a1 ((putK a).size : Int) (by omega) (by omega)
    rw [hx] at m1 m2 ⊢
    obtain ⟨k, rfl⟩ := Int.eq_ofNat_of_zero_le m1
    have hk : k < (putK a).size := by omega
    obtain ⟨r0, r1⟩ := bt_range (putK a) (k : Int)
    obtain ⟨x0, x1, x2⟩ := xor_other (bt (putK a) (k : Int)) a2 r0 r1 h2 h3
    have hw : wrap64 ((k : Int) + 1) = ((k + 1 : Nat) : Int) := by rw [IntWalk.wrap64_in _ (by omega)]; omega
    have hn : (strOfNums [Go.bits .xor .u8 (bt (putK a) (k : Int)) a2]).size = 1 := strOfNums_size _
    have z1 : ((putK a).extract 0 k).size = k := by rw [ByteArray.size_extract]; omega
    have z2 : ((putK a).extract (k + 1) (putK a).size).size = (putK a).size - (k + 1) := by rw [ByteArray.size_extract]; omega
    have z3 : ((putK a).extract 0 k ++ strOfNums [Go.bits .xor .u8 (bt (putK a) (k : Int)) a2]).size = k + 1 := by rw [ByteArray.size_append, z1, hn]
    rw [if_pos m1, if_pos (by omega), if_pos m2, Option.bind_some, Int.toNat_natCast, hw, Int.toNat_natCast, z1, hn, if_pos (by omega), if_pos (by omega), if_pos (by omega), z3, z2, if_pos (by omega)]
    unfold ask_Get.f
    rw [if_pos (by rw [ByteArray.size_append, z3, z2]; omega), Option.bind_some]
    cases hg : getOf ((putK a).extract 0 k ++ strOfNums [Go.bits .xor .u8 (bt (putK a) (k : Int)) a2] ++ (putK a).extract (k + 1) (putK a).size) with
    | none => rfl
    | some c =>
      rw [tup_some, if_pos (show (some c).isSome = true from rfl)]
      obtain ⟨hc, he⟩ := get_some hg
      have hne : c ≠ a := fun e => by
        subst e
        have := byte_turned (putK c) k hk _ x1 x2
        rw [← he] at this
        exact x0 this.symm
      have hb : ((tupOf (some c)).1 == a.kind && ((tupOf (some c)).2.1 == a.id && ((tupOf (some c)).2.2.1 == a.fr && ((tupOf (some c)).2.2.2.1 == a.tt && ((tupOf (some c)).2.2.2.2.1 == a.snap && ((tupOf (some c)).2.2.2.2.2.1.toList == a.text.toList)))))) = false := by
        rw [Bool.eq_false_iff]
        intro h
        simp only [Bool.and_eq_true, beq_iff_eq] at h
        obtain ⟨e1, e2, e3, e4, e5, e6⟩ := h
        apply hne
        have e7 := toList_inj e6
        cases c
        cases a
        simp only [tupOf, Option.getD_some] at e1 e2 e3 e4 e5 e7
        simp only [e1, e2, e3, e4, e5, e7]
      simp only [← Bool.not_and, hb, Bool.not_false]
theorem wf_byte (x : Int) (h : (Lit.int .u8 x).wf = true) : 0 ≤ x ∧ x ≤ 255 := by
  simp only [Lit.wf, Bool.and_eq_true, decide_eq_true_eq] at h
  have e0 : IntKind.u8.min = 0 := rfl
  have e1 : IntKind.u8.max = 255 := rfl
  omega
theorem bytes_pure (a : AskV) (a1 a2 : Int) (hw : (Lit.int .u8 a2).wf = true) : scriniumlaw20_AskBytes.f 30 a.kind a.id a.fr a.tt a.snap a.text a1 a2 = some true := by
  have hj : ∀ (x y : Int), scriniumlaw20_AskBytes.j0 30 x y true a.kind a.id a.fr a.tt a.snap a.text = some true := fun x y => by simp [scriniumlaw20_AskBytes.j0, alive_at]
  have hr := wf_byte a2 hw
  unfold scriniumlaw20_AskBytes.f
  by_cases h1 : (a.text.size : Int) > 100
  · rw [if_pos h1, hj]
  · rw [if_neg h1]
    by_cases h2 : a2 = 0
    · rw [if_pos h2, hj]
    · rw [if_neg h2, alive_at 30 (by decide), Option.bind_some]
      exact bytes_j a a1 a2 h1 (by omega) hr.2
theorem bytes_calls20 (k i f t s : Int) (x : ByteArray) (a1 a2 : Int) (w : World) (_ : ((Lit.int .i64 k).wf = true ∧ (Lit.int .i64 i).wf = true ∧ (Lit.int .i64 f).wf = true ∧ (Lit.int .i64 t).wf = true ∧ (Lit.int .i64 s).wf = true)) (_ : x.size ≤ 9223372036854775807) (_ : (Lit.int .i64 a1).wf = true) (hw : (Lit.int .u8 a2).wf = true) : Calls Tryd.prog 8 #[.agg #[.int .i64 k, .int .i64 i, .int .i64 f, .int .i64 t, .int .i64 s, .string x], .int .i64 a1, .int .u8 a2] w fun e w' => e = .returned (.bool true) ∧ Below w.heap.size w w' := scriniumlaw20_AskBytes.calls 30 k i f t s x a1 a2 true w (bytes_pure ⟨k, i, f, t, s, x⟩ a1 a2 hw)
end Go.Proofs.YtbmjekekpmabbaaDoor.P
