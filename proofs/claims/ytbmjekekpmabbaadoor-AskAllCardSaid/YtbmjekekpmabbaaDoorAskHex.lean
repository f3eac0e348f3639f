/- A text's hex digits; the line of a request is read as it: in plain Lean. Conditions: none. -/
import Derived.Test.YtbmjekekpmabbaaDoorAskLine
set_option linter.unusedVariables false
set_option linter.unusedSimpArgs false
namespace Go.Proofs.YtbmjekekpmabbaaDoor.P
open Go.RowKit Go.Proofs.YtbmjekekpmabbaaDoorW.PrintWords Go.Proofs.YtbmjekekpmabbaaDoorW.PrintLast Go.Proofs.YtbmjekekpmabbaaDoorW.PrintMore

def hexC (x : Int) : Int := if x < 10 then 48 + x else 87 + x
def hexT (bs : List Int) : List Int := bs.flatMap fun b => [hexC (b / 16), hexC (b % 16)]
theorem hex_cut : ∀ x < 16, (hexS.extract x (x + 1)) = strOfNums [hexC (x : Int)] := by decide +kernel
theorem hexI_C (x : Int) (h0 : 0 ≤ x) (h1 : x ≤ 15) : hexI (hexC x) = x := by
  unfold hexC hexI
  split <;> split <;> first
    | omega
    | (split <;> omega)
theorem hexC_rng (x : Int) (h0 : 0 ≤ x) (h1 : x ≤ 15) : 48 ≤ hexC x ∧ hexC x ≤ 102 := by
  unfold hexC
  split <;> omega
theorem hexT_rng (bs : List Int) (h : ∀ b ∈ bs, 0 ≤ b ∧ b ≤ 255) : ∀ x ∈ hexT bs, 48 ≤ x ∧ x ≤ 102 := by
  intro x hx
  obtain ⟨b, hb, hx⟩ := List.mem_flatMap.1 hx
  have := h b hb
  simp only [List.mem_cons, List.not_mem_nil, or_false] at hx
  rcases hx with rfl | rfl
  · exact hexC_rng _ (by omega) (by omega)
  · exact hexC_rng _ (by omega) (by omega)
theorem hexT_len : ∀ bs : List Int, (hexT bs).length = 2 * bs.length
  | [] => rfl
  | b :: bs => by
    show (hexC (b / 16) :: hexC (b % 16) :: hexT bs).length = _
    rw [List.length_cons, List.length_cons, hexT_len bs, List.length_cons]
    omega
theorem hexP_T : ∀ bs : List Int, (∀ b ∈ bs, 0 ≤ b ∧ b ≤ 255) → hexP (hexT bs) = some bs
  | [], _ => rfl
  | b :: bs, h => by
    have hb := h b List.mem_cons_self
    show hexP (hexC (b / 16) :: hexC (b % 16) :: hexT bs) = _
    rw [hexP_two, hexI_C _ (by omega) (by omega), hexI_C _ (by omega) (by omega), if_pos ⟨by omega, by omega⟩, hexP_T bs (fun x hx => h x (List.mem_cons_of_mem _ hx))]
    show some ((16 * (b / 16) + b % 16) :: bs) = _
    rw [show 16 * (b / 16) + b % 16 = b by omega]
def hexB (s : ByteArray) : ByteArray := if s.toList = [] then ⟨#[45]⟩ else strOfNums (hexT (bytesOf s))
theorem bytes_rng (s : ByteArray) : ∀ b ∈ bytesOf s, 0 ≤ b ∧ b ≤ 255 := by
  intro b hb
  obtain ⟨c, _, rfl⟩ := List.mem_map.1 hb
  have := c.toNat_lt
  omega
theorem hex_l (s : ByteArray) (hs : s.size ≤ 1000000) : ∀ (n i : Nat) (acc : ByteArray), i + n = s.size → acc.size ≤ 2 * i → scriniumref1_Hex.l0 (n + 1) s acc (i : Int) = some (acc ++ strOfNums (hexT ((bytesOf s).drop i)))
  | 0, i, acc, hi, ha => by
    rw [scriniumref1_Hex.l0, if_neg (by omega), List.drop_eq_nil_of_le (by rw [bytesOf_length]; omega)]
    congr 1
    apply bl_inj
    rw [bl_append]
    simp [bl, hexT, strOfNums]
  | n + 1, i, acc, hi, ha => by
    obtain ⟨r0, r1⟩ := bt_range s (i : Int)
    have e1 : (Int.tdiv (bt s (i : Int)) 16) % 256 = ((bt s (i : Int) / 16).toNat : Int) := by rw [Int.tdiv_eq_ediv_of_nonneg r0]; omega
    have e2 : Int.tmod (bt s (i : Int)) 16 = ((bt s (i : Int) % 16).toNat : Int) := by rw [Int.tmod_eq_emod_of_nonneg r0]; omega
    have n1 : (bt s (i : Int) / 16).toNat < 16 := by omega
    have n2 : (bt s (i : Int) % 16).toNat < 16 := by omega
    have f1 : (((bt s (i : Int) / 16).toNat : Int) + 1) % 256 = (((bt s (i : Int) / 16).toNat + 1 : Nat) : Int) := by omega
    have f2 : (((bt s (i : Int) % 16).toNat : Int) + 1) % 256 = (((bt s (i : Int) % 16).toNat + 1 : Nat) : Int) := by omega
    have g1 := hex_cut _ n1
    have g2 := hex_cut _ n2
    unfold hexS at g1 g2
    rw [scriniumref1_Hex.l0, if_pos (by omega), if_pos (by omega), e1, e2, f1, f2, Int.toNat_natCast, Int.toNat_natCast, Int.toNat_natCast, Int.toNat_natCast, g1, g2, strOfNums_size, strOfNums_size]
    rw [if_pos (by omega), if_pos (by omega), if_pos (by omega), if_pos (by simp; omega), if_pos (by omega), if_pos (by omega), if_pos (by omega), if_pos (by rw [ByteArray.size_append, strOfNums_size]; simp; omega), IntWalk.wrap64_in _ (by omega)]
    have h := hex_l s hs n (i + 1) (acc ++ strOfNums [hexC ((bt s (i : Int) / 16).toNat : Int)] ++ strOfNums [hexC ((bt s (i : Int) % 16).toNat : Int)]) (by omega) (by rw [ByteArray.size_append, ByteArray.size_append, strOfNums_size, strOfNums_size]; simp; omega)
    rw [show ((i : Int) + 1) = ((i + 1 : Nat) : Int) by omega, h, bytes_drop (show i < s.size by omega)]
    congr 1
    rw [ByteArray.append_assoc, ByteArray.append_assoc, str_app, str_app]
    congr 2
    show _ = hexC (bt s (i : Int) / 16) :: hexC (bt s (i : Int) % 16) :: hexT ((bytesOf s).drop (i + 1))
    rw [show ((bt s (i : Int) / 16).toNat : Int) = bt s (i : Int) / 16 by omega, show ((bt s (i : Int) % 16).toNat : Int) = bt s (i : Int) % 16 by omega]
    rfl
theorem hex_ok (s : ByteArray) (hs : s.size ≤ 1000000) (k : Nat) (hk : s.size + 1 ≤ k) : scriniumref1_Hex.f k s = some (hexB s) := by
  refine at_rounds (fun k => scriniumref1_Hex.mono s k) hk ?_
  unfold scriniumref1_Hex.f hexB
  by_cases h : s.toList = []
  · rw [if_pos h, if_pos h]
  · rw [if_neg h, if_neg h, show (0 : Int) = ((0 : Nat) : Int) from rfl, hex_l s hs s.size 0 _ (by omega) (Nat.le_refl _), List.drop_zero]
    congr 1
theorem hexB_bytes (s : ByteArray) (h : s.toList ≠ []) : bytesOf (hexB s) = hexT (bytesOf s) := by
  unfold hexB
  rw [if_neg h]
  exact strOf_bytes _ fun x hx => by have := hexT_rng _ (bytes_rng s) x hx; omega
theorem size_pos {s : ByteArray} (h : s.toList ≠ []) : 0 < s.size := by
  rw [bl_size]
  unfold bl
  rw [← Lib.toList_data]
  exact List.length_pos_iff.2 h
theorem hexB_size (s : ByteArray) : (hexB s).size ≤ 2 * s.size + 1 := by
  by_cases h : s.toList = []
  · unfold hexB
    rw [if_pos h]
    show 1 ≤ _
    omega
  · rw [← bytesOf_length, hexB_bytes s h, hexT_len, bytesOf_length]
    omega
theorem hexB_word (s : ByteArray) : IsW (bl (hexB s)) := by
  by_cases h : s.toList = []
  · unfold hexB
    rw [if_pos h]
    exact ⟨by decide, by decide⟩
  · refine ⟨fun e => ?_, fun h32 => ?_⟩
    · have h1 : (hexB s).size = 2 * s.size := by rw [← bytesOf_length, hexB_bytes s h, hexT_len, bytesOf_length]
      have := size_pos h
      rw [bl_size, e] at h1
      simp at h1
      omega
    · have h1 := mem_bl h32
      rw [hexB_bytes s h] at h1
      have := hexT_rng _ (bytes_rng s) _ h1
      simp at this
theorem text_hex (s : ByteArray) : textP (hexB s) = some s := by
  by_cases h : s.toList = []
  · unfold hexB
    rw [if_pos h]
    have hs : s = ⟨#[]⟩ := by
      apply bl_inj
      unfold bl
      rw [← Lib.toList_data, h]
    rw [hs]
    unfold textP
    rw [if_pos (by decide +kernel)]
  · have hp := size_pos h
    have h1 : (hexB s).size = 2 * s.size := by rw [← bytesOf_length, hexB_bytes s h, hexT_len, bytesOf_length]
    unfold textP
    rw [if_neg, if_neg (by omega), hexB_bytes s h, hexP_T _ (bytes_rng s)]
    · show some (strOfNums (bytesOf s)) = some s
      congr 1
      apply bytes_inj
      exact strOf_bytes _ (bytes_rng s)
    · intro e
      have := congrArg List.length e
      rw [Lib.toList_data, ← Lib.size_eq, h1] at this
      simp at this
      omega
end Go.Proofs.YtbmjekekpmabbaaDoor.P
