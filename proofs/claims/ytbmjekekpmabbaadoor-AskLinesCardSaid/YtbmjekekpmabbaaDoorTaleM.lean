/- A text's hex digits; the line of a request is read as it: in plain Lean. Conditions: none. -/
import Derived.Test.YtbmjekekpmabbaaDoorAskLine
section
set_option linter.unusedVariables false
set_option linter.unusedSimpArgs false
namespace Go.Proofs.YtbmjekekpmabbaaDoor.P
open Go.RowKit Go.Proofs.YtbmjekekpmabbaaDoorW.PrintWords Go.Proofs.YtbmjekekpmabbaaDoorW.PrintLast Go.Proofs.YtbmjekekpmabbaaDoorW.PrintMore

def hexC (x : Int) : Int := if x < 10 then 48 + x else 87 + x
def hexT (bs : List Int) : List Int := bs.flatMap fun b => [hexC (b / 16), hexC (b % 16)]
theorem hex_cut : ∀ x < 16, (hexS.extract x (x + 1)) = strOfNums [hexC (x : Int)] := by decide +kernel
theorem hexI_C (x : Int) (h0 : 0 ≤ x) (h1 : x ≤ 15) : hexI (hexC x) = x := by
  unfold hexC hexI
  split <;> split <;> first
    | omega
    | (split <;> omega)
theorem hexC_rng (x : Int) (h0 : 0 ≤ x) (h1 : x ≤ 15) : 48 ≤ hexC x ∧ hexC x ≤ 102 := by
  unfold hexC
  split <;> omega
theorem hexT_rng (bs : List Int) (h : ∀ b ∈ bs, 0 ≤ b ∧ b ≤ 255) : ∀ x ∈ hexT bs, 48 ≤ x ∧ x ≤ 102 := by
  intro x hx
  obtain ⟨b, hb, hx⟩ := List.mem_flatMap.1 hx
  have := h b hb
  simp only [List.mem_cons, List.not_mem_nil, or_false] at hx
  rcases hx with rfl | rfl
  · exact hexC_rng _ (by omega) (by omega)
  · exact hexC_rng _ (by omega) (by omega)
theorem hexT_len : ∀ bs : List Int, (hexT bs).length = 2 * bs.length
  | [] => rfl
  | b :: bs => by
    show (hexC (b / 16) :: hexC (b % 16) :: hexT bs).length = _
    rw [List.length_cons, List.length_cons, hexT_len bs, List.length_cons]
    omega
theorem hexP_T : ∀ bs : List Int, (∀ b ∈ bs, 0 ≤ b ∧ b ≤ 255) → hexP (hexT bs) = some bs
  | [], _ => rfl
  | b :: bs, h => by
    have hb := h b List.mem_cons_self
    show hexP (hexC (b / 16) :: hexC (b % 16) :: hexT bs) = _
    rw [hexP_two, hexI_C _ (by omega) (by omega), hexI_C _ (by omega) (by omega), if_pos ⟨by omega, by omega⟩, hexP_T bs (fun x hx => h x (List.mem_cons_of_mem _ hx))]
    show some ((16 * (b / 16) + b % 16) :: bs) = _
    rw [show 16 * (b / 16) + b % 16 = b by omega]
def hexB (s : ByteArray) : ByteArray := if s.toList = [] then ⟨#[45]⟩ else strOfNums (hexT (bytesOf s))
theorem bytes_rng (s : ByteArray) : ∀ b ∈ bytesOf s, 0 ≤ b ∧ b ≤ 255 := by
  intro b hb
  obtain ⟨c, _, rfl⟩ := List.mem_map.1 hb
  have := c.toNat_lt
  omega
theorem hex_l (s : ByteArray) (hs : s.size ≤ 1000000) : ∀ (n i : Nat) (acc : ByteArray), i + n = s.size → acc.size ≤ 2 * i → scriniumref1_Hex.l0 (n + 1) s acc (i : Int) = some (acc ++ strOfNums (hexT ((bytesOf s).drop i)))
  | 0, i, acc, hi, ha => by
    rw [scriniumref1_Hex.l0, if_neg (by omega), List.drop_eq_nil_of_le (by rw [bytesOf_length]; omega)]
    congr 1
    apply bl_inj
    rw [bl_append]
    simp [bl, hexT, strOfNums]
  | n + 1, i, acc, hi, ha => by
    obtain ⟨r0, r1⟩ := bt_range s (i : Int)
    have e1 : (Int.tdiv (bt s (i : Int)) 16) % 256 = ((bt s (i : Int) / 16).toNat : Int) := by rw [Int.tdiv_eq_ediv_of_nonneg r0]; omega
    have e2 : Int.tmod (bt s (i : Int)) 16 = ((bt s (i : Int) % 16).toNat : Int) := by rw [Int.tmod_eq_emod_of_nonneg r0]; omega
    have n1 : (bt s (i : Int) / 16).toNat < 16 := by omega
    have n2 : (bt s (i : Int) % 16).toNat < 16 := by omega
    have f1 : (((bt s (i : Int) / 16).toNat : Int) + 1) % 256 = (((bt s (i : Int) / 16).toNat + 1 : Nat) : Int) := by omega
    have f2 : (((bt s (i : Int) % 16).toNat : Int) + 1) % 256 = (((bt s (i : Int) % 16).toNat + 1 : Nat) : Int) := by omega
    have g1 := hex_cut _ n1
    have g2 := hex_cut _ n2
    unfold hexS at g1 g2
    rw [scriniumref1_Hex.l0, if_pos (by omega), if_pos (by omega), e1, e2, f1, f2, Int.toNat_natCast, Int.toNat_natCast, Int.toNat_natCast, Int.toNat_natCast, g1, g2, strOfNums_size, strOfNums_size]
    rw [if_pos (by omega), if_pos (by omega), if_pos (by omega), if_pos (by simp; omega), if_pos (by omega), if_pos (by omega), if_pos (by omega), if_pos (by rw [ByteArray.size_append, strOfNums_size]; simp; omega), IntWalk.wrap64_in _ (by omega)]
    have h := hex_l s hs n (i + 1) (acc ++ strOfNums [hexC ((bt s (i : Int) / 16).toNat : Int)] ++ strOfNums [hexC ((bt s (i : Int) % 16).toNat : Int)]) (by omega) (by rw [ByteArray.size_append, ByteArray.size_append, strOfNums_size, strOfNums_size]; simp; omega)
    rw [show ((i : Int) + 1) = ((i + 1 : Nat) : Int) by omega, h, bytes_drop (show i < s.size by omega)]
    congr 1
    rw [ByteArray.append_assoc, ByteArray.append_assoc, str_app, str_app]
    congr 2
    show _ = hexC (bt s (i : Int) / 16) :: hexC (bt s (i : Int) % 16) :: hexT ((bytesOf s).drop (i + 1))
    rw [show ((bt s (i : Int) / 16).toNat : Int) = bt s (i : Int) / 16 by omega, show ((bt s (i : Int) % 16).toNat : Int) = bt s (i : Int) % 16 by omega]
    rfl
theorem hex_ok (s : ByteArray) (hs : s.size ≤ 1000000) (k : Nat) (hk : s.size + 1 ≤ k) : scriniumref1_Hex.f k s = some (hexB s) := by
  refine at_rounds (fun k => scriniumref1_Hex.mono s k) hk ?_
  unfold scriniumref1_Hex.f hexB
  by_cases h : s.toList = []
  · rw [if_pos h, if_pos h]
  · rw [if_neg h, if_neg h, show (0 : Int) = ((0 : Nat) : Int) from rfl, hex_l s hs s.size 0 _ (by omega) (Nat.le_refl _), List.drop_zero]
    congr 1
theorem hexB_bytes (s : ByteArray) (h : s.toList ≠ []) : bytesOf (hexB s) = hexT (bytesOf s) := by
  unfold hexB
  rw [if_neg h]
  exact strOf_bytes _ fun x hx => by have := hexT_rng _ (bytes_rng s) x hx; omega
theorem size_pos {s : ByteArray} (h : s.toList ≠ []) : 0 < s.size := by
  rw [bl_size]
  unfold bl
  rw [← Lib.toList_data]
  exact List.length_pos_iff.2 h
theorem hexB_size (s : ByteArray) : (hexB s).size ≤ 2 * s.size + 1 := by
  by_cases h : s.toList = []
  · unfold hexB
    rw [if_pos h]
    show 1 ≤ _
    omega
  · rw [← bytesOf_length, hexB_bytes s h, hexT_len, bytesOf_length]
    omega
theorem hexB_word (s : ByteArray) : IsW (bl (hexB s)) := by
  by_cases h : s.toList = []
  · unfold hexB
    rw [if_pos h]
    exact ⟨by decide, by decide⟩
  · refine ⟨fun e => ?_, fun h32 => ?_⟩
    · have h1 : (hexB s).size = 2 * s.size := by rw [← bytesOf_length, hexB_bytes s h, hexT_len, bytesOf_length]
      have := size_pos h
      rw [bl_size, e] at h1
      simp at h1
      omega
    · have h1 := mem_bl h32
      rw [hexB_bytes s h] at h1
      have := hexT_rng _ (bytes_rng s) _ h1
      simp at this
theorem text_hex (s : ByteArray) : textP (hexB s) = some s := by
  by_cases h : s.toList = []
  · unfold hexB
    rw [if_pos h]
    have hs : s = ⟨#[]⟩ := by
      apply bl_inj
      unfold bl
      rw [← Lib.toList_data, h]
    rw [hs]
    unfold textP
    rw [if_pos (by decide +kernel)]
  · have hp := size_pos h
    have h1 : (hexB s).size = 2 * s.size := by rw [← bytesOf_length, hexB_bytes s h, hexT_len, bytesOf_length]
    unfold textP
    rw [if_neg, if_neg (by omega), hexB_bytes s h, hexP_T _ (bytes_rng s)]
    · show some (strOfNums (bytesOf s)) = some s
      congr 1
      apply bytes_inj
      exact strOf_bytes _ (bytes_rng s)
    · intro e
      have := congrArg List.length e
      rw [Lib.toList_data, ← Lib.size_eq, h1] at this
      simp at this
      omega
end Go.Proofs.YtbmjekekpmabbaaDoor.P

end
section
set_option linter.unusedVariables false
set_option linter.unusedSimpArgs false
namespace Go.Proofs.YtbmjekekpmabbaaDoor.P
open Go.RowKit Go.Proofs.YtbmjekekpmabbaaDoorW.PrintWords Go.Proofs.YtbmjekekpmabbaaDoorW.PrintLast Go.Proofs.YtbmjekekpmabbaaDoorW.PrintMore

def fieldC (a : AskV) (c : Int) : Int := if c = 105 then a.id else if c = 102 then a.fr else if c = 111 then a.tt else a.snap
def wordC (a : AskV) (c : Int) : ByteArray := if c = 116 then hexB a.text else digB (fieldC a c)
theorem ok_zero {has : ByteArray} {c : UInt8} {n : Int} (h : letOk has c n = true) (hc : hasC has c = false) : n = 0 := by
  unfold letOk at h
  rw [hc] at h
  simp only [Bool.or_false, Bool.and_eq_true, decide_eq_true_eq] at h
  omega
theorem ok_parts {a : AskV} (h : a.ok = true) : (a.text.toList.isEmpty || hasC (hasOf a.kind) 116) = true ∧ letOk (hasOf a.kind) 105 a.id = true ∧ letOk (hasOf a.kind) 102 a.fr = true ∧ letOk (hasOf a.kind) 111 a.tt = true ∧ letOk (hasOf a.kind) 115 a.snap = true := by
  unfold AskV.ok askB at h
  simp only [Bool.and_eq_true] at h
  exact ⟨h.2.2.1, h.2.2.2.1, h.2.2.2.2.1, h.2.2.2.2.2.1, h.2.2.2.2.2.2⟩
theorem ok_text {a : AskV} (h : a.ok = true) (hc : hasC (hasOf a.kind) 116 = false) : a.text = ⟨#[]⟩ := by
  have := (ok_parts h).1
  rw [hc, Bool.or_false] at this
  apply toList_inj
  rw [List.isEmpty_iff.1 this]
  decide +kernel
def hasBytes (k : Int) : List Int := if k = 1 then [116] else if k = 2 then [105] else if k = 3 then [116, 115] else if k = 4 then [116, 115] else if k = 5 then [105, 102, 111, 115] else if k = 6 then [115] else if k = 7 then [105, 111, 115] else if k = 9 then [115] else []
theorem has_bytes (k : Int) (h1 : 1 ≤ k) (h2 : k ≤ 9) : bytesOf (hasOf k) = hasBytes k ∧ hasC (hasOf k) 116 = (hasBytes k).contains 116 ∧ hasC (hasOf k) 105 = (hasBytes k).contains 105 ∧ hasC (hasOf k) 102 = (hasBytes k).contains 102 ∧ hasC (hasOf k) 111 = (hasBytes k).contains 111 ∧ hasC (hasOf k) 115 = (hasBytes k).contains 115 := by
  rcases (show k = 1 ∨ k = 2 ∨ k = 3 ∨ k = 4 ∨ k = 5 ∨ k = 6 ∨ k = 7 ∨ k = 8 ∨ k = 9 by omega) with rfl | rfl | rfl | rfl | rfl | rfl | rfl | rfl | rfl <;> decide +kernel
theorem fill_line (a : AskV) (h : a.ok = true) : fillL (bytesOf (hasOf a.kind)) ((bytesOf (hasOf a.kind)).map (wordC a)) { zeroV with kind := a.kind } = some a := by
  obtain ⟨k, i, f, t, s, x⟩ := ok_rng h
  obtain ⟨p0, p1, p2, p3, p4⟩ := ok_parts h
  have pt := ok_text h
  obtain ⟨e0, et, e1, e2, e3, e4⟩ := has_bytes a.kind k.1 k.2
  have z1 := fun hc => ok_zero p1 hc
  have z2 := fun hc => ok_zero p2 hc
  have z3 := fun hc => ok_zero p3 hc
  have z4 := fun hc => ok_zero p4 hc
  rw [e0]
  rw [et] at pt
  rw [e1] at z1
  rw [e2] at z2
  rw [e3] at z3
  rw [e4] at z4
  have d1 := num_dig a.id i.1 i.2
  have d2 := num_dig a.fr f.1 f.2
  have d3 := num_dig a.tt t.1 t.2
  have d4 := num_dig a.snap s.1 s.2
  have d5 := text_hex a.text
  clear h p0 p1 p2 p3 p4 e0 et e1 e2 e3 e4 i f t s x
  obtain ⟨ak, ai, af, at_, as_, ax⟩ := a
  dsimp only at *
  rcases (show ak = 1 ∨ ak = 2 ∨ ak = 3 ∨ ak = 4 ∨ ak = 5 ∨ ak = 6 ∨ ak = 7 ∨ ak = 8 ∨ ak = 9 by omega) with rfl | rfl | rfl | rfl | rfl | rfl | rfl | rfl | rfl
  all_goals
    simp [hasBytes, zeroV, fillL, wordC, fieldC, d1, d2, d3, d4, d5, AskV.setN] at pt z1 z2 z3 z4 ⊢
    try simp [*]
theorem read_line {a : AskV} (h : a.ok = true) {s : ByteArray} {k : Nat} (hs : bl s = bl (nameOf a.kind) ++ joinW k ((bytesOf (hasOf a.kind)).map fun c => bl (wordC a c))) : readOf s = some a := by
  obtain ⟨hk, _⟩ := ok_rng h
  have hw : ∀ w ∈ (bytesOf (hasOf a.kind)).map (fun c => bl (wordC a c)), IsW w := by
    intro w hw
    obtain ⟨c, _, rfl⟩ := List.mem_map.1 hw
    unfold wordC
    split
    · exact hexB_word _
    · exact digB_word _
  have e : ((bytesOf (hasOf a.kind)).map (fun c => bl (wordC a c))).map ofL = (bytesOf (hasOf a.kind)).map (wordC a) := by
    rw [List.map_map]
    exact List.map_congr_left fun c _ => ofL_bl _
  rw [read_join hs (name_word a.kind hk.1 hk.2) hw, ofL_bl, kind_name a.kind hk.1 hk.2, if_neg, e, fill_line a h, Option.bind_some, if_pos h]
  rw [List.length_map, bytesOf_length]
  intro h'
  rcases h' with h' | h'
  · omega
  · exact h' rfl
end Go.Proofs.YtbmjekekpmabbaaDoor.P

end
section
set_option linter.unusedVariables false
set_option linter.unusedSimpArgs false
namespace Go.Proofs.YtbmjekekpmabbaaDoor.P
open Go.RowKit Go.Proofs.YtbmjekekpmabbaaDoorW.PrintWords Go.Proofs.YtbmjekekpmabbaaDoorW.PrintLast Go.Proofs.YtbmjekekpmabbaaDoorW.PrintMore

def vOf (x : Int) : Int := Int.tmod (Int.tmod x 65536 + 65536) 65536
theorem vOf_rng (x : Int) : 0 ≤ vOf x ∧ vOf x ≤ 65535 := by
  unfold vOf
  have h1 := Int.tmod_lt_of_pos x (show (0 : Int) < 65536 by decide)
  have h2 := Int.lt_tmod_of_pos x (show (0 : Int) < 65536 by decide)
  rw [Int.tmod_eq_emod_of_nonneg (by omega)]
  omega
def flag (k : Int) (i : Nat) : Bool := if i = 0 then (hasB k).2.1 else if i = 1 then (hasB k).2.2.1 else if i = 2 then (hasB k).2.2.2.1 else (hasB k).2.2.2.2
def setI (a : AskV) (i : Nat) (v : Int) : AskV := if i = 0 then { a with id := v } else if i = 1 then { a with fr := v } else if i = 2 then { a with tt := v } else { a with snap := v }
def aTo (k : Int) (v : Nat → Int) (a0 : AskV) : Nat → AskV
  | 0 => a0
  | i + 1 => if flag k i = true then setI (aTo k v a0 i) i (v i) else aTo k v a0 i
def lTo (k : Int) (v : Nat → Int) (l0 : ByteArray) : Nat → ByteArray
  | 0 => l0
  | i + 1 => if flag k i = true then lTo k v l0 i ++ (⟨#[32]⟩ ++ digB (v i)) else lTo k v l0 i
def a0Of (k : Int) (text : ByteArray) : AskV := if (hasB k).1 = true then { zeroV with kind := k, text := text } else { zeroV with kind := k }
def l0Of (k : Int) (text : ByteArray) : ByteArray := if (hasB k).1 = true then nameOf k ++ (⟨#[32]⟩ ++ hexB text) else nameOf k
theorem setI_cells (a : AskV) (i : Nat) (v : Int) (h : i ≤ 3) : (setI a i v).cells = a.cells.setIfInBounds (i + 1) (.int .i64 v) := by
  rcases (show i = 0 ∨ i = 1 ∨ i = 2 ∨ i = 3 by omega) with rfl | rfl | rfl | rfl <;> rfl
theorem sizes_lt (k : Int) (v : Nat → Int) (l0 : ByteArray) : ∀ i, (lTo k v l0 i).size ≤ l0.size + 6 * i
  | 0 => Nat.le_refl _
  | i + 1 => by
    have ih := sizes_lt k v l0 i
    unfold lTo
    split
    · have := digB_small (v i)
      simp only [ByteArray.size_append]
      have h1 : (⟨#[32]⟩ : ByteArray).size = 1 := rfl
      omega
    · omega
theorem name_small (k : Int) : (nameOf k).size ≤ 20 := by
  by_cases h : 1 ≤ k ∧ k ≤ 9
  · rcases (show k = 1 ∨ k = 2 ∨ k = 3 ∨ k = 4 ∨ k = 5 ∨ k = 6 ∨ k = 7 ∨ k = 8 ∨ k = 9 by omega) with rfl | rfl | rfl | rfl | rfl | rfl | rfl | rfl | rfl <;> decide +kernel
  · rw [name_out k (by omega)]; decide
theorem l0_small (k : Int) (text : ByteArray) (h : text.size ≤ 40) : (l0Of k text).size ≤ 102 := by
  have h1 := name_small k
  have h2 := hexB_size text
  have h3 : (⟨#[32]⟩ : ByteArray).size = 1 := rfl
  unfold l0Of
  split
  · simp only [ByteArray.size_append]
    omega
  · omega
theorem has_flags (k : Int) (h1 : 1 ≤ k) (h2 : k ≤ 9) : hasB k = ((hasBytes k).contains 116, (hasBytes k).contains 105, (hasBytes k).contains 102, (hasBytes k).contains 111, (hasBytes k).contains 115) := by
  obtain ⟨_, e0, e1, e2, e3, e4⟩ := has_bytes k h1 h2
  unfold hasB
  rw [e0, e1, e2, e3, e4]
theorem say_ok (k : Int) (h1 : 1 ≤ k) (h2 : k ≤ 9) (v : Nat → Int) (hv : ∀ i, 0 ≤ v i ∧ v i ≤ 65535) (text : ByteArray) (hx : text.size ≤ 40) : (aTo k v (a0Of k text) 4).ok = true := by
  have v0 := hv 0
  have v1 := hv 1
  have v2 := hv 2
  have v3 := hv 3
  obtain ⟨_, e0, e1, e2, e3, e4⟩ := has_bytes k h1 h2
  have hf := has_flags k h1 h2
  have hn := name_in k h1 h2
  have z0 : (⟨#[]⟩ : ByteArray).size = 0 := rfl
  clear hv
  rcases (show k = 1 ∨ k = 2 ∨ k = 3 ∨ k = 4 ∨ k = 5 ∨ k = 6 ∨ k = 7 ∨ k = 8 ∨ k = 9 by omega) with rfl | rfl | rfl | rfl | rfl | rfl | rfl | rfl | rfl
  all_goals
    simp [hasBytes] at e0 e1 e2 e3 e4 hf
    simp [AskV.ok, askB, aTo, flag, hf, setI, a0Of, zeroV, letOk, hn, z0, e0, e1, e2, e3, e4]
    try omega
theorem say_bl (k : Int) (h1 : 1 ≤ k) (h2 : k ≤ 9) (v : Nat → Int) (text : ByteArray) : bl (lTo k v (l0Of k text) 4) = bl (nameOf (aTo k v (a0Of k text) 4).kind) ++ joinW 0 ((bytesOf (hasOf (aTo k v (a0Of k text) 4).kind)).map fun c => bl (wordC (aTo k v (a0Of k text) 4) c)) := by
  obtain ⟨e5, e0, e1, e2, e3, e4⟩ := has_bytes k h1 h2
  have hf := has_flags k h1 h2
  have hk : (aTo k v (a0Of k text) 4).kind = k := by
    clear e5 e0 e1 e2 e3 e4
    rcases (show k = 1 ∨ k = 2 ∨ k = 3 ∨ k = 4 ∨ k = 5 ∨ k = 6 ∨ k = 7 ∨ k = 8 ∨ k = 9 by omega) with rfl | rfl | rfl | rfl | rfl | rfl | rfl | rfl | rfl
    all_goals
      simp [hasBytes] at hf
      simp [aTo, flag, hf, setI, a0Of, zeroV]
  rw [hk, e5]
  have b32 : bl (⟨#[32]⟩ : ByteArray) = [32] := rfl
  clear e5 hk e0 e1 e2 e3 e4
  rcases (show k = 1 ∨ k = 2 ∨ k = 3 ∨ k = 4 ∨ k = 5 ∨ k = 6 ∨ k = 7 ∨ k = 8 ∨ k = 9 by omega) with rfl | rfl | rfl | rfl | rfl | rfl | rfl | rfl | rfl
  all_goals
    simp [hasBytes] at hf
    simp [hasBytes, lTo, aTo, flag, hf, setI, a0Of, l0Of, zeroV, joinW, wordC, fieldC, bl_append, b32]
theorem say_reads (k : Int) (h1 : 1 ≤ k) (h2 : k ≤ 9) (v : Nat → Int) (hv : ∀ i, 0 ≤ v i ∧ v i ≤ 65535) (text : ByteArray) (hx : text.size ≤ 40) : readOf (lTo k v (l0Of k text) 4) = some (aTo k v (a0Of k text) 4) :=
  read_line (say_ok k h1 h2 v hv text hx) (say_bl k h1 h2 v text)
end Go.Proofs.YtbmjekekpmabbaaDoor.P

end
section
set_option linter.unusedVariables false
set_option linter.unusedSimpArgs false
namespace Go.Proofs.YtbmjekekpmabbaaDoor.P
open Go.RowKit Go.Proofs.YtbmjekekpmabbaaDoorW.PrintWords Go.Proofs.YtbmjekekpmabbaaDoorW.PrintLast Go.Proofs.YtbmjekekpmabbaaDoorW.PrintMore

def fourC (a b c d : Bool) (i : Nat) : Bool := if i = 0 then a else if i = 1 then b else if i = 2 then c else d
def fldI (a : AskV) (i : Nat) : Int := if i = 0 then a.id else if i = 1 then a.fr else if i = 2 then a.tt else a.snap
def w0Of (a : AskV) : List ByteArray := if (hasB a.kind).1 = true then [hexB a.text] else []
def wTo (a : AskV) : Nat → List ByteArray
  | 0 => w0Of a
  | i + 1 => if flag a.kind i = true then wTo a i ++ [digB (fldI a i)] else wTo a i
theorem wTo_len (a : AskV) : ∀ i, (wTo a i).length ≤ i + 1
  | 0 => by
    unfold wTo w0Of
    split <;> simp
  | i + 1 => by
    have ih := wTo_len a i
    unfold wTo
    split
    · rw [List.length_append, List.length_singleton]; omega
    · omega
theorem wTo_four {a : AskV} (h : a.ok = true) : wTo a 4 = (bytesOf (hasOf a.kind)).map (wordC a) := by
  obtain ⟨hk, _⟩ := ok_rng h
  obtain ⟨e5, _, _, _, _, _⟩ := has_bytes a.kind hk.1 hk.2
  have hf := has_flags a.kind hk.1 hk.2
  rw [e5]
  clear e5 h
  obtain ⟨ak, ai, af, at_, as_, ax⟩ := a
  dsimp only at *
  rcases (show ak = 1 ∨ ak = 2 ∨ ak = 3 ∨ ak = 4 ∨ ak = 5 ∨ ak = 6 ∨ ak = 7 ∨ ak = 8 ∨ ak = 9 by omega) with rfl | rfl | rfl | rfl | rfl | rfl | rfl | rfl | rfl
  all_goals
    simp [hasBytes] at hf
    simp [hasBytes, wTo, w0Of, flag, hf, fldI, wordC, fieldC]
/-- A name with words behind it, so many blanks ahead of each. -/
def pad (k : Nat) : ByteArray := ⟨(List.replicate (k + 1) 32).toArray⟩
def sayTo (k : Nat) (nm : ByteArray) (ws : List ByteArray) : Nat → ByteArray
  | 0 => nm
  | j + 1 => sayTo k nm ws j ++ (pad k ++ rdOf ⟨#[]⟩ ws (j : Int))
theorem bl_pad (k : Nat) : bl (pad k) = List.replicate (k + 1) 32 := by
  unfold bl pad
  simp
theorem joinW_snoc (k : Nat) (w : List UInt8) : ∀ ws, joinW k (ws ++ [w]) = joinW k ws ++ (List.replicate (k + 1) 32 ++ w)
  | [] => by simp [joinW]
  | x :: ws => by
    rw [List.cons_append, joinW, joinW_snoc k w ws, joinW]
    simp
theorem say_to (k : Nat) (nm : ByteArray) (ws : List ByteArray) : ∀ j, j ≤ ws.length → bl (sayTo k nm ws j) = bl nm ++ joinW k ((ws.take j).map bl)
  | 0, _ => by simp [sayTo, joinW]
  | j + 1, h => by
    have e : rdOf ⟨#[]⟩ ws (j : Int) = ws[j] := by
      unfold rdOf
      rw [Int.toNat_natCast, List.getD_eq_getElem?_getD, List.getElem?_eq_getElem (show j < ws.length by omega)]
      rfl
    rw [sayTo, bl_append, bl_append, say_to k nm ws j (by omega), bl_pad, e, List.take_succ_eq_append_getElem (show j < ws.length by omega), List.map_append, List.map_cons, List.map_nil, joinW_snoc]
    simp
theorem say_all (k : Nat) (nm : ByteArray) (ws : List ByteArray) : bl (sayTo k nm ws ws.length) = bl nm ++ joinW k (ws.map bl) := by
  rw [say_to k nm ws _ (Nat.le_refl _), List.take_length]
theorem word_fits {a : AskV} (h : a.ok = true) : ∀ w ∈ wTo a 4, IsW (bl w) ∧ w.size ≤ 81 := by
  rw [wTo_four h]
  intro w hw
  obtain ⟨c, _, rfl⟩ := List.mem_map.1 hw
  unfold wordC
  split
  · exact ⟨hexB_word _, by have := hexB_size a.text; have := (ok_rng h).2.2.2.2.2; omega⟩
  · exact ⟨digB_word _, by have := digB_small (fieldC a c); omega⟩
theorem say_size (k : Nat) (nm : ByteArray) (ws : List ByteArray) (hw : ∀ w ∈ ws, w.size ≤ 81) : ∀ j, j ≤ ws.length → (sayTo k nm ws j).size ≤ nm.size + (k + 82) * j
  | 0, _ => Nat.le_refl _
  | j + 1, h => by
    have e : rdOf ⟨#[]⟩ ws (j : Int) = ws[j] := by
      unfold rdOf
      rw [Int.toNat_natCast, List.getD_eq_getElem?_getD, List.getElem?_eq_getElem (show j < ws.length by omega)]
      rfl
    have ih := say_size k nm ws hw j (by omega)
    have h1 := hw ws[j] (List.getElem_mem _)
    have h2 : (pad k).size = k + 1 := by rw [bl_size, bl_pad, List.length_replicate]
    rw [sayTo, ByteArray.size_append, ByteArray.size_append, e, h2, Nat.mul_succ]
    omega
theorem bl_map {a : AskV} (h : a.ok = true) : (wTo a 4).map bl = (bytesOf (hasOf a.kind)).map fun c => bl (wordC a c) := by
  rw [wTo_four h, List.map_map]
  rfl
theorem tale_reads {a : AskV} (h : a.ok = true) (k : Nat) : readOf (sayTo k (nameOf a.kind) (wTo a 4) (wTo a 4).length) = some a :=
  read_line h (k := k) (by rw [say_all, bl_map h])
theorem tale_join {a : AskV} (h : a.ok = true) : bl (sayTo 0 (nameOf a.kind) (wTo a 4) (wTo a 4).length) = bl (nameOf a.kind) ++ joinW 0 ((wTo a 4).map bl) := say_all _ _ _
theorem tale_ahead (s : ByteArray) : readOf (⟨#[32]⟩ ++ s) = none := by
  apply read_edge
  rw [edge_of (l := 32 :: bl s) (by rw [bl_append]; rfl)]
  rfl
theorem tale_behind (s : ByteArray) : readOf (s ++ ⟨#[32]⟩) = none := by
  apply read_edge
  rw [edge_of (l := bl s ++ [32]) (by rw [bl_append]; rfl), List.length_append, List.length_singleton, Nat.add_sub_cancel, List.getElem?_append_right (Nat.le_refl _), Nat.sub_self]
  simp
theorem tale_word {a : AskV} (h : a.ok = true) : readOf (sayTo 0 (nameOf a.kind) (wTo a 4) (wTo a 4).length ++ ⟨#[32, 49]⟩) = none := by
  obtain ⟨hk, _⟩ := ok_rng h
  have hj : bl (sayTo 0 (nameOf a.kind) (wTo a 4) (wTo a 4).length ++ ⟨#[32, 49]⟩) = bl (nameOf a.kind) ++ joinW 0 ((wTo a 4).map bl ++ [[49]]) := by
    rw [bl_append, tale_join h, joinW_snoc]
    simp [bl]
  have hw : ∀ w ∈ (wTo a 4).map bl ++ [[49]], IsW w := by
    intro w hw
    rcases List.mem_append.1 hw with hw | hw
    · obtain ⟨x, hx, rfl⟩ := List.mem_map.1 hw
      exact (word_fits h x hx).1
    · rw [List.mem_singleton.1 hw]
      exact ⟨by decide, by decide⟩
  rw [read_join hj (name_word a.kind hk.1 hk.2) hw, if_pos]
  right
  rw [ofL_bl, kind_name a.kind hk.1 hk.2, List.length_append, List.length_map, wTo_four h, List.length_map, bytesOf_length, List.length_singleton]
  omega
end Go.Proofs.YtbmjekekpmabbaaDoor.P

end
