/- What a digit, a number, a hex text say: the functions digit, number, text of package ask. Conditions: the word is not too long. (Printed by gennumber.py.) -/
import Derived.Test.YtbmjekekpmabbaaDoorAskTrim
import Derived.Test.YtbmjekekpmabbaaDoorContains
import Derived.ScopeJumps
set_option linter.unusedVariables false
set_option linter.unusedSimpArgs false
namespace Go.Proofs.YtbmjekekpmabbaaDoor.P
open Go.RowKit Go.Proofs.YtbmjekekpmabbaaDoorW.PrintWords Go.Proofs.YtbmjekekpmabbaaDoorW.PrintLast Go.Proofs.YtbmjekekpmabbaaDoorW.PrintMore

set_option maxHeartbeats 1000000 in
theorem indexByte_calls (s : ByteArray) (c : Int) (w : World) :
    Calls Tryd.prog 58 #[.string s, .int .u8 c] w fun e w' => e = .returned (.int .i64 (Lib.indexByte s.data.toList c.toNat.toUInt8)) ∧ w' = w := by
  go_enter Tryd.func58, Tryd.ntmps58
  go_wp2_with (go_at_call 65; refine (lite_IndexByte _ _ _).mono ?_; rintro e w' ⟨rfl, rfl⟩)
  go_ret
  exact ⟨rfl, rfl⟩
/-- What a hex digit says. -/
def hexI (c : Int) : Int := if 48 ≤ c ∧ c ≤ 57 then c - 48 else if 97 ≤ c ∧ c ≤ 102 then c - 87 else -1
def hexS : ByteArray := ⟨#[48, 49, 50, 51, 52, 53, 54, 55, 56, 57, 97, 98, 99, 100, 101, 102]⟩
theorem hex_all : ∀ n : Nat, n < 256 → Lib.indexByte hexS.data.toList n.toUInt8 = hexI (n : Int) := by decide +kernel
theorem hex_index (c : Int) (h0 : 0 ≤ c) (h1 : c ≤ 255) : Lib.indexByte hexS.data.toList c.toNat.toUInt8 = hexI c := by
  have := hex_all c.toNat (by omega)
  rwa [Int.toNat_of_nonneg h0] at this
theorem hexI_rng (c : Int) : -1 ≤ hexI c ∧ hexI c ≤ 15 := by unfold hexI; split; omega; split <;> omega
set_option maxHeartbeats 1000000 in
set_option maxRecDepth 100000 in
theorem digit_calls (c : Int) (h0 : 0 ≤ c) (h1 : c ≤ 255) (w : World) :
    Calls Tryd.prog 49 #[.int .u8 c] w fun e w' => e = .returned (.tuple #[.int .u8 (max (hexI c) 0), .bool (decide (0 ≤ hexI c))]) ∧ w' = w := by
  have IC := Aside0.mk (indexByte_calls hexS c w)
  rw [hex_index c h0 h1] at IC
  obtain ⟨r0, r1⟩ := hexI_rng c
  obtain ⟨x, hx⟩ : ∃ x, hexI c = x := ⟨_, rfl⟩
  rw [hx] at IC r0 r1 ⊢
  have v1 : IntKind.u8.wrap (max x 0) = max x 0 := by rw [IntKind.wrap_u8]; omega
  have v2 : (max x 0) % 256 = max x 0 := by omega
  clear hx
  go_enter Tryd.func49, Tryd.ntmps49
  go_wp2_with (go_at_call 58; refine IC.out.mono ?_; rintro e w' ⟨rfl, rfl⟩)
  go_ret2
  exact ⟨rfl, rfl⟩
/-- A number's digits, behind n. -/
def numL (n : Int) : List Int → Option Int
  | [] => some n
  | c :: r => if c < 48 ∨ 57 < c ∨ 65535 < n then none else numL (10 * n + (c - 48)) r
def numP (w : ByteArray) : Option Int := if w.size = 0 ∨ (1 < w.size ∧ bt w 0 = 48) then none else (numL 0 (bytesOf w)).bind fun n => if n ≤ 65535 then some n else none
theorem bytes_drop {s : ByteArray} {k : Nat} (h : k < s.size) : (bytesOf s).drop k = bt s (k : Int) :: (bytesOf s).drop (k + 1) := by
  obtain ⟨c, h1, h2⟩ := bt_get h
  have hk : k < (bytesOf s).length := by rw [bytesOf_length]; exact h
  rw [List.drop_eq_getElem_cons hk, h2]
  congr 1
  have h4 : (bytesOf s)[k]? = some (c.toNat : Int) := by
    unfold bytesOf
    rw [List.getElem?_map, show s.data.toList[k]? = some c from h1]
    rfl
  rw [List.getElem?_eq_getElem hk] at h4
  injection h4
set_option maxRecDepth 100000 in
set_option maxHeartbeats 4000000 in
theorem number_loop (S : ByteArray) (w : World) (hz : 1 ≤ S.size) (hs : S.size ≤ 1000000) (hf : ¬ (1 < S.size ∧ bt S 0 = 48)) :
    Calls Tryd.prog 32 #[.string S] w fun e w' => ∃ v : Int, e = .returned (.tuple #[.int .i64 v, .bool (numP S).isSome]) ∧ (∀ n, numP S = some n → v = n) ∧ w' = w := by
  have hP : numP S = (numL 0 ((bytesOf S).drop 0)).bind fun n => if n ≤ 65535 then some n else none := by
    unfold numP
    rw [if_neg (show ¬ (S.size = 0 ∨ (1 < S.size ∧ bt S 0 = 48)) from fun h => by rcases h with h | h; omega; exact hf h), List.drop_zero]
  have HP := Aside0.mk hP
  have c0 : (S.toList == []) = false := by
    cases h : S.toList with
    | nil => rw [Lib.toList_data] at h; have := bl_size S; unfold bl at this; rw [h, List.length_nil] at this; omega
    | cons a l => rfl
  have b0 := bt_at S 0
  rw [show (0 : Int).toNat = 0 from rfl] at b0
  have d0 : (0 < S.size) = True := eq_true (by omega)
  have HS := Aside0.mk hs
  have HZ := Aside0.mk hz
  have HK0 : Aside0 (0 < S.size ∧ (0 : Int) ≤ 0 ∧ (0 : Int) ≤ 1000000 ∧ numL 0 ((bytesOf S).drop 0) = numL 0 ((bytesOf S).drop 0)) := ⟨⟨by omega, by decide, by decide, rfl⟩⟩
  have hfst : (decide (1 < (S.size : Int)) = false) ∨ (decide (1 < (S.size : Int)) = true ∧ (bt S 0 == 48) = false) := by
    by_cases h : 1 < S.size
    · exact Or.inr ⟨decide_eq_true (by omega), beq_eq_false_iff_ne.2 (fun e => hf ⟨h, e⟩)⟩
    · exact Or.inl (decide_eq_false (by omega))
  clear hP hf hs hz
  go_enter Tryd.func32, Tryd.ntmps32
  go_wp2_with fail
  refine wp_scope_jumps 0 (fun a' w' => ∃ (k : Nat) (n : Int) (u1 u2 u3 u6 u7 u8 u9 u10 u11 u12 u13 u14 u15 u16 u17 u18 u19 u20 u21 u22 u23 u24 u25 u26 u27 u28 u29 u30 u31 u32 u33 u34 u35 u36 u37 u38 u39 u40 u41 u42 u43 u44 u45 u46 u47 u48 : Value), a' = { tmps := #[.string S, u1, u2, u3, .int .i64 n, .int .i64 k, u6, u7, u8, u9, u10, u11, u12, u13, u14, u15, u16, u17, u18, u19, u20, u21, u22, u23, u24, u25, u26, u27, u28, u29, u30, u31, u32, u33, u34, u35, u36, u37, u38, u39, u40, u41, u42, u43, u44, u45, u46, u47, u48], defers := [] } ∧ w' = w ∧ Aside0 (k < S.size ∧ 0 ≤ n ∧ n ≤ 1000000 ∧ numL 0 ((bytesOf S).drop 0) = numL n ((bytesOf S).drop k))) (fun a' _ => S.size - (intOf (a'.tmps.getD 5 undef)).toNat) rfl ?_ ?_
  · have HK := HK0
    rcases hfst with c9 | ⟨c9, c8⟩
    all_goals
      go_wp2_with fail
      go_step3
      clear c9
      (try clear c8)
      have hk : 0 < S.size := HK.out.1
      have hn0 : 0 ≤ (0 : Int) := HK.out.2.1
      have hn1 : (0 : Int) ≤ 1000000 := HK.out.2.2.1
      have hinv : numL 0 ((bytesOf S).drop 0) = numL (0 : Int) ((bytesOf S).drop 0) := rfl
      have hd : (bytesOf S).drop 0 = bt S (0 : Int) :: (bytesOf S).drop (0 + 1) := bytes_drop hk
      have b1 := bt_at S (0 : Int)
      rw [show (0 : Int).toNat = 0 from rfl] at b1
      obtain ⟨r0, r1⟩ := bt_range S (0 : Int)
      have v1 : ((0 : Int) < (S.size : Int)) = True := eq_true (by omega)
      have v2 : (0 ≤ (0 : Int)) = True := eq_true (by omega)
      by_cases hbad : bt S (0 : Int) < 48 ∨ 57 < bt S (0 : Int) ∨ 65535 < (0 : Int)
      · have hr : numP S = none := by rw [HP.out, hinv, hd, numL, if_pos hbad]; rfl
        have HR := Aside0.mk hr
        clear hr hinv hd
        by_cases e1 : bt S (0 : Int) < 48
        · have c1 : decide (bt S (0 : Int) < 48) = true := decide_eq_true e1
          clear e1 hbad
          go_wp2_with fail
          (try simp only [Exit.jump])
          (try rw [Exit.noGoto_ret])
          go_ret2
          exact ⟨0, by rw [HR.out]; rfl, (fun n h => by rw [HR.out] at h; cases h), rfl⟩
        · have c1 : decide (bt S (0 : Int) < 48) = false := decide_eq_false e1
          by_cases e2 : 57 < bt S (0 : Int)
          · have c2 : decide (57 < bt S (0 : Int)) = true := decide_eq_true e2
            clear e1 e2 hbad
            go_wp2_with fail
            (try simp only [Exit.jump])
            (try rw [Exit.noGoto_ret])
            go_ret2
            exact ⟨0, by rw [HR.out]; rfl, (fun n h => by rw [HR.out] at h; cases h), rfl⟩
          · exact absurd hbad (by omega)
      · have c1 : decide (bt S (0 : Int) < 48) = false := decide_eq_false (by omega)
        have c2 : decide (57 < bt S (0 : Int)) = false := decide_eq_false (by omega)
        have c3 : decide (65535 < (0 : Int)) = false := decide_eq_false (by omega)
        have hstep : numL 0 ((bytesOf S).drop 0) = numL (bt S 0 - 48) ((bytesOf S).drop (0 + 1)) := by
          rw [hinv, hd, numL, if_neg hbad]
          (try (first | rfl | (congr 1 <;> omega)))
        have g1 : IntKind.u8.wrap (bt S (0 : Int) - 48) = bt S (0 : Int) - 48 := by rw [IntKind.wrap_u8]; omega
        have g2 : (bt S (0 : Int) - 48) % 256 = bt S (0 : Int) - 48 := by omega
        have g3 : IntKind.i64.wrap (10 * (0 : Int)) = 10 * (0 : Int) := IntWalk.i64_in _ (by omega)
        have g4 : IntKind.i64.wrap (10 * (0 : Int) + (bt S (0 : Int) - 48)) = 10 * (0 : Int) + (bt S (0 : Int) - 48) := IntWalk.i64_in _ (by omega)
        have g5 : wrap64 (bt S (0 : Int) - 48) = bt S (0 : Int) - 48 := IntWalk.wrap64_in _ (by omega)
        have g6 : IntKind.i64.wrap ((0 : Int) + 1) = (0 : Int) + 1 := IntWalk.i64_in _ (by have := HS.out; omega)
        have hb2 : 0 ≤ (bt S 0 - 48) ∧ (bt S 0 - 48) ≤ 1000000 := by omega
        have HS2 := Aside0.mk hstep
        have HB2 := Aside0.mk hb2
        clear hstep hb2 hinv hd hbad
        by_cases hl : 0 + 1 < S.size
        · have c5 : decide ((1 : Int) < (S.size : Int)) = true := decide_eq_true (by omega)
          have HK2 : Aside0 (0 + 1 < S.size ∧ 0 ≤ (bt S 0 - 48) ∧ (bt S 0 - 48) ≤ 1000000 ∧ numL 0 ((bytesOf S).drop 0) = numL (bt S 0 - 48) ((bytesOf S).drop (0 + 1))) := ⟨⟨hl, HB2.out.1, HB2.out.2, HS2.out⟩⟩
          go_wp2_with fail
          go_step3
          exact ⟨rfl, 1, bt S 0 - 48, _, _, _, _, _, _, _, _, _, _, _, _, _, _, _, _, _, _, _, _, _, _, _, _, _, _, _, _, _, _, _, _, _, _, _, _, _, _, _, _, _, _, _, _, _, _, rfl, rfl, HK2⟩
        · have c5 : decide ((1 : Int) < (S.size : Int)) = false := decide_eq_false (by omega)
          have hnil : (bytesOf S).drop (0 + 1) = [] := List.drop_eq_nil_of_le (by rw [bytesOf_length]; omega)
          have HE : Aside0 (numP S = if (bt S 0 - 48) ≤ 65535 then some (bt S 0 - 48) else none) := ⟨by rw [HP.out, HS2.out, hnil]; rfl⟩
          clear hnil hl
          go_wp2_with fail
          (try simp only [Exit.jump])
          (try rw [Exit.noGoto_ret])
          go_ret2
          refine ⟨(bt S 0 - 48), ?_, fun n h => ?_, rfl⟩
          · show Ending.returned (Value.tuple #[.int .i64 (bt S 0 - 48), .bool (decide ((bt S 0 - 48) ≤ 65535))]) = _
            rw [HE.out]
            by_cases hq : (bt S 0 - 48) ≤ 65535
            · rw [if_pos hq, decide_eq_true hq]; rfl
            · rw [if_neg hq, decide_eq_false hq]; rfl
          · rw [HE.out] at h
            split at h
            · injection h
            · cases h
  · rintro a' w' ⟨k, n, u1, u2, u3, u6, u7, u8, u9, u10, u11, u12, u13, u14, u15, u16, u17, u18, u19, u20, u21, u22, u23, u24, u25, u26, u27, u28, u29, u30, u31, u32, u33, u34, u35, u36, u37, u38, u39, u40, u41, u42, u43, u44, u45, u46, u47, u48, rfl, rfl, HK⟩
    clear hfst
    have hk : k < S.size := HK.out.1
    have hn0 : 0 ≤ n := HK.out.2.1
    have hn1 : n ≤ 1000000 := HK.out.2.2.1
    have hinv : numL 0 ((bytesOf S).drop 0) = numL n ((bytesOf S).drop k) := HK.out.2.2.2
    have hd : (bytesOf S).drop k = bt S (k : Int) :: (bytesOf S).drop (k + 1) := bytes_drop hk
    have b1 := bt_at S (k : Int)
    rw [Int.toNat_natCast] at b1
    obtain ⟨r0, r1⟩ := bt_range S (k : Int)
    have v1 : ((k : Int) < (S.size : Int)) = True := eq_true (by omega)
    have v2 : (0 ≤ (k : Int)) = True := eq_true (by omega)
    by_cases hbad : bt S (k : Int) < 48 ∨ 57 < bt S (k : Int) ∨ 65535 < n
    · have hr : numP S = none := by rw [HP.out, hinv, hd, numL, if_pos hbad]; rfl
      have HR := Aside0.mk hr
      clear hr hinv hd
      by_cases e1 : bt S (k : Int) < 48
      · have c1 : decide (bt S (k : Int) < 48) = true := decide_eq_true e1
        clear e1 hbad
        go_wp2_with fail
        (try simp only [Exit.jump])
        (try rw [Exit.noGoto_ret])
        go_ret2
        exact ⟨0, by rw [HR.out]; rfl, (fun n h => by rw [HR.out] at h; cases h), rfl⟩
      · have c1 : decide (bt S (k : Int) < 48) = false := decide_eq_false e1
        by_cases e2 : 57 < bt S (k : Int)
        · have c2 : decide (57 < bt S (k : Int)) = true := decide_eq_true e2
          clear e1 e2 hbad
          go_wp2_with fail
          (try simp only [Exit.jump])
          (try rw [Exit.noGoto_ret])
          go_ret2
          exact ⟨0, by rw [HR.out]; rfl, (fun n h => by rw [HR.out] at h; cases h), rfl⟩
        · have c2 : decide (57 < bt S (k : Int)) = false := decide_eq_false e2
          have c3 : decide (65535 < n) = true := decide_eq_true (by omega)
          clear e1 e2 hbad
          go_wp2_with fail
          (try simp only [Exit.jump])
          (try rw [Exit.noGoto_ret])
          go_ret2
          exact ⟨0, by rw [HR.out]; rfl, (fun n h => by rw [HR.out] at h; cases h), rfl⟩
    · have c1 : decide (bt S (k : Int) < 48) = false := decide_eq_false (by omega)
      have c2 : decide (57 < bt S (k : Int)) = false := decide_eq_false (by omega)
      have c3 : decide (65535 < n) = false := decide_eq_false (by omega)
      have hstep : numL 0 ((bytesOf S).drop 0) = numL (10 * n + (bt S (k : Int) - 48)) ((bytesOf S).drop (k + 1)) := by
        rw [hinv, hd, numL, if_neg hbad]
        (try (first | rfl | (congr 1 <;> omega)))
      have g1 : IntKind.u8.wrap (bt S (k : Int) - 48) = bt S (k : Int) - 48 := by rw [IntKind.wrap_u8]; omega
      have g2 : (bt S (k : Int) - 48) % 256 = bt S (k : Int) - 48 := by omega
      have g3 : IntKind.i64.wrap (10 * n) = 10 * n := IntWalk.i64_in _ (by omega)
      have g4 : IntKind.i64.wrap (10 * n + (bt S (k : Int) - 48)) = 10 * n + (bt S (k : Int) - 48) := IntWalk.i64_in _ (by omega)
      have g5 : wrap64 (bt S (k : Int) - 48) = bt S (k : Int) - 48 := IntWalk.wrap64_in _ (by omega)
      have g6 : IntKind.i64.wrap ((k : Int) + 1) = (k : Int) + 1 := IntWalk.i64_in _ (by have := HS.out; omega)
      have hb2 : 0 ≤ (10 * n + (bt S (k : Int) - 48)) ∧ (10 * n + (bt S (k : Int) - 48)) ≤ 1000000 := by omega
      have HS2 := Aside0.mk hstep
      have HB2 := Aside0.mk hb2
      clear hstep hb2 hinv hd hbad
      by_cases hl : k + 1 < S.size
      · have c5 : decide (((k : Int) + 1) < (S.size : Int)) = true := decide_eq_true (by omega)
        have HK2 : Aside0 (k + 1 < S.size ∧ 0 ≤ (10 * n + (bt S (k : Int) - 48)) ∧ (10 * n + (bt S (k : Int) - 48)) ≤ 1000000 ∧ numL 0 ((bytesOf S).drop 0) = numL (10 * n + (bt S (k : Int) - 48)) ((bytesOf S).drop (k + 1))) := ⟨⟨hl, HB2.out.1, HB2.out.2, HS2.out⟩⟩
        go_wp2_with fail
        go_step3
        exact ⟨rfl, ⟨k + 1, 10 * n + (bt S (k : Int) - 48), _, _, _, _, _, _, _, _, _, _, _, _, _, _, _, _, _, _, _, _, _, _, _, _, _, _, _, _, _, _, _, _, _, _, _, _, _, _, _, _, _, _, _, _, _, _, by go_num, rfl, HK2⟩, by simp [intOf] <;> omega⟩
      · have c5 : decide (((k : Int) + 1) < (S.size : Int)) = false := decide_eq_false (by omega)
        have hnil : (bytesOf S).drop (k + 1) = [] := List.drop_eq_nil_of_le (by rw [bytesOf_length]; omega)
        have HE : Aside0 (numP S = if (10 * n + (bt S (k : Int) - 48)) ≤ 65535 then some (10 * n + (bt S (k : Int) - 48)) else none) := ⟨by rw [HP.out, HS2.out, hnil]; rfl⟩
        clear hnil hl
        go_wp2_with fail
        (try simp only [Exit.jump])
        (try rw [Exit.noGoto_ret])
        go_ret2
        refine ⟨(10 * n + (bt S (k : Int) - 48)), ?_, fun n h => ?_, rfl⟩
        · show Ending.returned (Value.tuple #[.int .i64 (10 * n + (bt S (k : Int) - 48)), .bool (decide ((10 * n + (bt S (k : Int) - 48)) ≤ 65535))]) = _
          rw [HE.out]
          by_cases hq : (10 * n + (bt S (k : Int) - 48)) ≤ 65535
          · rw [if_pos hq, decide_eq_true hq]; rfl
          · rw [if_neg hq, decide_eq_false hq]; rfl
        · rw [HE.out] at h
          split at h
          · injection h
          · cases h
theorem number_calls (S : ByteArray) (w : World) (hs : S.size ≤ 1000000) :
    Calls Tryd.prog 32 #[.string S] w fun e w' => ∃ v : Int, e = .returned (.tuple #[.int .i64 v, .bool (numP S).isSome]) ∧ (∀ n, numP S = some n → v = n) ∧ w' = w := by
  by_cases h0 : S.size = 0
  · have hn : S.toList = [] := by
      rw [Lib.toList_data]
      exact List.eq_nil_of_length_eq_zero (by have := bl_size S; unfold bl at this; omega)
    have c0 : (S.toList == []) = true := beq_iff_eq.2 hn
    have HP : Aside0 (numP S = none) := ⟨by unfold numP; rw [if_pos (Or.inl h0)]⟩
    clear h0 hn hs
    go_enter Tryd.func32, Tryd.ntmps32
    go_wp2_with fail
    refine wp_scope_jumps 0 (fun a' w' => False) (fun a' _ => 0) rfl ?_ ?_
    · go_wp2_with fail
      (try simp only [Exit.jump])
      (try rw [Exit.noGoto_ret])
      go_ret2
      exact ⟨0, by rw [HP.out]; rfl, (fun n h => by rw [HP.out] at h; cases h), rfl⟩
    · intro a' w' h
      exact absurd h id
  · by_cases h1 : 1 < S.size ∧ bt S 0 = 48
    · have c0 : (S.toList == []) = false := by
        cases h : S.toList with
        | nil => rw [Lib.toList_data] at h; have := bl_size S; unfold bl at this; rw [h, List.length_nil] at this; omega
        | cons a l => rfl
      have HP : Aside0 (numP S = none) := ⟨by unfold numP; rw [if_pos (Or.inr h1)]⟩
      have b0 := bt_at S 0
      rw [show (0 : Int).toNat = 0 from rfl, h1.2] at b0
      have d0 : (0 < S.size) = True := eq_true (by omega)
      have c1 : decide (1 < (S.size : Int)) = true := decide_eq_true (by omega)
      clear h0 h1 hs
      go_enter Tryd.func32, Tryd.ntmps32
      go_wp2_with fail
      refine wp_scope_jumps 0 (fun a' w' => False) (fun a' _ => 0) rfl ?_ ?_
      · go_wp2_with fail
        (try simp only [Exit.jump])
        (try rw [Exit.noGoto_ret])
        go_ret2
        exact ⟨0, by rw [HP.out]; rfl, (fun n h => by rw [HP.out] at h; cases h), rfl⟩
      · intro a' w' h
        exact absurd h id
    · exact number_loop S w (by omega) hs h1
end Go.Proofs.YtbmjekekpmabbaaDoor.P
