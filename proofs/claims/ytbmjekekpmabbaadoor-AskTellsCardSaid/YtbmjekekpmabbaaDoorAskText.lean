/- What a hex text says: the function text of package ask. Conditions: the word is not too long. (Printed by gennumber.py.) -/
import Derived.Test.YtbmjekekpmabbaaDoorAskNum
set_option linter.unusedVariables false
set_option linter.unusedSimpArgs false
namespace Go.Proofs.YtbmjekekpmabbaaDoor.P
open Go.RowKit Go.Proofs.YtbmjekekpmabbaaDoorW.PrintWords Go.Proofs.YtbmjekekpmabbaaDoorW.PrintLast Go.Proofs.YtbmjekekpmabbaaDoorW.PrintMore

/-- What hex digits say. -/
def hexP : List Int → Option (List Int)
  | [] => some []
  | [_] => none
  | a :: b :: r => if 0 ≤ hexI a ∧ 0 ≤ hexI b then (hexP r).map (fun t => (16 * hexI a + hexI b) :: t) else none
def textP (w : ByteArray) : Option ByteArray := if w.toList = [45] then some ⟨#[]⟩ else if w.size = 0 ∨ w.size % 2 = 1 then none else (hexP (bytesOf w)).map strOfNums
theorem hexP_two (a b : Int) (r : List Int) : hexP (a :: b :: r) = if 0 ≤ hexI a ∧ 0 ≤ hexI b then (hexP r).map (fun t => (16 * hexI a + hexI b) :: t) else none := rfl
theorem or_all : ∀ a < 16, ∀ b < 16, Go.bits .or .u8 (((a : Nat) : Int) * 16) ((b : Nat) : Int) = 16 * (a : Int) + b := by decide +kernel
theorem or_hex (a b : Int) (h0 : 0 ≤ a) (h1 : a ≤ 15) (h2 : 0 ≤ b) (h3 : b ≤ 15) : Go.bits .or .u8 (a * 16) b = 16 * a + b := by
  have := or_all a.toNat (by omega) b.toNat (by omega)
  rwa [Int.toNat_of_nonneg h0, Int.toNat_of_nonneg h2] at this
theorem map_two (xs : List Int) (x : Int) (o : Option (List Int)) : (o.map (fun t => x :: t)).map (xs ++ ·) = o.map ((xs ++ [x]) ++ ·) := by cases o <;> simp
set_option maxRecDepth 100000 in
set_option maxHeartbeats 4000000 in
theorem text_loop (S : ByteArray) (w : World) (hz : 1 ≤ S.size) (hs : S.size ≤ 1000000) (he : S.size % 2 = 0) (hf : S.toList ≠ [45]) :
    Calls Tryd.prog 31 #[.string S] w fun e w' => ∃ v : ByteArray, e = .returned (.tuple #[.string v, .bool (textP S).isSome]) ∧ (∀ n, textP S = some n → v = n) ∧ Below w.heap.size w w' := by
  have HP : Aside0 (textP S = (hexP (bytesOf S)).map strOfNums) := ⟨by
    unfold textP
    rw [if_neg hf, if_neg (show ¬ (S.size = 0 ∨ S.size % 2 = 1) by omega)]⟩
  have c0 : (S.toList == []) = false := by
    cases h : S.toList with
    | nil => rw [Lib.toList_data] at h; have := bl_size S; unfold bl at this; rw [h, List.length_nil] at this; omega
    | cons a l => rfl
  have c00 : (S.toList == [45]) = false := beq_eq_false_iff_ne.2 hf
  have c01 : decide (0 < Int.tmod (S.size : Int) 2) = false := decide_eq_false (by rw [Int.tmod_eq_emod_of_nonneg (by omega)]; omega)
  have c02 : decide (0 < (S.size : Int) % 2) = false := decide_eq_false (by omega)
  have HS := Aside0.mk hs
  have HZ := Aside0.mk hz
  have HEV := Aside0.mk he
  have HB0 : Aside0 (Below w.heap.size w w) := ⟨Below.refl _ _⟩
  have HO0 : Aside0 (Kd.R (Kd.int .u8) 5 w w.heap.size (fun _ => True) (.slice none 0 0) []) := ⟨Kd.R_nil _ _ _ _ _⟩
  clear hf hs hz he
  go_enter Tryd.func31, Tryd.ntmps31
  go_wp2_with fail
  refine wp_scope_jumps 0 (fun a' w' => ∃ (k : Nat) (xs : List Int) (v : Value) (u1 u2 u3 u6 u7 u8 u9 u10 u11 u12 u13 u14 u15 u16 u17 u18 u19 u20 u21 u22 u23 u24 u25 u26 u27 u28 u29 u30 u31 u32 u33 u34 u35 u36 u37 u38 u39 u40 u41 u42 u43 u44 u45 u46 u47 u48 u49 u50 u51 u52 u53 u54 u55 u56 u57 : Value), a' = { tmps := #[.string S, u1, u2, u3, v, .int .i64 k, u6, u7, u8, u9, u10, u11, u12, u13, u14, u15, u16, u17, u18, u19, u20, u21, u22, u23, u24, u25, u26, u27, u28, u29, u30, u31, u32, u33, u34, u35, u36, u37, u38, u39, u40, u41, u42, u43, u44, u45, u46, u47, u48, u49, u50, u51, u52, u53, u54, u55, u56, u57], defers := [] } ∧ Aside0 (Below w.heap.size w w') ∧ Aside0 (Kd.R (Kd.int .u8) 5 w' w.heap.size (fun _ => True) v xs) ∧ Aside0 (k < S.size ∧ k % 2 = 0 ∧ xs.length ≤ k ∧ hexP (bytesOf S) = (hexP ((bytesOf S).drop k)).map (xs ++ ·))) (fun a' _ => S.size - (intOf (a'.tmps.getD 5 undef)).toNat) rfl ?_ ?_
  · have HB := HB0
    have HO := HO0
    clear HB0 HO0
    go_wp2_with fail
    go_step3
    have hk : 0 < S.size := by have := HZ.out; omega
    have hke : 0 % 2 = 0 := rfl
    have hxl : ([] : List Int).length ≤ 0 := Nat.le_refl _
    have hk1 : 0 + 1 < S.size := by have := HEV.out; omega
    have hd : (bytesOf S).drop 0 = bt S (0 : Int) :: bt S (1 : Int) :: (bytesOf S).drop (0 + 2) := (bytes_drop hk).trans (congrArg (List.cons _) (bytes_drop hk1))
    have hinv : hexP (bytesOf S) = (hexP ((bytesOf S).drop 0)).map ([] ++ ·) := by rw [List.drop_zero]; simp
    have b1 := bt_at S (0 : Int)
    have b2 := bt_at S (1 : Int)
    rw [show (0 : Int).toNat = 0 from rfl] at b1
    rw [show (1 : Int).toNat = 1 from rfl] at b2
    obtain ⟨r0, r1⟩ := bt_range S (0 : Int)
    obtain ⟨q0, q1⟩ := bt_range S (1 : Int)
    have v1 : ((0 : Int) < (S.size : Int)) = True := eq_true (by omega)
    have v2 : (0 ≤ (0 : Int)) = True := eq_true (by omega)
    have v3 : ((1 : Int) < (S.size : Int)) = True := eq_true (by omega)
    have v4 : (0 ≤ (1 : Int)) = True := eq_true (by omega)
    have n1 : (0 < S.size) = True := eq_true hk
    have n2 : (1 < S.size) = True := eq_true hk1
    have v5 : IntKind.i64.wrap ((0 : Int) + 1) = (0 : Int) + 1 := IntWalk.i64_in _ (by have := HS.out; omega)
    have v6 : IntKind.i64.wrap ((0 : Int) + 2) = (0 : Int) + 2 := IntWalk.i64_in _ (by have := HS.out; omega)
    have D1 := Aside0.mk (digit_calls (bt S (0 : Int)) r0 r1)
    have D2 := Aside0.mk (digit_calls (bt S (1 : Int)) q0 q1)
    obtain ⟨a1, a2⟩ := hexI_rng (bt S (0 : Int))
    obtain ⟨e1, e2⟩ := hexI_rng (bt S (1 : Int))
    rw [hd, hexP_two] at hinv
    obtain ⟨a, ha⟩ : ∃ a, hexI (bt S (0 : Int)) = a := ⟨_, rfl⟩
    obtain ⟨b, hb⟩ : ∃ b, hexI (bt S (1 : Int)) = b := ⟨_, rfl⟩
    rw [ha] at D1 a1 a2 hinv
    rw [hb] at D2 e1 e2 hinv
    have HXL := Aside0.mk hxl
    have HK1 := Aside0.mk hk1
    have HKE := Aside0.mk hke
    clear ha hb hd r0 r1 q0 q1 hxl hk hke hk1
    by_cases ga : 0 ≤ a
    · by_cases gb : 0 ≤ b
      · have c1 : decide (0 ≤ a) = true := decide_eq_true ga
        have c2 : decide (0 ≤ b) = true := decide_eq_true gb
        have m1 : max a 0 = a := by omega
        have m2 : max b 0 = b := by omega
        have m3 := or_hex a b ga a2 gb e2
        rw [m1] at D1
        rw [m2] at D2
        rw [if_pos ⟨ga, gb⟩, map_two] at hinv
        have HI := Aside0.mk hinv
        clear hinv
        by_cases hl : 0 + 2 < S.size
        · have c5 : decide ((2 : Int) < (S.size : Int)) = true := decide_eq_true (by omega)
          go_wp2_with (first
            | (go_at_call 49; refine (D1.out _).mono ?_; rintro en w1 ⟨rfl, hw⟩; rw [hw]; clear hw w1 D1)
            | (go_at_call 49; refine (D2.out _).mono ?_; rintro en w2 ⟨rfl, hw⟩; rw [hw]; clear hw w2 D2)
            | ((with_reducible refine gate_builtin (b := .append) (xs := #[.tmp 43, .tmp 48]) rfl ?_); at_builtin; refine Kd.R_append (Kd.int .u8) (w0 := w) w.heap.size rfl (.tmp 43) (.tmp 48) 41 5 (.int .u8 0) 1 rfl Tryd.underlying41 info5 rfl (by decide) (by omega) (.slice none 0 0) [] (16 * a + b) [.int .u8 (16 * a + b)] (fun _ => True) (fun _ => False) rfl rfl ?aP (fun _ hk => hk.elim) ?aF ?aO ?aB ?aS ?aL ?_; (case aP => exact rfl); (case aF => exact (fun _ _ => trivial)); (case aO => exact (by (with_reducible repeat (first | apply Kd.R_alloc | apply Kd.R_drewN | apply Kd.R_drew)); exact HO.out)); (case aB => exact (by repeat (first | (with_reducible first | exact HB.out | apply below_alloc | apply pw_below_drewN | apply below_drew1) | exact HB.out))); (case aS => exact (below_size (by repeat (first | (with_reducible first | exact HB.out | apply below_alloc | apply pw_below_drewN | apply below_drew1) | exact HB.out)))); (case aL => have := HXL.out; have := HK1.out; have := HS.out; omega); intro v3 w3 ho hb hg hat; have HO3 := Aside0.mk ho; have HB3 := Aside0.mk hb; clear ho hb hg hat; have hcv := own_string (P := Tryd.prog) Tryd.underlying41 Tryd.underlying5 Tryd.underlying9 (Kd.own_of_R HO3.out)))
          go_step3
          have HK2 : Aside0 (0 + 2 < S.size ∧ (0 + 2) % 2 = 0 ∧ ([] ++ [16 * a + b]).length ≤ 0 + 2 ∧ hexP (bytesOf S) = (hexP ((bytesOf S).drop (0 + 2))).map (([] ++ [16 * a + b]) ++ ·)) := ⟨⟨hl, by have := HKE.out; omega, by rw [List.length_append]; have h := HXL.out; show ([] : List Int).length + 1 ≤ 0 + 2; omega, HI.out⟩⟩
          exact ⟨rfl, 2, _, _, _, _, _, _, _, _, _, _, _, _, _, _, _, _, _, _, _, _, _, _, _, _, _, _, _, _, _, _, _, _, _, _, _, _, _, _, _, _, _, _, _, _, _, _, _, _, _, _, _, _, _, _, _, _, _, rfl, HB3, HO3, HK2⟩
        · have c5 : decide ((2 : Int) < (S.size : Int)) = false := decide_eq_false (by omega)
          have hnil : (bytesOf S).drop (0 + 2) = [] := List.drop_eq_nil_of_le (by rw [bytesOf_length]; omega)
          have HE : Aside0 (textP S = some (strOfNums ([] ++ [16 * a + b]))) := ⟨by rw [HP.out, HI.out, hnil]; simp [hexP]⟩
          clear hnil hl
          go_wp2_with (first
            | (go_at_call 49; refine (D1.out _).mono ?_; rintro en w1 ⟨rfl, hw⟩; rw [hw]; clear hw w1 D1)
            | (go_at_call 49; refine (D2.out _).mono ?_; rintro en w2 ⟨rfl, hw⟩; rw [hw]; clear hw w2 D2)
            | ((with_reducible refine gate_builtin (b := .append) (xs := #[.tmp 43, .tmp 48]) rfl ?_); at_builtin; refine Kd.R_append (Kd.int .u8) (w0 := w) w.heap.size rfl (.tmp 43) (.tmp 48) 41 5 (.int .u8 0) 1 rfl Tryd.underlying41 info5 rfl (by decide) (by omega) (.slice none 0 0) [] (16 * a + b) [.int .u8 (16 * a + b)] (fun _ => True) (fun _ => False) rfl rfl ?aP (fun _ hk => hk.elim) ?aF ?aO ?aB ?aS ?aL ?_; (case aP => exact rfl); (case aF => exact (fun _ _ => trivial)); (case aO => exact (by (with_reducible repeat (first | apply Kd.R_alloc | apply Kd.R_drewN | apply Kd.R_drew)); exact HO.out)); (case aB => exact (by repeat (first | (with_reducible first | exact HB.out | apply below_alloc | apply pw_below_drewN | apply below_drew1) | exact HB.out))); (case aS => exact (below_size (by repeat (first | (with_reducible first | exact HB.out | apply below_alloc | apply pw_below_drewN | apply below_drew1) | exact HB.out)))); (case aL => have := HXL.out; have := HK1.out; have := HS.out; omega); intro v3 w3 ho hb hg hat; have HO3 := Aside0.mk ho; have HB3 := Aside0.mk hb; clear ho hb hg hat; have hcv := own_string (P := Tryd.prog) Tryd.underlying41 Tryd.underlying5 Tryd.underlying9 (Kd.own_of_R HO3.out)))
          (try simp only [Exit.jump])
          (try rw [Exit.noGoto_ret])
          go_ret2
          refine ⟨strOfNums ([] ++ [16 * a + b]), ?_, fun n h => ?_, HB3.out⟩
          · rw [HE.out]; rfl
          · rw [HE.out] at h
            injection h
      · rw [if_neg (fun h => gb h.2)] at hinv
        have c2 : decide (0 ≤ b) = false := decide_eq_false gb
        have c1 : decide (0 ≤ a) = true := decide_eq_true ga
        have HN : Aside0 (textP S = none) := ⟨by rw [HP.out, hinv]; rfl⟩
        clear hinv
        go_wp2_with (first
          | (go_at_call 49; refine (D1.out _).mono ?_; rintro en w1 ⟨rfl, hw⟩; rw [hw]; clear hw w1 D1)
          | (go_at_call 49; refine (D2.out _).mono ?_; rintro en w2 ⟨rfl, hw⟩; rw [hw]; clear hw w2 D2))
        (try simp only [Exit.jump])
        (try rw [Exit.noGoto_ret])
        go_ret2
        exact ⟨⟨#[]⟩, by rw [HN.out]; rfl, (fun n h => by rw [HN.out] at h; cases h), HB.out⟩
    · rw [if_neg (fun h => ga h.1)] at hinv
      have c1 : decide (0 ≤ a) = false := decide_eq_false ga
      have HN : Aside0 (textP S = none) := ⟨by rw [HP.out, hinv]; rfl⟩
      clear hinv
      go_wp2_with (first
        | (go_at_call 49; refine (D1.out _).mono ?_; rintro en w1 ⟨rfl, hw⟩; rw [hw]; clear hw w1 D1)
        | (go_at_call 49; refine (D2.out _).mono ?_; rintro en w2 ⟨rfl, hw⟩; rw [hw]; clear hw w2 D2))
      (try simp only [Exit.jump])
      (try rw [Exit.noGoto_ret])
      go_ret2
      exact ⟨⟨#[]⟩, by rw [HN.out]; rfl, (fun n h => by rw [HN.out] at h; cases h), HB.out⟩
  · rintro a' wr ⟨k, xs, v, u1, u2, u3, u6, u7, u8, u9, u10, u11, u12, u13, u14, u15, u16, u17, u18, u19, u20, u21, u22, u23, u24, u25, u26, u27, u28, u29, u30, u31, u32, u33, u34, u35, u36, u37, u38, u39, u40, u41, u42, u43, u44, u45, u46, u47, u48, u49, u50, u51, u52, u53, u54, u55, u56, u57, rfl, HB, HO, HK⟩
    clear HB0 HO0
    have hk : k < S.size := HK.out.1
    have hke : k % 2 = 0 := HK.out.2.1
    have hxl : (xs : List Int).length ≤ k := HK.out.2.2.1
    have hk1 : k + 1 < S.size := by have := HEV.out; omega
    have hd : (bytesOf S).drop k = bt S (k : Int) :: bt S ((k : Int) + 1) :: (bytesOf S).drop (k + 2) := (bytes_drop hk).trans (congrArg (List.cons _) (bytes_drop hk1))
    have hinv : hexP (bytesOf S) = (hexP ((bytesOf S).drop k)).map (xs ++ ·) := HK.out.2.2.2
    have b1 := bt_at S (k : Int)
    have b2 := bt_at S ((k : Int) + 1)
    rw [Int.toNat_natCast] at b1
    rw [show ((k : Int) + 1).toNat = k + 1 by omega] at b2
    obtain ⟨r0, r1⟩ := bt_range S (k : Int)
    obtain ⟨q0, q1⟩ := bt_range S ((k : Int) + 1)
    have v1 : ((k : Int) < (S.size : Int)) = True := eq_true (by omega)
    have v2 : (0 ≤ (k : Int)) = True := eq_true (by omega)
    have v3 : (((k : Int) + 1) < (S.size : Int)) = True := eq_true (by omega)
    have v4 : (0 ≤ ((k : Int) + 1)) = True := eq_true (by omega)
    have n1 : (k < S.size) = True := eq_true hk
    have n2 : (k + 1 < S.size) = True := eq_true hk1
    have v5 : IntKind.i64.wrap ((k : Int) + 1) = (k : Int) + 1 := IntWalk.i64_in _ (by have := HS.out; omega)
    have v6 : IntKind.i64.wrap ((k : Int) + 2) = (k : Int) + 2 := IntWalk.i64_in _ (by have := HS.out; omega)
    have D1 := Aside0.mk (digit_calls (bt S (k : Int)) r0 r1)
    have D2 := Aside0.mk (digit_calls (bt S ((k : Int) + 1)) q0 q1)
    obtain ⟨a1, a2⟩ := hexI_rng (bt S (k : Int))
    obtain ⟨e1, e2⟩ := hexI_rng (bt S ((k : Int) + 1))
    rw [hd, hexP_two] at hinv
    obtain ⟨a, ha⟩ : ∃ a, hexI (bt S (k : Int)) = a := ⟨_, rfl⟩
    obtain ⟨b, hb⟩ : ∃ b, hexI (bt S ((k : Int) + 1)) = b := ⟨_, rfl⟩
    rw [ha] at D1 a1 a2 hinv
    rw [hb] at D2 e1 e2 hinv
    have HXL := Aside0.mk hxl
    have HK1 := Aside0.mk hk1
    have HKE := Aside0.mk hke
    clear ha hb hd r0 r1 q0 q1 hxl hk hke hk1
    by_cases ga : 0 ≤ a
    · by_cases gb : 0 ≤ b
      · have c1 : decide (0 ≤ a) = true := decide_eq_true ga
        have c2 : decide (0 ≤ b) = true := decide_eq_true gb
        have m1 : max a 0 = a := by omega
        have m2 : max b 0 = b := by omega
        have m3 := or_hex a b ga a2 gb e2
        rw [m1] at D1
        rw [m2] at D2
        rw [if_pos ⟨ga, gb⟩, map_two] at hinv
        have HI := Aside0.mk hinv
        clear hinv
        by_cases hl : k + 2 < S.size
        · have c5 : decide (((k : Int) + 2) < (S.size : Int)) = true := decide_eq_true (by omega)
          go_wp2_with (first
            | (go_at_call 49; refine (D1.out _).mono ?_; rintro en w1 ⟨rfl, hw⟩; rw [hw]; clear hw w1 D1)
            | (go_at_call 49; refine (D2.out _).mono ?_; rintro en w2 ⟨rfl, hw⟩; rw [hw]; clear hw w2 D2)
            | ((with_reducible refine gate_builtin (b := .append) (xs := #[.tmp 43, .tmp 48]) rfl ?_); at_builtin; refine Kd.R_append (Kd.int .u8) (w0 := w) w.heap.size rfl (.tmp 43) (.tmp 48) 41 5 (.int .u8 0) 1 rfl Tryd.underlying41 info5 rfl (by decide) (by omega) v xs (16 * a + b) [.int .u8 (16 * a + b)] (fun _ => True) (fun _ => False) rfl rfl ?aP (fun _ hk => hk.elim) ?aF ?aO ?aB ?aS ?aL ?_; (case aP => exact rfl); (case aF => exact (fun _ _ => trivial)); (case aO => exact (by (with_reducible repeat (first | apply Kd.R_alloc | apply Kd.R_drewN | apply Kd.R_drew)); exact HO.out)); (case aB => exact (by repeat (first | (with_reducible first | exact HB.out | apply below_alloc | apply pw_below_drewN | apply below_drew1) | exact HB.out))); (case aS => exact (below_size (by repeat (first | (with_reducible first | exact HB.out | apply below_alloc | apply pw_below_drewN | apply below_drew1) | exact HB.out)))); (case aL => have := HXL.out; have := HK1.out; have := HS.out; omega); intro v3 w3 ho hb hg hat; have HO3 := Aside0.mk ho; have HB3 := Aside0.mk hb; clear ho hb hg hat; have hcv := own_string (P := Tryd.prog) Tryd.underlying41 Tryd.underlying5 Tryd.underlying9 (Kd.own_of_R HO3.out)))
          go_step3
          have HK2 : Aside0 (k + 2 < S.size ∧ (k + 2) % 2 = 0 ∧ (xs ++ [16 * a + b]).length ≤ k + 2 ∧ hexP (bytesOf S) = (hexP ((bytesOf S).drop (k + 2))).map ((xs ++ [16 * a + b]) ++ ·)) := ⟨⟨hl, by have := HKE.out; omega, by rw [List.length_append]; have h := HXL.out; show (xs : List Int).length + 1 ≤ k + 2; omega, HI.out⟩⟩
          exact ⟨rfl, ⟨k + 2, _, _, _, _, _, _, _, _, _, _, _, _, _, _, _, _, _, _, _, _, _, _, _, _, _, _, _, _, _, _, _, _, _, _, _, _, _, _, _, _, _, _, _, _, _, _, _, _, _, _, _, _, _, _, _, _, _, by go_num, HB3, HO3, HK2⟩, by simp [intOf] <;> omega⟩
        · have c5 : decide (((k : Int) + 2) < (S.size : Int)) = false := decide_eq_false (by omega)
          have hnil : (bytesOf S).drop (k + 2) = [] := List.drop_eq_nil_of_le (by rw [bytesOf_length]; omega)
          have HE : Aside0 (textP S = some (strOfNums (xs ++ [16 * a + b]))) := ⟨by rw [HP.out, HI.out, hnil]; simp [hexP]⟩
          clear hnil hl
          go_wp2_with (first
            | (go_at_call 49; refine (D1.out _).mono ?_; rintro en w1 ⟨rfl, hw⟩; rw [hw]; clear hw w1 D1)
            | (go_at_call 49; refine (D2.out _).mono ?_; rintro en w2 ⟨rfl, hw⟩; rw [hw]; clear hw w2 D2)
            | ((with_reducible refine gate_builtin (b := .append) (xs := #[.tmp 43, .tmp 48]) rfl ?_); at_builtin; refine Kd.R_append (Kd.int .u8) (w0 := w) w.heap.size rfl (.tmp 43) (.tmp 48) 41 5 (.int .u8 0) 1 rfl Tryd.underlying41 info5 rfl (by decide) (by omega) v xs (16 * a + b) [.int .u8 (16 * a + b)] (fun _ => True) (fun _ => False) rfl rfl ?aP (fun _ hk => hk.elim) ?aF ?aO ?aB ?aS ?aL ?_; (case aP => exact rfl); (case aF => exact (fun _ _ => trivial)); (case aO => exact (by (with_reducible repeat (first | apply Kd.R_alloc | apply Kd.R_drewN | apply Kd.R_drew)); exact HO.out)); (case aB => exact (by repeat (first | (with_reducible first | exact HB.out | apply below_alloc | apply pw_below_drewN | apply below_drew1) | exact HB.out))); (case aS => exact (below_size (by repeat (first | (with_reducible first | exact HB.out | apply below_alloc | apply pw_below_drewN | apply below_drew1) | exact HB.out)))); (case aL => have := HXL.out; have := HK1.out; have := HS.out; omega); intro v3 w3 ho hb hg hat; have HO3 := Aside0.mk ho; have HB3 := Aside0.mk hb; clear ho hb hg hat; have hcv := own_string (P := Tryd.prog) Tryd.underlying41 Tryd.underlying5 Tryd.underlying9 (Kd.own_of_R HO3.out)))
          (try simp only [Exit.jump])
          (try rw [Exit.noGoto_ret])
          go_ret2
          refine ⟨strOfNums (xs ++ [16 * a + b]), ?_, fun n h => ?_, HB3.out⟩
          · rw [HE.out]; rfl
          · rw [HE.out] at h
            injection h
      · rw [if_neg (fun h => gb h.2)] at hinv
        have c2 : decide (0 ≤ b) = false := decide_eq_false gb
        have c1 : decide (0 ≤ a) = true := decide_eq_true ga
        have HN : Aside0 (textP S = none) := ⟨by rw [HP.out, hinv]; rfl⟩
        clear hinv
        go_wp2_with (first
          | (go_at_call 49; refine (D1.out _).mono ?_; rintro en w1 ⟨rfl, hw⟩; rw [hw]; clear hw w1 D1)
          | (go_at_call 49; refine (D2.out _).mono ?_; rintro en w2 ⟨rfl, hw⟩; rw [hw]; clear hw w2 D2))
        (try simp only [Exit.jump])
        (try rw [Exit.noGoto_ret])
        go_ret2
        exact ⟨⟨#[]⟩, by rw [HN.out]; rfl, (fun n h => by rw [HN.out] at h; cases h), HB.out⟩
    · rw [if_neg (fun h => ga h.1)] at hinv
      have c1 : decide (0 ≤ a) = false := decide_eq_false ga
      have HN : Aside0 (textP S = none) := ⟨by rw [HP.out, hinv]; rfl⟩
      clear hinv
      go_wp2_with (first
        | (go_at_call 49; refine (D1.out _).mono ?_; rintro en w1 ⟨rfl, hw⟩; rw [hw]; clear hw w1 D1)
        | (go_at_call 49; refine (D2.out _).mono ?_; rintro en w2 ⟨rfl, hw⟩; rw [hw]; clear hw w2 D2))
      (try simp only [Exit.jump])
      (try rw [Exit.noGoto_ret])
      go_ret2
      exact ⟨⟨#[]⟩, by rw [HN.out]; rfl, (fun n h => by rw [HN.out] at h; cases h), HB.out⟩
theorem text_word_calls (S : ByteArray) (w : World) (hs : S.size ≤ 1000000) :
    Calls Tryd.prog 31 #[.string S] w fun e w' => ∃ v : ByteArray, e = .returned (.tuple #[.string v, .bool (textP S).isSome]) ∧ (∀ n, textP S = some n → v = n) ∧ Below w.heap.size w w' := by
  by_cases hf : S.toList = [45]
  · have c0 : (S.toList == [45]) = true := beq_iff_eq.2 hf
    have HP : Aside0 (textP S = some ⟨#[]⟩) := ⟨by unfold textP; rw [if_pos hf]⟩
    clear hf hs
    go_enter Tryd.func31, Tryd.ntmps31
    go_wp2_with fail
    refine wp_scope_jumps 0 (fun a' w' => False) (fun a' _ => 0) rfl ?_ ?_
    · go_wp2_with fail
      (try simp only [Exit.jump])
      (try rw [Exit.noGoto_ret])
      go_ret2
      exact ⟨⟨#[]⟩, by rw [HP.out]; rfl, (fun n h => by rw [HP.out] at h; injection h), Below.refl _ _⟩
    · intro a' w' h
      exact absurd h id
  · have c00 : (S.toList == [45]) = false := beq_eq_false_iff_ne.2 hf
    by_cases h0 : S.size = 0
    · have hn : S.toList = [] := by
        rw [Lib.toList_data]
        exact List.eq_nil_of_length_eq_zero (by have := bl_size S; unfold bl at this; omega)
      have c0 : (S.toList == []) = true := beq_iff_eq.2 hn
      have HP : Aside0 (textP S = none) := ⟨by unfold textP; rw [if_neg hf, if_pos (Or.inl h0)]⟩
      clear h0 hn hs hf
      go_enter Tryd.func31, Tryd.ntmps31
      go_wp2_with fail
      refine wp_scope_jumps 0 (fun a' w' => False) (fun a' _ => 0) rfl ?_ ?_
      · go_wp2_with fail
        (try simp only [Exit.jump])
        (try rw [Exit.noGoto_ret])
        go_ret2
        exact ⟨⟨#[]⟩, by rw [HP.out]; rfl, (fun n h => by rw [HP.out] at h; cases h), Below.refl _ _⟩
      · intro a' w' h
        exact absurd h id
    · by_cases h1 : S.size % 2 = 1
      · have c0 : (S.toList == []) = false := by
          cases h : S.toList with
          | nil => rw [Lib.toList_data] at h; have := bl_size S; unfold bl at this; rw [h, List.length_nil] at this; omega
          | cons a l => rfl
        have HP : Aside0 (textP S = none) := ⟨by unfold textP; rw [if_neg hf, if_pos (Or.inr h1)]⟩
        have c01 : decide (0 < Int.tmod (S.size : Int) 2) = true := decide_eq_true (by rw [Int.tmod_eq_emod_of_nonneg (by omega)]; omega)
        have c02 : decide (0 < (S.size : Int) % 2) = true := decide_eq_true (by omega)
        clear h0 h1 hs hf
        go_enter Tryd.func31, Tryd.ntmps31
        go_wp2_with fail
        refine wp_scope_jumps 0 (fun a' w' => False) (fun a' _ => 0) rfl ?_ ?_
        · go_wp2_with fail
          (try simp only [Exit.jump])
          (try rw [Exit.noGoto_ret])
          go_ret2
          exact ⟨⟨#[]⟩, by rw [HP.out]; rfl, (fun n h => by rw [HP.out] at h; cases h), Below.refl _ _⟩
        · intro a' w' h
          exact absurd h id
      · exact text_loop S w (by omega) hs (by omega) hf
end Go.Proofs.YtbmjekekpmabbaaDoor.P
