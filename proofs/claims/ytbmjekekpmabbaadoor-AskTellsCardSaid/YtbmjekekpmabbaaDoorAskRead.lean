/- The function Read of package ask reads what the plain function readOf says. Conditions: the line is not too long. (Printed by genread.py.) -/
import Derived.Test.YtbmjekekpmabbaaDoorAskV
import Derived.Test.YtbmjekekpmabbaaDoorAskName
set_option linter.unusedVariables false
set_option linter.unusedSimpArgs false
namespace Go.Proofs.YtbmjekekpmabbaaDoor.P
open Go.RowKit Go.Proofs.YtbmjekekpmabbaaDoorW.PrintWords Go.Proofs.YtbmjekekpmabbaaDoorW.PrintLast Go.Proofs.YtbmjekekpmabbaaDoorW.PrintMore

def askRead.T8 : Bool × List (List Nat × List Nat) := (true, [([], []), ([0], [0]), ([], []), ([2], [2]), ([3], [3]), ([1, 4], [1, 4])])
def askRead.B8 : List Nat := [0, 1, 0, 4, 12, 31]
theorem askRead.tab8 : rtab .any (opsOf Tryd.f16 8) = askRead.T8 := by kernel_rfl
theorem askRead.bits8 : waitsOk askRead.T8.2 askRead.B8 = true := by kernel_rfl
def askRead.T19 : Bool × List (List Nat × List Nat) := (true, [([], []), ([], []), ([], []), ([1, 2], [1, 2]), ([0, 3], [0, 3]), ([], []), ([5, 0], [5]), ([6], [6]), ([7], [7]), ([7], [7]), ([4, 0, 1, 2, 3, 4, 5, 6, 7, 8], [4]), ([10, 8, 6, 0, 1, 2, 3, 4, 5, 6, 7, 8], [8, 10]), ([9, 11, 0, 1, 2, 3, 4, 5, 6, 7, 8, 9, 10, 11], [9])])
def askRead.B19 : List Nat := [0, 0, 0, 6, 15, 0, 33, 97, 225, 225, 511, 1535, 4095]
theorem askRead.tab19 : rtab .any (opsOf Tryd.f16 19) = askRead.T19 := by kernel_rfl
theorem askRead.bits19 : waitsOk askRead.T19.2 askRead.B19 = true := by kernel_rfl
attribute [local go_sem] shape_field0 shape_field1
set_option maxRecDepth 100000 in
set_option maxHeartbeats 4000000 in
theorem read_calls (line : ByteArray) (w : World) (hs : line.size ≤ 1000000) :
    Calls Tryd.prog 16 #[.string line] w fun e w' => e = .returned (outOf (readOf line)) ∧ Below w.heap.size w w' := by
  obtain ⟨W1, hW1⟩ : ∃ W1, w.alloc (.cells zeroV.cells 23) = W1 := ⟨_, rfl⟩
  have HB1 : Aside0 (Below w.heap.size w W1) := ⟨by rw [← hW1]; exact below_alloc (Below.refl _ _) _⟩
  obtain ⟨rb, hrb⟩ : ∃ rb, w.heap.size = rb := ⟨_, rfl⟩
  have RB1 : Aside0 (W1.heap[rb]? = some (.cells zeroV.cells 23 (0, 0))) := ⟨by rw [← hW1, ← hrb]; exact blk_new _ _⟩
  have RG : Aside0 (w.heap.size ≤ rb) := ⟨Nat.le_of_eq hrb⟩
  have WC := Aside0.mk (words_calls line W1 hs)
  have TC := Aside0.mk (fun w => trim_calls line w hs)
  have NC := Aside0.mk name_calls
  have W1E : Aside0 (w.alloc (.cells #[.int .i64 0, .int .i64 0, .int .i64 0, .int .i64 0, .int .i64 0, .string ⟨#[]⟩] 23) = W1) := ⟨hW1⟩
  have RBE := Aside0.mk hrb
  have HS := Aside0.mk hs
  clear hW1 hs hrb
  go_enter Tryd.func16, Tryd.ntmps16
  go_wp2_with fail
  rw [W1E.out, RBE.out]
  refine WC.out.mono ?_
  rintro e w1 ⟨g, c, rfl, hnc, hr, hb⟩
  have RB := Aside0.mk (blk_below RB1.out hb)
  have HB := Aside0.mk (below_step HB1.out hb)
  obtain ⟨ws, hws⟩ : ∃ ws, wordsOf line = ws := ⟨_, rfl⟩
  rw [hws] at hnc hr ⊢
  obtain ⟨n, hn⟩ : ∃ n, ws.length = n := ⟨_, rfl⟩
  rw [hn] at hnc hr ⊢
  have HWS := Aside0.mk hws
  have HNL := Aside0.mk hn
  have HNC := Aside0.mk hnc
  have HR := Aside0.mk hr
  clear hws hn hnc hr hb WC RB1 HB1
  by_cases h0 : n = 0
  · have HN : Aside0 (readOf line = none) := ⟨by unfold readOf; rw [if_pos (Or.inl (by rw [HWS.out, HNL.out]; exact h0))]⟩
    subst h0
    obtain ⟨y0, y1, y2, y3, y4, y5, f0, f1, f2, f3, f4, f5⟩ := six_facts RB.out
    have hend := six_blk (a := zeroV) RB.out
    have hbl := six_below (a := zeroV) HB.out RG.out
    have HEND := Aside0.mk hend
    have HBL := Aside0.mk hbl
    clear hend hbl
    go_wp2_with fail
    refine bodyPost_ret (w := sixSet _ rb zeroV) (read_end (g := rb) (a0 := zeroV) _ none rfl rfl HEND.out) rfl ⟨?_, HBL.out⟩
    rw [HN.out]
  · have c1 : ((n : Int) == 0) = false := beq_eq_false_iff_ne.2 (by omega)
    go_wp2_with fail
    refine (TC.out _).mono ?_
    rintro e w2 ⟨t, rfl, ht, hd⟩
    have RBN := Aside0.mk (blk_below RB.out hd.below)
    have HBN := Aside0.mk (below_step HB.out hd.below)
    have HRN := Aside0.mk (HR.out.below hd.below)
    clear RB HB HR hd TC
    have RB := RBN
    have HB := HBN
    have HR := HRN
    clear RBN HBN HRN
    cases hed : edgeB line with
    | false =>
      have HN : Aside0 (readOf line = none) := ⟨by unfold readOf; rw [if_pos (Or.inr hed)]⟩
      rw [hed, Bool.not_false] at ht
      have ht2 : (t.toList == line.toList) = false := by simpa using ht
      clear hed
      obtain ⟨y0, y1, y2, y3, y4, y5, f0, f1, f2, f3, f4, f5⟩ := six_facts RB.out
      have hend := six_blk (a := zeroV) RB.out
      have hbl := six_below (a := zeroV) HB.out RG.out
      have HEND := Aside0.mk hend
      have HBL := Aside0.mk hbl
      clear hend hbl
      go_wp2_with fail
      refine bodyPost_ret (w := sixSet _ rb zeroV) (read_end (g := rb) (a0 := zeroV) _ none rfl rfl HEND.out) rfl ⟨?_, HBL.out⟩
      rw [HN.out]
    | true =>
      rw [hed, Bool.not_true] at ht
      have ht2 : (t.toList == line.toList) = true := by simpa using ht
      have HED := Aside0.mk hed
      clear hed
      obtain ⟨b, hbb⟩ : ∃ b, w2.heap.size = b := ⟨_, rfl⟩
      obtain ⟨W3, hW3⟩ : ∃ W3, w2.alloc (.cells zeroV.cells 23) = W3 := ⟨_, rfl⟩
      have W3E : Aside0 (w2.alloc (.cells #[.int .i64 0, .int .i64 0, .int .i64 0, .int .i64 0, .int .i64 0, .string ⟨#[]⟩] 23) = W3) := ⟨hW3⟩
      have hb3 : Below w2.heap.size w2 W3 := by rw [← hW3]; exact below_alloc (Below.refl _ _) _
      have AB : Aside0 (W3.heap[b]? = some (.cells zeroV.cells 23 (0, 0))) := ⟨by rw [← hW3, ← hbb]; exact blk_new _ _⟩
      have HB2 : Aside0 (Below w2.heap.size w2 W3) := ⟨hb3⟩
      have BG : Aside0 (w2.heap.size ≤ b) := ⟨Nat.le_of_eq hbb⟩
      have BE := Aside0.mk hbb
      clear hW3 hbb hb3
      go_wp2_with fail
      rw [W3E.out, BE.out]
      go_loopw [6] (fun s6 wr => ∃ j : Nat, s6 = .int .i64 (j : Int) ∧ 1 ≤ j ∧ j ≤ 10 ∧ Aside0 (wr.heap[b]? = some (.cells ({ zeroV with kind := kindTo (rdOf ⟨#[]⟩ ws 0) (j - 1) } : AskV).cells 23 (0, 0))) ∧ Aside0 (Below w2.heap.size w2 wr)) (fun s6 _ => 10 - (intOf s6).toNat)
      case atStart => exact ⟨1, rfl, Nat.le_refl _, by decide, AB, HB2⟩
      case round =>
        clear AB HB2
        obtain ⟨j, rfl, hj1, hj, AB, HB2⟩ := hrel
        by_cases hlt : j < 10
        · have c1 : decide ((j : Int) ≤ 9) = true := decide_eq_true (by omega)
          obtain ⟨ad, had, hw0⟩ := (HR.out.below HB2.out).at_ 0 (Int.le_refl _) (by omega)
          injection had with had
          subst had
          rw [show (0 : Int).toNat = 0 from rfl, add_plain] at hw0
          have v6 : ((0 : Int) < (n : Int)) = True := eq_true (by omega)
          have v7 : (0 < n) = True := eq_true (by omega)
          have v8 : IntKind.i64.wrap ((j : Int) + 1) = ((j + 1 : Nat) : Int) := by rw [IntWalk.i64_in _ (by omega)]; omega
          go_wp2_with fail
          refine start_ (n := 6) (S := fun w' => Below wr.heap.size wr w') (ds := []) #[false, false, false, false, false, false] (by kernel_rfl) rfl rfl (below_drew1 (Below.refl _ _)) (fun hHeld => ?_)
          refine with_tabW askRead.tab8 askRead.bits8 (fun HT_ HW_ => ?_)
          refine take_ (i := 0) (N := some 27) (v := ?_) (a' := ?_) #[true, false, false, false, false, false] rfl rfl (take_ofW HT_.out HW_.out (by kernel_rfl)) (fun _ _ _ h => h) (Or.inl ⟨by rfl, ?_⟩) hHeld ?_ ?_
          rotate_left
          · intro w' s
            go_simp
            with_reducible rfl
          rotate_left
          · simp only [Act.put, List.setIfInBounds_toArray, List.set_cons_zero, List.set_cons_succ, i64_w, i32_w]
            rfl
          refine take_ (i := 2) (N := some 29) (v := ?_) (a' := ?_) #[true, false, true, false, false, false] rfl rfl (take_ofW HT_.out HW_.out (by kernel_rfl)) (fun _ _ _ h => h) (Or.inl ⟨by rfl, ?_⟩) hHeld ?_ ?_
          rotate_left
          · intro w' s
            go_simp
            with_reducible rfl
          rotate_left
          · simp only [Act.put, List.setIfInBounds_toArray, List.set_cons_zero, List.set_cons_succ, i64_w, i32_w]
            rfl
          refine take_ (i := 3) (N := some 30) (v := ?_) (a' := ?_) #[true, false, true, true, false, false] rfl rfl (take_ofW HT_.out HW_.out (by kernel_rfl)) (fun _ _ _ h => h) (Or.inl ⟨by rfl, ?_⟩) hHeld ?_ ?_
          rotate_left
          · intro w' s
            go_simp
            with_reducible rfl
          rotate_left
          · simp only [Act.put, List.setIfInBounds_toArray, List.set_cons_zero, List.set_cons_succ, i64_w, i32_w]
            rfl
          refine take_ (i := 4) (N := some 31) (v := ?_) (a' := ?_) #[true, false, true, true, true, false] rfl rfl (take_ofW HT_.out HW_.out (by kernel_rfl)) (fun _ _ _ h => h) (Or.inl ⟨by rfl, ?_⟩) hHeld ?_ ?_
          rotate_left
          · intro w' s
            have s0 := pw_cell_below s hw0
            go_simp
            with_reducible rfl
          rotate_left
          · simp only [Act.put, List.setIfInBounds_toArray, List.set_cons_zero, List.set_cons_succ, i64_w, i32_w]
            rfl
          refine one_ (i := 1) (N := some 28) #[true, true, true, true, true, false] rfl rfl (one_of HT_.out (by kernel_rfl)) (by decide) (fun K hK => ?_)
          refine goes_ Tryd.func19 (by kernel_rfl) rfl #[.int .i64 (j : Int)] (by rfl) rfl rfl (by (try simp only [List.map_toArray, List.map_cons, List.map_nil]); first | done | rfl) ?_
          refine (NC.out _ _).mono ?_
          rintro en w3 ⟨rfl, hb⟩
          refine ⟨_, rfl, ?_⟩
          have hS3 := below_step hHeld hb
          clear hb
          refine hK.out _ _ hS3 (fun hHeld => ?_)
          clear hK K
          refine norm_ (a' := ?_) ?_ ?_
          rotate_left
          · show Act.put _ (some 28) _ = _
            simp only [Act.put, List.setIfInBounds_toArray, List.set_cons_zero, List.set_cons_succ, i64_w, i32_w]
            rfl
          refine take_ (i := 5) (N := some 32) (v := ?_) (a' := ?_) #[true, true, true, true, true, true] rfl rfl (take_ofW HT_.out HW_.out (by kernel_rfl)) (fun _ _ _ h => h) (Or.inl ⟨by rfl, ?_⟩) hHeld ?_ ?_
          rotate_left
          · intro w' s
            go_simp
            with_reducible rfl
          rotate_left
          · simp only [Act.put, List.setIfInBounds_toArray, List.set_cons_zero, List.set_cons_succ, i64_w, i32_w]
            rfl
          refine done_ (done_of HT_.out (by kernel_rfl)) ?_
          have ABN := Aside0.mk (blk_below AB.out hHeld)
          have HBN := Aside0.mk (below_step HB2.out hHeld)
          have HJ : Aside0 (kindTo (rdOf ⟨#[]⟩ ws 0) j = if ((nameOf (j : Int)).toList == (rdOf ⟨#[]⟩ ws 0).toList) = true then (j : Int) else kindTo (rdOf ⟨#[]⟩ ws 0) (j - 1)) := ⟨by
            obtain ⟨i, rfl⟩ : ∃ i, j = i + 1 := ⟨j - 1, by omega⟩
            rfl⟩
          clear hw0 hHeld v6 v7
          obtain ⟨q, hq⟩ : ∃ q, ((nameOf (j : Int)).toList == (rdOf ⟨#[]⟩ ws 0).toList) = q := ⟨_, rfl⟩
          rw [hq] at HJ
          rw [hq]
          clear hq
          cases q with
          | true =>
            obtain ⟨y0, y1, y2, y3, y4, y5, f0, f1, f2, f3, f4, f5⟩ := six_facts ABN.out
            clear y1 y2 y3 y4 y5 f1 f2 f3 f4 f5
            go_wp2_with fail
            refine ⟨⟨j + 1, by go_num, by omega, by omega, ⟨?_⟩, ⟨below_set HBN.out BG.out⟩⟩, ?_⟩
            · rw [Nat.add_sub_cancel, HJ.out, if_pos rfl]
              exact blk_set ABN.out 0 _
            · simp [intOf]
              omega
          | false =>
            go_wp2_with fail
            refine ⟨⟨j + 1, by go_num, by omega, by omega, ⟨?_⟩, HBN⟩, ?_⟩
            · rw [Nat.add_sub_cancel, HJ.out, if_neg (by decide)]
              exact ABN.out
            · simp [intOf]
              omega
        · have hj10 : j - 1 = 9 := by omega
          have c1 : decide ((j : Int) ≤ 9) = false := decide_eq_false (by omega)
          rw [hj10, show kindTo (rdOf ⟨#[]⟩ ws 0) 9 = kindP (rdOf ⟨#[]⟩ ws 0) from rfl] at AB
          obtain ⟨K, hK⟩ : ∃ K, kindP (rdOf ⟨#[]⟩ ws 0) = K := ⟨_, rfl⟩
          have hKw : kindP (wd line 0) = K := by unfold wd; rw [HWS.out]; exact hK
          have HKW := Aside0.mk hKw
          rw [hK] at AB
          have OC := Aside0.mk (of_calls K)
          obtain ⟨has, hhas⟩ : ∃ has, hasOf K = has := ⟨_, rfl⟩
          rw [hhas] at OC
          have HHAS := Aside0.mk hhas
          have y0 : wr.cell? ⟨b, 0, none⟩ = some (.int .i64 K) := (six_facts AB.out).1
          clear hj hj1 hj10 hlt hKw hK hhas
          go_wp2_with fail
          refine (OC.out _).mono ?_
          rintro en w5 ⟨rfl, hb⟩
          have ABN := Aside0.mk (blk_below AB.out hb)
          have HBN := Aside0.mk (below_step HB2.out hb)
          have RBN := Aside0.mk (blk_below RB.out HBN.out)
          have HBW := Aside0.mk (below_step HB.out HBN.out)
          have HRN := Aside0.mk (HR.out.below HBN.out)
          clear hb OC AB HB2 y0
          have AB := ABN
          have HB2 := HBN
          clear ABN HBN
          have y0 : w5.cell? ⟨b, 0, none⟩ = some (.int .i64 K) := (six_facts AB.out).1
          have hsz : has.size ≤ 4 := by rw [← HHAS.out]; exact has_size K
          have v1 : IntKind.i64.wrap (1 + (has.size : Int)) = 1 + (has.size : Int) := IntWalk.i64_in _ (by omega)
          have v1b : wrap64 (1 + (has.size : Int)) = 1 + (has.size : Int) := IntWalk.wrap64_in _ (by omega)
          by_cases hK0 : K = 0
          · have c2 : (K == 0) = true := beq_iff_eq.2 hK0
            have HN : Aside0 (readOf line = none) := ⟨by
              unfold readOf
              rw [HKW.out, if_neg (show ¬ ((wordsOf line).length = 0 ∨ edgeB line = false) by rw [HWS.out, HNL.out, HED.out]; simp; exact h0), if_pos (Or.inl hK0)]⟩
            clear hK0
            have RB := RBN
            have HB := HBW
            obtain ⟨y0, y1, y2, y3, y4, y5, f0, f1, f2, f3, f4, f5⟩ := six_facts RB.out
            have hend := six_blk (a := zeroV) RB.out
            have hbl := six_below (a := zeroV) HB.out RG.out
            have HEND := Aside0.mk hend
            have HBL := Aside0.mk hbl
            clear hend hbl
            go_wp2_with fail
            refine bodyPost_ret (w := sixSet _ rb zeroV) (read_end (g := rb) (a0 := zeroV) _ none rfl rfl HEND.out) rfl ⟨?_, HBL.out⟩
            rw [HN.out]
          · have c2 : (K == 0) = false := beq_eq_false_iff_ne.2 hK0
            by_cases hlen : n = 1 + has.size
            · have c3 : ((n : Int) != 1 + (has.size : Int)) = false := bne_eq_false_iff_eq.2 (by omega)
              obtain ⟨m, hm⟩ : ∃ m, has.size = m := ⟨_, rfl⟩
              have hn1 : n - 1 = m := by omega
              obtain ⟨iS, hiS, hzS⟩ := Option.map_eq_some_iff.1 infoStr
              have hszS : iS.size = 1 := by simp only [Prod.mk.injEq] at hzS; exact hzS.2.1
              obtain ⟨A', hcut, hrd⟩ := print_cut_of (P := Tryd.prog) Value.string (⟨#[]⟩ : ByteArray) 34 9 .i64 Tryd.underlying34 hiS hszS (some ⟨g, 0, none⟩) n c 1 (by omega)
              rw [hn1] at hcut hrd
              have hcut2 : ∀ W : World, (Instr.slice 34 (.slice (some ⟨g, 0, none⟩) n c) (some (.int .i64 1)) none none).run Tryd.prog W = .ok (.slice A' m (c - 1)) W := hcut
              have HW := Aside0.mk (hrd w5 ws HNC.out HRN.out)
              have HAB : Aside0 (∀ ad, A' = some ad → 0 < m → ad.block < w2.heap.size) := ⟨fun ad he hp => reads_block (hrd w2 ws HNC.out HR.out) he (by omega)⟩
              have HRO : Aside0 (readOf line = (fillL ((bytesOf has).drop 0) ((ws.drop 1).drop 0) { zeroV with kind := K }).bind fun a => if a.ok = true then some a else none) := ⟨by
                unfold readOf
                rw [HKW.out, HHAS.out, if_neg (show ¬ ((wordsOf line).length = 0 ∨ edgeB line = false) by rw [HWS.out, HNL.out, HED.out]; simp; exact h0), if_neg (show ¬ (K = 0 ∨ (wordsOf line).length ≠ 1 + has.size) by rw [HWS.out, HNL.out]; exact fun h => h.elim hK0 (fun h => h hlen)), HWS.out, List.drop_zero, List.drop_zero]⟩
              have HM := Aside0.mk hm
              have HN1 : Aside0 (n = m + 1) := ⟨by omega⟩
              have hm4 : m ≤ 4 := by omega
              have HWL : Aside0 ((ws.drop 1).length = m) := ⟨by rw [List.length_drop, HNL.out]; exact hn1⟩
              have TX := Aside0.mk (fun i => text_word_calls (rdOf ⟨#[]⟩ (wordsOf line) i))
              have NX := Aside0.mk (fun i w h => number_calls (rdOf ⟨#[]⟩ (wordsOf line) i) w h)
              have NU := Aside0.mk (numbers_calls b)
              clear hcut hrd hn1 hlen hK0 hsz hm hiS hzS hszS HRN
              go_wp2_with fail
              clear hcut2 v1 v1b c2 c3 y0
              have RBL : Aside0 (rb ≠ b) := ⟨by have := blk_lt RB.out; have := BE.out; omega⟩
              have BGW : Aside0 (w.heap.size ≤ b) := ⟨by have := BE.out; have := HB.out.size; omega⟩
              obtain ⟨wa, hwa⟩ : ∃ wa : Nat → ByteArray, (fun i => rdOf ⟨#[]⟩ ws ((i + 1 : Nat) : Int)) = wa := ⟨_, rfl⟩
              have HWA : Aside0 (∀ i, wa i = rdOf ⟨#[]⟩ (wordsOf line) ((i + 1 : Nat) : Int)) := ⟨fun i => by rw [← hwa, HWS.out]⟩
              have HWD : Aside0 (∀ i, rdOf ⟨#[]⟩ (ws.drop 1) ((i : Nat) : Int) = wa i) := ⟨fun i => by rw [← hwa]; exact rd_drop ws i⟩
              clear hwa
              go_loopw [54] (fun s54 wr => ∃ (i : Nat) (a : AskV), s54 = .int .i64 (i : Int) ∧ i ≤ m ∧ Aside0 (wr.heap[b]? = some (.cells a.cells 23 (0, 0))) ∧ Aside0 (Below w2.heap.size w2 wr) ∧ Aside0 (ReadsOf Value.string ⟨#[]⟩ wr A' m (ws.drop 1)) ∧ Aside0 (fillL ((bytesOf has).drop 0) ((ws.drop 1).drop 0) { zeroV with kind := K } = fillL ((bytesOf has).drop i) ((ws.drop 1).drop i) a)) (fun s54 _ => m - (intOf s54).toNat)
              case atStart => exact ⟨0, _, rfl, Nat.zero_le _, AB, HB2, HW, ⟨rfl⟩⟩
              case round =>
                clear AB HB2 HW RBN HBW
                obtain ⟨i, a, rfl, hi, AB, HB2, HW, HF⟩ := hrel
                have RBN := Aside0.mk (blk_below RB.out HB2.out)
                have HBW := Aside0.mk (below_step HB.out HB2.out)
                by_cases hlt : i < m
                · have c4 : decide ((i : Int) < (m : Int)) = true := decide_eq_true (by omega)
                  obtain ⟨ad, had, hcw⟩ := HW.out.at_ (i : Int) (by omega) (by omega)
                  subst had
                  have HAD : Aside0 (ad.block ≠ b) := ⟨by have := HAB.out _ rfl (by omega); have := BE.out; omega⟩
                  rw [Int.toNat_natCast, HWD.out] at hcw
                  have b1 := bt_at has (i : Int)
                  rw [Int.toNat_natCast] at b1
                  have v1 : (0 ≤ (i : Int)) = True := eq_true (by omega)
                  have v2 : ((i : Int) < (m : Int)) = True := eq_true (by omega)
                  have v3 : ((i : Int) < (has.size : Int)) = True := eq_true (by have := HM.out; omega)
                  have v4 : (i < has.size) = True := eq_true (by have := HM.out; omega)
                  have v5 : IntKind.i64.wrap ((i : Int) + 1) = ((i + 1 : Nat) : Int) := by rw [IntWalk.i64_in _ (by omega)]; omega
                  have hstep := fillL_step (has := has) (ws := ws.drop 1) (i := i) (a := a) (by have := HM.out; omega) (by rw [HWL.out]; exact hlt)
                  rw [HWD.out] at hstep
                  have hwsz : (wa i).size ≤ 1000000 := by rw [HWA.out]; exact Nat.le_trans (word_size line _) HS.out
                  have T1 := TX.out ((i + 1 : Nat) : Int)
                  have N1 := NX.out ((i + 1 : Nat) : Int)
                  rw [← HWA.out] at T1 N1
                  have T2 := Aside0.mk (fun w => T1 w hwsz)
                  have N2 := Aside0.mk (fun w => N1 w hwsz)
                  clear T1 N1 hwsz
                  by_cases h116 : bt has (i : Int) = 116
                  · have c5 : (bt has (i : Int) == 116) = true := beq_iff_eq.2 h116
                    rw [if_pos h116] at hstep
                    have HST := Aside0.mk hstep
                    clear hstep
                    go_wp2_with fail
                    refine (T2.out _).mono ?_
                    rintro en w6 ⟨v, rfl, hv, hb⟩
                    have AB6 := Aside0.mk (blk_below AB.out hb)
                    have HB6 := Aside0.mk (below_step HB2.out hb)
                    have HW6 := Aside0.mk (HW.out.below hb)
                    have RB6 := Aside0.mk (blk_below RBN.out hb)
                    have HBW6 := Aside0.mk (below_step HBW.out hb)
                    have HV := Aside0.mk hv
                    obtain ⟨y0, y1, y2, y3, y4, y5, f0, f1, f2, f3, f4, f5⟩ := six_facts AB6.out
                    clear hb hv y0 y1 y2 y3 y4 f0 f1 f2 f3 f4 hcw b1
                    obtain ⟨o, ho⟩ : ∃ o, textP (wa i) = o := ⟨_, rfl⟩
                    rw [ho] at HV HST ⊢
                    clear ho
                    cases o with
                    | some t1 =>
                      obtain rfl : v = t1 := HV.out _ rfl
                      go_wp2_with fail
                      go_roundw
                      case rel =>
                        refine ⟨i + 1, { a with text := v }, by go_num, by omega, ⟨blk_set AB6.out 5 _⟩, ⟨below_set HB6.out BG.out⟩, ⟨reads_far HW6.out (fun ad he => ?_) _⟩, ⟨by rw [HF.out, HST.out]; rfl⟩⟩
                        injection he with he
                        rw [← he]
                        exact HAD.out
                      case measure =>
                        simp [intOf]
                        omega
                    | none =>
                      have HN : Aside0 (readOf line = none) := ⟨by rw [HRO.out, HF.out, HST.out]; rfl⟩
                      have RB7 := Aside0.mk (blk_far (p := ⟨b, 5, none⟩) RB6.out RBL.out (.string v))
                      have HB7 := Aside0.mk (below_set (j := 5) (v := .string v) HBW6.out BGW.out)
                      clear RB HB
                      have RB := RB7
                      have HB := HB7
                      obtain ⟨y0, y1, y2, y3, y4, y5, f0, f1, f2, f3, f4, f5⟩ := six_facts RB.out
                      have hend := six_blk (a := zeroV) RB.out
                      have hbl := six_below (a := zeroV) HB.out RG.out
                      have HEND := Aside0.mk hend
                      have HBL := Aside0.mk hbl
                      clear hend hbl
                      go_wp2_with fail
                      refine bodyPost_ret (w := sixSet _ rb zeroV) (read_end (g := rb) (a0 := zeroV) _ none rfl rfl HEND.out) rfl ⟨?_, HBL.out⟩
                      rw [HN.out]
                  · have c5 : (bt has (i : Int) == 116) = false := beq_eq_false_iff_ne.2 h116
                    rw [if_neg h116] at hstep
                    have HST := Aside0.mk hstep
                    have hc4 : bt has (i : Int) = 105 ∨ bt has (i : Int) = 102 ∨ bt has (i : Int) = 111 ∨ bt has (i : Int) = 115 := by
                      have := letter_at (k := K) (i := i) (by rw [HHAS.out, HM.out]; exact hlt) (by rw [HHAS.out]; exact h116)
                      rwa [HHAS.out] at this
                    have HC := Aside0.mk hc4
                    clear hstep hc4 h116
                    go_wp2_with fail
                    refine start_ (n := 13) (S := fun _ => True) (ds := []) #[false, false, false, false, false, false, false, false, false, false, false, false, false] (by kernel_rfl) rfl rfl trivial (fun hHeld => ?_)
                    refine with_tabW askRead.tab19 askRead.bits19 (fun HT_ HW_ => ?_)
                    clear hHeld
                    refine take_ (i := 1) (N := some 71) (v := ?_) (a' := ?_) #[false, true, false, false, false, false, false, false, false, false, false, false, false] rfl rfl (take_ofW HT_.out HW_.out (by kernel_rfl)) (fun _ _ _ h => h) (Or.inl ⟨by rfl, ?_⟩) trivial ?_ ?_
                    rotate_left
                    · intro w' s
                      go_simp
                      with_reducible rfl
                    rotate_left
                    · simp only [Act.put, List.setIfInBounds_toArray, List.set_cons_zero, List.set_cons_succ, i64_w, i32_w]
                      rfl
                    refine take_ (i := 2) (N := some 72) (v := ?_) (a' := ?_) #[false, true, true, false, false, false, false, false, false, false, false, false, false] rfl rfl (take_ofW HT_.out HW_.out (by kernel_rfl)) (fun _ _ _ h => h) (Or.inl ⟨by rfl, ?_⟩) trivial ?_ ?_
                    rotate_left
                    · intro w' s
                      go_simp
                      with_reducible rfl
                    rotate_left
                    · simp only [Act.put, List.setIfInBounds_toArray, List.set_cons_zero, List.set_cons_succ, i64_w, i32_w]
                      rfl
                    refine take_ (i := 3) (N := some 73) (v := ?_) (a' := ?_) #[false, true, true, true, false, false, false, false, false, false, false, false, false] rfl rfl (take_ofW HT_.out HW_.out (by kernel_rfl)) (fun _ _ _ h => h) (Or.inl ⟨by rfl, ?_⟩) trivial ?_ ?_
                    rotate_left
                    · intro w' s
                      go_simp
                      with_reducible rfl
                    rotate_left
                    · simp only [Act.put, List.setIfInBounds_toArray, List.set_cons_zero, List.set_cons_succ, i64_w, i32_w]
                      rfl
                    refine take_ (i := 5) (N := some 75) (v := ?_) (a' := ?_) #[false, true, true, true, false, true, false, false, false, false, false, false, false] rfl rfl (take_ofW HT_.out HW_.out (by kernel_rfl)) (fun _ _ _ h => h) (Or.inl ⟨by rfl, ?_⟩) trivial ?_ ?_
                    rotate_left
                    · intro w' s
                      go_simp
                      with_reducible rfl
                    rotate_left
                    · simp only [Act.put, List.setIfInBounds_toArray, List.set_cons_zero, List.set_cons_succ, i64_w, i32_w]
                      rfl
                    refine one_ (i := 0) (N := some 70) #[true, true, true, true, false, true, false, false, false, false, false, false, false] rfl rfl (one_of HT_.out (by kernel_rfl)) (by decide) (fun K hK => ?_)
                    refine goes_ Tryd.func33 (by kernel_rfl) rfl #[.pointer (some ⟨b, 0, none⟩)] (by rfl) rfl rfl (by (try simp only [List.map_toArray, List.map_cons, List.map_nil]); first | done | rfl) ?_
                    refine (NU.out _).mono ?_
                    rintro en w6 ⟨M, ks, rfl, hp, hns, hM, hb⟩
                    refine ⟨_, rfl, ?_⟩
                    refine hK.out _ _ trivial (fun _ => ?_)
                    clear hK K
                    refine norm_ (a' := ?_) ?_ ?_
                    rotate_left
                    · show Act.put _ (some 70) _ = _
                      simp only [Act.put, List.setIfInBounds_toArray, List.set_cons_zero, List.set_cons_succ, i64_w, i32_w]
                      rfl
                    have hbd : Below wr.heap.size wr w6 := below_step (below_drew1 (Below.refl _ _)) hb
                    have AB6 := Aside0.mk (blk_below AB.out hbd)
                    have HB6 := Aside0.mk (below_step HB2.out hbd)
                    have HW6 := Aside0.mk (HW.out.below hbd)
                    have RB6 := Aside0.mk (blk_below RBN.out hbd)
                    have HBW6 := Aside0.mk (below_step HBW.out hbd)
                    have hlook := nums_lookup hns hp (bt has (i : Int)) HC.out
                    obtain ⟨f, hf⟩ : ∃ f, fOf (bt has (i : Int)) = f := ⟨_, rfl⟩
                    rw [hf] at hlook
                    have HFE := Aside0.mk hf
                    have hf14 : 1 ≤ f ∧ f ≤ 4 := by rw [← hf]; unfold fOf; split <;> (try split) <;> (try split) <;> omega
                    clear hb hbd hM hns hp hf hcw b1
                    refine join_ (σ := Int) 3 #[true, true, true, true, true, true, true, true, true, true, false, false, false] (fun v => [(74, .pointer (some ⟨b, f, none⟩)), (76, .tuple #[.int .i64 v, .bool (numP (wa i)).isSome]), (69, .tuple #[.int .i64 v, .bool (numP (wa i)).isSome]), (77, .int .i64 v), (78, .bool (numP (wa i)).isSome)]) (fun v w' => w' = w6 ∧ (∀ n, numP (wa i) = some n → v = n)) ?_ ?_
                    rotate_left
                    · intro hjoin
                      refine two_ (i := 4) (j := 6) (Ni := some 74) (Nj := some 76) #[true, true, true, true, true, true, false, false, false, false, false, false, false] #[true, true, true, true, false, true, true, false, false, false, false, false, false] rfl rfl rfl rfl (two_of HT_.out (by kernel_rfl)) (by decide) (by decide) (fun K hK => ?_) (fun K hK => ?_)
                      · refine value_ (v := .pointer (some ⟨b, f, none⟩)) (w1 := w6) (by rfl) rfl (by first | (go_simp; done) | (go_simp; rfl)) (hK.out _ _ trivial (fun _ => ?_))
                        clear hK K
                        refine norm_ (a' := ?_) ?_ ?_
                        rotate_left
                        · show Act.put _ (some 74) _ = _
                          simp only [Act.put, List.setIfInBounds_toArray, List.set_cons_zero, List.set_cons_succ, i64_w, i32_w]
                          rfl
                        refine one_ (i := 6) (N := some 76) #[true, true, true, true, true, true, true, false, false, false, false, false, false] rfl rfl (one_of HT_.out (by kernel_rfl)) (by decide) (fun K hK => ?_)
                        refine goes_ Tryd.func32 (by kernel_rfl) rfl #[.string (wa i)] (by rfl) rfl rfl (by (try simp only [List.map_toArray, List.map_cons, List.map_nil]); first | done | rfl) ?_
                        refine (N2.out _).mono ?_
                        rintro en w7 ⟨v, rfl, hv, hw7⟩
                        rw [hw7]
                        clear hw7 w7
                        refine ⟨_, rfl, ?_⟩
                        refine hK.out _ _ trivial (fun _ => ?_)
                        clear hK K
                        refine norm_ (a' := ?_) ?_ ?_
                        rotate_left
                        · show Act.put _ (some 76) _ = _
                          simp only [Act.put, List.setIfInBounds_toArray, List.set_cons_zero, List.set_cons_succ, i64_w, i32_w]
                          rfl
                        refine take_ (i := 7) (N := some 69) (v := ?_) (a' := ?_) #[true, true, true, true, true, true, true, true, false, false, false, false, false] rfl rfl (take_ofW HT_.out HW_.out (by kernel_rfl)) (fun _ _ _ h => h) (Or.inl ⟨by rfl, ?_⟩) trivial ?_ ?_
                        rotate_left
                        · intro w' s
                          go_simp
                          with_reducible rfl
                        rotate_left
                        · simp only [Act.put, List.setIfInBounds_toArray, List.set_cons_zero, List.set_cons_succ, i64_w, i32_w]
                          rfl
                        refine take_ (i := 8) (N := some 77) (v := ?_) (a' := ?_) #[true, true, true, true, true, true, true, true, true, false, false, false, false] rfl rfl (take_ofW HT_.out HW_.out (by kernel_rfl)) (fun _ _ _ h => h) (Or.inl ⟨by rfl, ?_⟩) trivial ?_ ?_
                        rotate_left
                        · intro w' s
                          go_simp
                          with_reducible rfl
                        rotate_left
                        · simp only [Act.put, List.setIfInBounds_toArray, List.set_cons_zero, List.set_cons_succ, i64_w, i32_w]
                          rfl
                        refine take_ (i := 9) (N := some 78) (v := ?_) (a' := ?_) #[true, true, true, true, true, true, true, true, true, true, false, false, false] rfl rfl (take_ofW HT_.out HW_.out (by kernel_rfl)) (fun _ _ _ h => h) (Or.inl ⟨by rfl, ?_⟩) trivial ?_ ?_
                        rotate_left
                        · intro w' s
                          go_simp
                          with_reducible rfl
                        rotate_left
                        · simp only [Act.put, List.setIfInBounds_toArray, List.set_cons_zero, List.set_cons_succ, i64_w, i32_w]
                          rfl
                        exact norm_ (by first | (simp only [putAll, Act.put, List.setIfInBounds_toArray, List.set_cons_zero, List.set_cons_succ]; done) | (simp only [putAll, Act.put, List.setIfInBounds_toArray, List.set_cons_zero, List.set_cons_succ]; rfl)) (hjoin v _ ⟨rfl, hv⟩)
                      · refine goes_ Tryd.func32 (by kernel_rfl) rfl #[.string (wa i)] (by rfl) rfl rfl (by (try simp only [List.map_toArray, List.map_cons, List.map_nil]); first | done | rfl) ?_
                        refine (N2.out _).mono ?_
                        rintro en w7 ⟨v, rfl, hv, hw7⟩
                        rw [hw7]
                        clear hw7 w7
                        refine ⟨_, rfl, ?_⟩
                        refine hK.out _ _ trivial (fun _ => ?_)
                        clear hK K
                        refine norm_ (a' := ?_) ?_ ?_
                        rotate_left
                        · show Act.put _ (some 76) _ = _
                          simp only [Act.put, List.setIfInBounds_toArray, List.set_cons_zero, List.set_cons_succ, i64_w, i32_w]
                          rfl
                        refine take_ (i := 7) (N := some 69) (v := ?_) (a' := ?_) #[true, true, true, true, false, true, true, true, false, false, false, false, false] rfl rfl (take_ofW HT_.out HW_.out (by kernel_rfl)) (fun _ _ _ h => h) (Or.inl ⟨by rfl, ?_⟩) trivial ?_ ?_
                        rotate_left
                        · intro w' s
                          go_simp
                          with_reducible rfl
                        rotate_left
                        · simp only [Act.put, List.setIfInBounds_toArray, List.set_cons_zero, List.set_cons_succ, i64_w, i32_w]
                          rfl
                        refine take_ (i := 8) (N := some 77) (v := ?_) (a' := ?_) #[true, true, true, true, false, true, true, true, true, false, false, false, false] rfl rfl (take_ofW HT_.out HW_.out (by kernel_rfl)) (fun _ _ _ h => h) (Or.inl ⟨by rfl, ?_⟩) trivial ?_ ?_
                        rotate_left
                        · intro w' s
                          go_simp
                          with_reducible rfl
                        rotate_left
                        · simp only [Act.put, List.setIfInBounds_toArray, List.set_cons_zero, List.set_cons_succ, i64_w, i32_w]
                          rfl
                        refine take_ (i := 9) (N := some 78) (v := ?_) (a' := ?_) #[true, true, true, true, false, true, true, true, true, true, false, false, false] rfl rfl (take_ofW HT_.out HW_.out (by kernel_rfl)) (fun _ _ _ h => h) (Or.inl ⟨by rfl, ?_⟩) trivial ?_ ?_
                        rotate_left
                        · intro w' s
                          go_simp
                          with_reducible rfl
                        rotate_left
                        · simp only [Act.put, List.setIfInBounds_toArray, List.set_cons_zero, List.set_cons_succ, i64_w, i32_w]
                          rfl
                        refine one_ (i := 4) (N := some 74) #[true, true, true, true, true, true, true, true, true, true, false, false, false] rfl rfl (one_of HT_.out (by kernel_rfl)) (by decide) (fun K hK => ?_)
                        refine value_ (v := .pointer (some ⟨b, f, none⟩)) (w1 := w6) (by rfl) rfl (by first | (go_simp; done) | (go_simp; rfl)) (hK.out _ _ trivial (fun _ => ?_))
                        clear hK K
                        refine norm_ (a' := ?_) ?_ ?_
                        rotate_left
                        · show Act.put _ (some 74) _ = _
                          simp only [Act.put, List.setIfInBounds_toArray, List.set_cons_zero, List.set_cons_succ, i64_w, i32_w]
                          rfl
                        exact norm_ (by first | (simp only [putAll, Act.put, List.setIfInBounds_toArray, List.set_cons_zero, List.set_cons_succ]; done) | (simp only [putAll, Act.put, List.setIfInBounds_toArray, List.set_cons_zero, List.set_cons_succ]; rfl)) (hjoin v _ ⟨rfl, hv⟩)
                    rintro v w7 ⟨hw7, hv⟩
                    rw [hw7]
                    clear hw7 w7
                    have HV := Aside0.mk hv
                    clear hv hlook
                    refine norm_ (a' := ?_) ?_ ?_
                    rotate_left
                    · simp only [putAll, Act.put, List.setIfInBounds_toArray, List.set_cons_zero, List.set_cons_succ, i64_w, i32_w]
                      rfl
                    refine take_ (i := 10) (N := some 79) (v := ?_) (a' := ?_) #[true, true, true, true, true, true, true, true, true, true, true, false, false] rfl rfl (take_ofW HT_.out HW_.out (by kernel_rfl)) (fun _ _ _ h => h) (Or.inl ⟨by rfl, ?_⟩) trivial ?_ ?_
                    rotate_left
                    · intro w' s
                      go_simp
                      with_reducible rfl
                    rotate_left
                    · simp only [Act.put, List.setIfInBounds_toArray, List.set_cons_zero, List.set_cons_succ, i64_w, i32_w]
                      rfl
                    have hcf := blk_cell AB6.out f
                    have hff := blk_frozen AB6.out f
                    obtain ⟨old, hold⟩ : ∃ old, a.cells[f]? = some old := ⟨_, Array.getElem?_eq_getElem (show f < a.cells.size by show f < 6; omega)⟩
                    rw [hold] at hcf
                    clear hold
                    refine one_ (i := 11) (N := none) #[true, true, true, true, true, true, true, true, true, true, true, true, false] rfl rfl (one_of HT_.out (by kernel_rfl)) (by decide) (fun K hK => ?_)
                    refine skip_ (w1 := w6.setCell ⟨b, f, none⟩ (.int .i64 v)) (by rfl) rfl (by first | (go_simp; done) | (go_simp; rfl)) (hK.out _ _ trivial (fun _ => ?_))
                    clear hK K hcf hff
                    refine take_ (i := 12) (N := some 10) (v := ?_) (a' := ?_) #[true, true, true, true, true, true, true, true, true, true, true, true, true] rfl rfl (take_ofW HT_.out HW_.out (by kernel_rfl)) (fun _ _ _ h => h) (Or.inl ⟨by rfl, ?_⟩) trivial ?_ ?_
                    rotate_left
                    · intro w' s
                      go_simp
                      with_reducible rfl
                    rotate_left
                    · simp only [Act.put, List.setIfInBounds_toArray, List.set_cons_zero, List.set_cons_succ, i64_w, i32_w]
                      rfl
                    refine done_ (done_of HT_.out (by kernel_rfl)) ?_
                    obtain ⟨o, ho⟩ : ∃ o, numP (wa i) = o := ⟨_, rfl⟩
                    rw [ho] at HV HST ⊢
                    clear ho
                    cases o with
                    | some v1 =>
                      obtain rfl : v = v1 := HV.out _ rfl
                      go_wp2_with fail
                      go_roundw
                      case rel =>
                        refine ⟨i + 1, a.setN (bt has (i : Int)) v, by go_num, by omega, ⟨?_⟩, ⟨below_set HB6.out BG.out⟩, ⟨reads_far HW6.out (fun ad he => ?_) _⟩, ⟨by rw [HF.out, HST.out]; rfl⟩⟩
                        · rw [setN_cells a _ v HC.out, HFE.out]
                          exact blk_set AB6.out f _
                        · injection he with he
                          rw [← he]
                          exact HAD.out
                      case measure =>
                        simp [intOf]
                        omega
                    | none =>
                      have HN : Aside0 (readOf line = none) := ⟨by rw [HRO.out, HF.out, HST.out]; rfl⟩
                      have RB7 := Aside0.mk (blk_far (p := ⟨b, f, none⟩) RB6.out RBL.out (.int .i64 v))
                      have HB7 := Aside0.mk (below_set (j := f) (v := .int .i64 v) HBW6.out BGW.out)
                      clear RB HB
                      have RB := RB7
                      have HB := HB7
                      obtain ⟨y0, y1, y2, y3, y4, y5, f0, f1, f2, f3, f4, f5⟩ := six_facts RB.out
                      have hend := six_blk (a := zeroV) RB.out
                      have hbl := six_below (a := zeroV) HB.out RG.out
                      have HEND := Aside0.mk hend
                      have HBL := Aside0.mk hbl
                      clear hend hbl
                      go_wp2_with fail
                      refine bodyPost_ret (w := sixSet _ rb zeroV) (read_end (g := rb) (a0 := zeroV) _ none rfl rfl HEND.out) rfl ⟨?_, HBL.out⟩
                      rw [HN.out]
                · obtain rfl : i = m := by omega
                  have c4 : decide ((i : Int) < (i : Int)) = false := decide_eq_false (by omega)
                  have hrd : readOf line = if a.ok = true then some a else none := by
                    rw [HRO.out, HF.out]
                    have e1 : (bytesOf has).drop i = [] := List.drop_eq_nil_of_le (by rw [bytesOf_length, HM.out]; exact Nat.le_refl _)
                    rw [e1]
                    unfold fillL
                    rfl
                  have HRD := Aside0.mk hrd
                  have RC := Aside0.mk (ask_Right.told a.kind a.id a.fr a.tt a.snap a.text)
                  obtain ⟨q, hq⟩ : ∃ q, a.ok = q := ⟨_, rfl⟩
                  rw [show askB a.kind a.id a.fr a.tt a.snap a.text = a.ok from rfl, hq] at RC
                  rw [hq] at HRD
                  obtain ⟨y0, y1, y2, y3, y4, y5, _⟩ := six_facts AB.out
                  have gl := ask_load wr b _ _ _ _ _ _ y0 y1 y2 y3 y4 y5
                  clear hrd hq
                  go_wp2_with fail
                  refine (RC.out _).mono ?_
                  rintro en w6 ⟨rfl, hb⟩
                  have AB6 := Aside0.mk (blk_below AB.out hb)
                  have RB6 := Aside0.mk (blk_below RBN.out hb)
                  have HBW6 := Aside0.mk (below_step HBW.out hb)
                  clear hb gl RB HB y0 y1 y2 y3 y4 y5
                  have RB := RB6
                  have HB := HBW6
                  cases q with
                  | false =>
                    have HN : Aside0 (readOf line = none) := ⟨by rw [HRD.out]; rfl⟩
                    obtain ⟨y0, y1, y2, y3, y4, y5, f0, f1, f2, f3, f4, f5⟩ := six_facts RB.out
                    have hend := six_blk (a := zeroV) RB.out
                    have hbl := six_below (a := zeroV) HB.out RG.out
                    have HEND := Aside0.mk hend
                    have HBL := Aside0.mk hbl
                    clear hend hbl
                    go_wp2_with fail
                    refine bodyPost_ret (w := sixSet _ rb zeroV) (read_end (g := rb) (a0 := zeroV) _ none rfl rfl HEND.out) rfl ⟨?_, HBL.out⟩
                    rw [HN.out]
                  | true =>
                    have HN : Aside0 (readOf line = some a) := ⟨by rw [HRD.out]; rfl⟩
                    obtain ⟨z0, z1, z2, z3, z4, z5, _⟩ := six_facts AB6.out
                    have gl := ask_load w6 b _ _ _ _ _ _ z0 z1 z2 z3 z4 z5
                    obtain ⟨y0, y1, y2, y3, y4, y5, f0, f1, f2, f3, f4, f5⟩ := six_facts RB.out
                    have hend := six_blk (a := a) RB.out
                    have hbl := six_below (a := a) HB.out RG.out
                    have HEND := Aside0.mk hend
                    have HBL := Aside0.mk hbl
                    clear hend hbl
                    go_wp2_with fail
                    refine bodyPost_ret (w := sixSet _ rb a) (read_end (g := rb) (a0 := a) _ (some a) rfl rfl HEND.out) rfl ⟨?_, HBL.out⟩
                    rw [HN.out]
            · have c3 : ((n : Int) == 1 + (has.size : Int)) = false := beq_eq_false_iff_ne.2 (by omega)
              have HN : Aside0 (readOf line = none) := ⟨by
                unfold readOf
                rw [HKW.out, if_neg (show ¬ ((wordsOf line).length = 0 ∨ edgeB line = false) by rw [HWS.out, HNL.out, HED.out]; simp; exact h0), if_pos (Or.inr (by rw [HWS.out, HNL.out, HHAS.out]; exact hlen))]⟩
              clear hlen hK0
              have RB := RBN
              have HB := HBW
              obtain ⟨y0, y1, y2, y3, y4, y5, f0, f1, f2, f3, f4, f5⟩ := six_facts RB.out
              have hend := six_blk (a := zeroV) RB.out
              have hbl := six_below (a := zeroV) HB.out RG.out
              have HEND := Aside0.mk hend
              have HBL := Aside0.mk hbl
              clear hend hbl
              go_wp2_with fail
              refine bodyPost_ret (w := sixSet _ rb zeroV) (read_end (g := rb) (a0 := zeroV) _ none rfl rfl HEND.out) rfl ⟨?_, HBL.out⟩
              rw [HN.out]
end Go.Proofs.YtbmjekekpmabbaaDoor.P
