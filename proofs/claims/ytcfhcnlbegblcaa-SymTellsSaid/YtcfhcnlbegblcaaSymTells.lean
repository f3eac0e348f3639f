/- The law SymTells, walked. Conditions: none. -/
import Derived.Test.YtcfhcnlbegblcaaBookApart
import Derived.Test.YtcfhcnlbegblcaaP5
import Derived.Test.YtcfhcnlbegblcaaP6
import Derived.Test.YtcfhcnlbegblcaaP7
import Derived.Test.YtcfhcnlbegblcaaP8
import Derived.Test.YtcfhcnlbegblcaaP4
import Derived.Test.YtcfhcnlbegblcaaP9
import Derived.Test.YtcfhcnlbegblcaaP10
set_option linter.unusedVariables false
set_option linter.unusedSimpArgs false
namespace Go.Proofs.Ytcfhcnlbegblcaa.P
open Go.RowKit Go.Proofs.YtcfhcnlbegblcaaW.PrintWords Go.Proofs.YtcfhcnlbegblcaaW.PrintLast Go.Proofs.YtcfhcnlbegblcaaW.PrintMore

theorem wf_byte (x : Int) (h : (Lit.int .u8 x).wf = true) : 0 ≤ x ∧ x ≤ 255 := by
  simp only [Lit.wf, Bool.and_eq_true, decide_eq_true_eq] at h
  have e0 : IntKind.u8.min = 0 := rfl
  have e1 : IntKind.u8.max = 255 := rfl
  omega
theorem symAlive : scriniumlaw1_alive.f 20 = some true := by kernel_rfl
def symsOf (t : ByteArray) (n : Nat) : List Int := (List.range n).map fun i : Nat => bt t i + 1
theorem symsOf_len (t : ByteArray) (n : Nat) : (symsOf t n).length = n := by unfold symsOf; rw [List.length_map, List.length_range]
theorem symsOf_succ (t : ByteArray) (n : Nat) : symsOf t (n + 1) = symsOf t n ++ [bt t n + 1] := by
  unfold symsOf
  rw [List.range_succ, List.map_append]
  rfl
theorem of_ok (t : ByteArray) (i : Int) : sym_Of.f (bt t i) = some (bt t i + 1) := by
  have h := bt_range t i
  unfold sym_Of.f
  have h1 : wrap64 (bt t i) = bt t i := by unfold wrap64; omega
  have h2 : wrap64 (bt t i + 1) = bt t i + 1 := by unfold wrap64; omega
  rw [h1, h2]
theorem all_l (t : ByteArray) (ht : t.size ≤ 1000000) : ∀ (m j k : Nat), m = t.size - j → j ≤ t.size → m + 1 ≤ k → sym_All.l0 k t (symsOf t j) (t.size : Int) (j : Int) = some (symsOf t t.size) := by
  intro m
  induction m with
  | zero =>
    intro j k hm hj hk
    obtain rfl : j = t.size := by omega
    obtain ⟨k1, rfl⟩ : ∃ k1, k = k1 + 1 := ⟨k - 1, by omega⟩
    rw [sym_All.l0, if_neg (by omega)]
  | succ m ih =>
    intro j k hm hj hk
    obtain ⟨k1, rfl⟩ : ∃ k1, k = k1 + 1 := ⟨k - 1, by omega⟩
    have hrec := ih (j + 1) k1 (by omega) (by omega) (by omega)
    have hw : wrap64 ((j : Int) + 1) = ((j + 1 : Nat) : Int) := bw64 (j + 1) (by omega)
    rw [sym_All.l0, if_pos (by omega), if_pos (by omega), if_pos (by omega), of_ok, Option.bind_some, if_pos (by rw [symsOf_len]; omega), hw]
    rw [symsOf_succ] at hrec
    exact hrec
theorem all_ok (t : ByteArray) (ht : t.size ≤ 1000000) : sym_All.f (t.size + 1) t = some (symsOf t t.size) := all_l t ht t.size 0 _ rfl (Nat.zero_le _) (Nat.le_refl _)
theorem infoNumS : ((Try.prog).info? 3).map (fun i => (i.zero, i.size, i.bytes)) = some (some (.int .i64 0), 1, 8) := by kernel_rfl
theorem bit_same (s l : Int) (h1 : (Lit.int .i64 s).wf = true) (h2 : (Lit.int .i64 l).wf = true) : ∃ b, sym_Bit.f s l = some b ∧ scriniumref1_Bit.f s l = some b := by
  unfold sym_Bit.f scriniumref1_Bit.f
  by_cases a1 : s < 0
  · exact ⟨false, by rw [if_pos a1], by rw [if_neg (by omega)]⟩
  by_cases a2 : s ≥ 257
  · exact ⟨false, by rw [if_neg a1, if_pos a2], by rw [if_pos (by omega), if_neg (by omega)]⟩
  by_cases a3 : l < 0
  · exact ⟨false, by rw [if_neg a1, if_neg a2, if_pos a3], by rw [if_pos (by omega), if_pos (by omega), if_neg (by omega)]⟩
  by_cases a4 : l ≥ 9
  · exact ⟨false, by rw [if_neg a1, if_neg a2, if_neg a3, if_pos a4], by rw [if_pos (by omega), if_pos (by omega), if_pos (by omega), if_neg (by omega)]⟩
  have w1 : wrap64 (8 - l) = 8 - l := by unfold wrap64; omega
  have w2 : IntKind.u64.wrap (8 - l) = 8 - l := by
    rcases (show l = 0 ∨ l = 1 ∨ l = 2 ∨ l = 3 ∨ l = 4 ∨ l = 5 ∨ l = 6 ∨ l = 7 ∨ l = 8 by omega) with rfl | rfl | rfl | rfl | rfl | rfl | rfl | rfl | rfl <;> decide +kernel
  refine ⟨_, by rw [if_neg a1, if_neg a2, if_neg a3, if_neg a4, w1, if_pos (by omega)], ?_⟩
  rw [if_pos (by omega), if_pos (by omega), if_pos (by omega), if_pos (by omega), w1, w2, if_pos (by omega)]
theorem byte_ok (s : Int) : ∃ r1 r2, sym_Byte.f s = some (r1, r2) ∧ r2 = (decide (1 ≤ s) && decide (s < 257)) ∧ (r2 = true → r1 = s - 1) ∧ (r2 = false → r1 = 0) := by
  unfold sym_Byte.f
  by_cases h1 : s < 1
  · exact ⟨0, false, by rw [if_pos h1], by rw [decide_eq_false (by omega)]; rfl, (fun h => by cases h), fun _ => rfl⟩
  by_cases h2 : s ≥ 257
  · exact ⟨0, false, by rw [if_neg h1, if_pos h2], by rw [decide_eq_true (by omega), decide_eq_false (by omega)]; rfl, (fun h => by cases h), fun _ => rfl⟩
  have w1 : wrap64 (s - 1) = s - 1 := by unfold wrap64; omega
  exact ⟨s - 1, true, by rw [if_neg h1, if_neg h2, w1, show (s - 1) % 256 = s - 1 by omega], by rw [decide_eq_true (by omega), decide_eq_true (by omega)]; rfl, fun _ => rfl, (fun h => by cases h)⟩
theorem AddKeep.under {bk B : Nat} {o0 o1 : Value} {w w' : World} (h : AddKeep bk o0 o1 w w') (hB : B ≤ w.heap.size) (hbk : B ≤ bk) (h0 : ∀ k, o0.ownBlock = some k → B ≤ k) (h1 : ∀ k, o1.ownBlock = some k → B ≤ k) : Below B w w' :=
  ⟨h.os, h.tape, h.output, h.size, fun q hq => h.far q (by omega) (by omega) (fun e => by have := h0 q e; omega) (fun e => by have := h1 q e; omega)⟩
set_option maxRecDepth 100000 in
set_option maxHeartbeats 8000000 in
theorem symTells_calls (a0 a1 a2 : Int) (a3 : ByteArray) (w : World) (w0 : (Lit.int .u8 a0).wf = true) (w1 : (Lit.int .i64 a1).wf = true) (w2 : (Lit.int .i64 a2).wf = true) :
    Calls Try.prog 3 #[.int .u8 a0, .int .i64 a1, .int .i64 a2, .string a3] w fun e w' => e = .returned (.bool true) ∧ Below w.heap.size w w' := by
  have hb0 : 0 ≤ a0 ∧ a0 ≤ 255 := wf_byte a0 w0
  have HB0 := Aside0.mk hb0
  have AL := Aside0.mk (fun w' => scriniumlaw1_alive.calls 20 true w' symAlive)
  obtain ⟨bb, hbb1, hbb2⟩ := bit_same a1 a2 w1 w2
  have BT1 := Aside0.mk (fun w' => sym_Bit.calls a1 a2 bb w' hbb1)
  have BT2 := Aside0.mk (fun w' => scriniumref1_Bit.calls a1 a2 bb w' hbb2)
  obtain ⟨r1, r2, hby, hr2, hin, hout⟩ := byte_ok a1
  have BY := Aside0.mk (fun w' => sym_Byte.calls a1 r1 r2 w' hby)
  have TX := Aside0.mk (fun w' => sym_Text.calls a3 (decide ((a3.size : Int) ≤ 40)) w' rfl)
  have OF := Aside0.mk (fun w' => sym_Of.calls a0 (a0 + 1) w' (by
    unfold sym_Of.f
    rw [show wrap64 a0 = a0 by unfold wrap64; omega, show wrap64 (a0 + 1) = a0 + 1 by unfold wrap64; omega]))
  have HIN := Aside0.mk (And.intro hr2 (And.intro hin hout))
  have WF1 := Aside0.mk w1
  clear hbb1 hbb2 hby hr2 hin hout w0 w1 w2
  go_enter Try.func3, Try.ntmps3
  by_cases h1 : 300 < a3.size
  · have t1 : decide ((300 : Int) < (a3.size : Int)) = true := decide_eq_true (by omega)
    go_wp2_with fail
    refine (AL.out _).mono ?_
    rintro en wx ⟨rfl, hb⟩
    have HBx := Aside0.mk hb
    clear hb
    go_wp2_with fail
    go_ret
    exact ⟨rfl, HBx.out⟩
  have t1 : decide ((300 : Int) < (a3.size : Int)) = false := decide_eq_false (by omega)
  have HSZ : Aside0 (a3.size ≤ 300) := ⟨by omega⟩
  have ALL := Aside0.mk (fun w' => sym_All.calls (a3.size + 1) a3 (symsOf a3 a3.size) w' (all_ok a3 (by omega)))
  go_wp2_with fail
  refine (AL.out _).mono ?_
  rintro en w1 ⟨rfl, hb⟩
  have HB1 := Aside0.mk hb
  clear hb
  go_wp2_with fail
  refine (BY.out _).mono ?_
  rintro en w2 ⟨rfl, hd⟩
  have HB2 := Aside0.mk (below_step HB1.out hd.below)
  clear hd
  rcases (show a1 < 1 ∨ 257 ≤ a1 ∨ (1 ≤ a1 ∧ a1 < 257) by omega) with h | h | h
  · skip
    have e1 : decide ((1 : Int) ≤ a1) = false := decide_eq_false (by omega)
    have e2 : decide (a1 < 257) = true := decide_eq_true (by omega)
    obtain rfl : r2 = false := by rw [HIN.out.1, e1]; rfl
    obtain rfl : r1 = 0 := HIN.out.2.2 rfl
    have x0 := bt_at a3
    go_wp2_with fail
    go_loopw [12, 13] (fun wv iv wr => ∃ k : Nat, k ≤ a3.size ∧ iv = .int .i64 k ∧ Aside0 (Kd.R (Kd.int .i64) 3 wr w.heap.size (fun _ => True) wv (symsOf a3 k)) ∧ Aside0 (Below w.heap.size w wr)) (fun _ iv _ => a3.size - (intOf iv).toNat)
    case atStart => exact ⟨0, Nat.zero_le _, rfl, ⟨Kd.R_nil _ _ _ _ _⟩, HB2⟩
    case round =>
    obtain ⟨k, hk, rfl, HW, HBr⟩ := hrel
    by_cases hlt : k < a3.size
    · have d1 : decide ((k : Int) < (a3.size : Int)) = true := decide_eq_true (by omega)
      have d2 : decide (k < a3.size) = true := decide_eq_true hlt
      have d3 : (0 ≤ (k : Int)) = True := eq_true (by omega)
      have d4 : ((k : Int) < (a3.size : Int)) = True := eq_true (by omega)
      have d5 : IntKind.i64.wrap ((k : Int) + 1) = (k : Int) + 1 := IntWalk.i64_in _ (by have := HSZ.out; omega)
      have hbr := bt_range a3 (k : Int)
      have d6 : IntKind.i64.wrap (bt a3 k) = bt a3 k := IntWalk.i64_in _ (by omega)
      have d7 : IntKind.i64.wrap (bt a3 k + 1) = bt a3 k + 1 := IntWalk.i64_in _ (by omega)
      have hx := bt_at a3 (k : Int)
      rw [Int.toNat_natCast] at hx
      obtain ⟨Aw, cw, hw⟩ := Kd.R_slice HW.out
      rw [symsOf_len] at hw
      subst hw
      have HSS := Aside0.mk (symsOf_succ a3 k)
      clear x0
      go_wp2_with (first
        | ((with_reducible refine gate_builtin (b := .append) (xs := #[.tmp 42, .tmp 48]) rfl ?_); at_builtin; refine Kd.R_append (Kd.int .i64) (w0 := w) w.heap.size rfl (.tmp 42) (.tmp 48) 25 3 (.int .i64 0) 8 rfl Try.underlying25 infoNumS rfl Nat.one_pos (by decide) (.slice Aw k cw) (symsOf a3 k) (bt a3 k + 1) [.int .i64 (bt a3 k + 1)] (fun _ => True) (fun _ => False) rfl rfl rfl (fun _ h => h.elim) (fun _ _ => trivial) HW.out HBr.out HBr.out.size (by rw [symsOf_len]; have := HSZ.out; omega) ?_; intro v' w' hO hB' _ _; rw [← HSS.out] at hO; have HO' := Aside0.mk hO; have HB' := Aside0.mk hB'; clear hO hB'))
      go_roundw
      case rel => exact ⟨k + 1, by omega, by go_num, HO', HB'⟩
      case measure => simp [intOf]; omega
    · obtain rfl : k = a3.size := by omega
      have d1 : decide ((a3.size : Int) < (a3.size : Int)) = false := decide_eq_false (by omega)
      clear x0
      obtain ⟨Aw, cw, hw⟩ := Kd.R_slice HW.out
      rw [symsOf_len] at hw
      subst hw
      obtain ⟨xs, hxs⟩ : ∃ q, symsOf a3 a3.size = q := ⟨_, rfl⟩
      have hxl : xs.length = a3.size := by rw [← hxs]; exact symsOf_len _ _
      have HXL := Aside0.mk hxl
      rw [hxs] at HW ALL
      clear hxs hxl
      go_wp2_with fail
      refine (ALL.out _).mono ?_
      rintro en w4 ⟨lv, rfl, hRl, hb4⟩
      obtain ⟨Al, cl, hl⟩ := Kd.R_slice hRl
      rw [HXL.out] at hl
      subst hl
      have HRl := Aside0.mk hRl
      have HB34 := Aside0.mk hb4
      clear hRl hb4
      go_wp2_with fail
      refine (ALL.out _).mono ?_
      rintro en w5 ⟨mv, rfl, hRm, hb5⟩
      obtain ⟨Am, cm, hm⟩ := Kd.R_slice hRm
      rw [HXL.out] at hm
      subst hm
      have HRm := Aside0.mk hRm
      have HB45 := Aside0.mk hb5
      clear hRm hb5
      go_wp2_with fail
      obtain ⟨W6, hW6⟩ : ∃ x, w5.alloc (.cells #[.slice none 0 0, .slice none 0 0, .slice none 0 0, .slice none 0 0, .slice none 0 0, .slice none 0 0, .slice none 0 0, .slice none 0 0, .slice none 0 0, .slice none 0 0, .slice none 0 0, .slice none 0 0, .slice none 0 0, .slice none 0 0, .slice none 0 0, .slice none 0 0] 37) = x := ⟨_, rfl⟩
      have hblk : W6.heap[w5.heap.size]? = some (.cells (nilL :: nilL :: nils).toArray 37 (0, 0)) := by rw [← hW6]; exact heap_alloc_new _ _
      have hb56 : Below w5.heap.size w5 W6 := by rw [← hW6]; exact below_alloc (Below.refl _ _) _
      rw [hW6]
      have hB5 : w.heap.size ≤ w5.heap.size := Nat.le_trans HBr.out.size (Nat.le_trans HB34.out.size HB45.out.size)
      have hB4 : w.heap.size ≤ w4.heap.size := Nat.le_trans HBr.out.size HB34.out.size
      obtain ⟨bk, hbk⟩ : ∃ b, w5.heap.size = b := ⟨_, rfl⟩
      have hbkB : w.heap.size ≤ bk := by rw [← hbk]; exact hB5
      rw [hbk] at hblk ⊢
      have hl6 : Kd.R (Kd.int .i64) 3 W6 w.heap.size (fun _ => True) (.slice Al a3.size cl) xs := Kd.R_below (Kd.R_below (Kd.R_lower HRl.out HBr.out.size) HB45.out) hb56
      have hm6 : Kd.R (Kd.int .i64) 3 W6 w.heap.size (fun _ => True) (.slice Am a3.size cm) xs := Kd.R_below (Kd.R_lower HRm.out hB4) hb56
      have hw6 : Kd.R (Kd.int .i64) 3 W6 w.heap.size (fun _ => True) (.slice Aw a3.size cw) xs := Kd.R_below (Kd.R_below (Kd.R_below HW.out HB34.out) HB45.out) hb56
      have hlm : ∀ q, (Value.slice Al a3.size cl).ownBlock = some q → (Value.slice Am a3.size cm).ownBlock ≠ some q := fun q e1 e2 => by
        have h1 := Kd.R_lt HRl.out q e1
        have h2 := Kd.R_base HRm.out q e2
        omega
      have hsz6 : w.heap.size ≤ W6.heap.size := Nat.le_trans hB5 hb56.size
      have hxl9 : xs.length ≤ 900000 := by rw [HXL.out]; have := HSZ.out; omega
      have AD1 := addInts_calls bk w.heap.size nilL nilL nils [] [] Al cl xs W6 hblk rfl (Kd.R_nil _ _ _ _ _) (Kd.R_nil _ _ _ _ _) (fun q e => by cases e) (by rw [HXL.out]; exact hl6) (by decide) (by decide) hsz6 hbkB hxl9
      rw [HXL.out] at AD1
      refine AD1.mono ?_
      rintro en w7 ⟨p0, p1, u1, rfl, hblk7, hp0, hp1, hsp1, hu1, hk1⟩
      have hl7 := hk1.nums (Kd.R_nil _ _ _ _ _) (Kd.R_nil _ _ _ _ _) hblk hl6 (b := w.heap.size)
      have hm7 := hk1.nums (Kd.R_nil _ _ _ _ _) (Kd.R_nil _ _ _ _ _) hblk hm6 (b := w.heap.size)
      have hw7 := hk1.nums (Kd.R_nil _ _ _ _ _) (Kd.R_nil _ _ _ _ _) hblk hw6 (b := w.heap.size)
      have hbl7 : Below w.heap.size W6 w7 := hk1.under hsz6 hbkB (fun k e => by cases e) (fun k e => by cases e)
      have HBLK7 := Aside0.mk hblk7
      have HP0 := Aside0.mk hp0
      have HP1 := Aside0.mk hp1
      have HSP1 := Aside0.mk hsp1
      have HU1 := Aside0.mk (Kd.R_lower hu1 hsz6)
      have HL7 := Aside0.mk hl7
      have HM7 := Aside0.mk hm7
      have HW7 := Aside0.mk hw7
      have HLM := Aside0.mk hlm
      have HBKB := Aside0.mk hbkB
      have HX9 := Aside0.mk hxl9
      have HB7 := Aside0.mk (show Below w.heap.size w w7 from (((HBr.out.trans (HB34.out.mono HBr.out.size)).trans (HB45.out.mono hB4)).trans (hb56.mono hB5)).trans hbl7)
      clear hblk hb56 hW6 hB5 hB4 hbk hbkB hl6 hm6 hw6 hlm hsz6 hxl9 AD1 hblk7 hp0 hp1 hsp1 hu1 hk1 hl7 hm7 hw7 hbl7
      go_wp2_with fail
      have AD2 := addInts_calls bk w.heap.size p0 p1 nils [.slice Al a3.size cl] [u1] Am cm xs w7 HBLK7.out rfl HP0.out HP1.out HSP1.out (by rw [HXL.out]; exact HM7.out) (by simp) (by simp) HB7.out.size HBKB.out HX9.out
      rw [HXL.out] at AD2
      refine AD2.mono ?_
      rintro en w8 ⟨q0, q1, u2, rfl, hblk8, hq0, hq1, hsq, hu2, hk2⟩
      have HL8 := Aside0.mk (hk2.nums HP0.out HP1.out HBLK7.out HL7.out)
      have HM8 := Aside0.mk (hk2.nums HP0.out HP1.out HBLK7.out HM7.out)
      have HW8 := Aside0.mk (hk2.nums HP0.out HP1.out HBLK7.out HW7.out)
      have HU8 := Aside0.mk (hk2.nums HP0.out HP1.out HBLK7.out HU1.out)
      have HV8 := Aside0.mk (Kd.R_lower hu2 HB7.out.size)
      have HB8 := Aside0.mk (HB7.out.trans (hk2.under HB7.out.size HBKB.out (fun k e => Kd.R_base HP0.out k e) (fun k e => Kd.R_base HP1.out k e)))
      have HBLK8 := Aside0.mk hblk8
      have HQ0 := Aside0.mk hq0
      have HQ1 := Aside0.mk hq1
      clear AD2 hblk8 hq0 hq1 hsq hu2 hk2
      have f1 : IntKind.i64.wrap a0 = a0 := IntWalk.i64_in _ (by have := HB0.out; omega)
      have f2 : IntKind.i64.wrap (a0 + 1) = a0 + 1 := IntWalk.i64_in _ (by have := HB0.out; omega)
      go_wp2_with fail
      refine (OF.out _).mono ?_
      rintro en w9 ⟨rfl, hd9⟩
      have HD9 := Aside0.mk hd9.below
      clear hd9
      go_wp2_with fail
      refine (BT1.out _).mono ?_
      rintro en w10 ⟨rfl, hd10⟩
      have HD10 := Aside0.mk (below_step HD9.out hd10.below)
      clear hd10
      go_wp2_with fail
      refine (BT2.out _).mono ?_
      rintro en w11 ⟨rfl, hd11⟩
      have HD11 := Aside0.mk (below_step HD10.out hd11.below)
      clear hd11
      go_wp2_with fail
      refine (TX.out _).mono ?_
      rintro en w12 ⟨rfl, hd12⟩
      have HD12 := Aside0.mk (below_step HD11.out hd12.below)
      clear hd12
      have SM := scriniumbook_SameInts.calls (xs.length + 1) Al cl xs Aw cw xs true w12 (by
        have h := (Kd.R_reads' (Kd.R_below HL8.out HD12.out)).2.2
        exact h) (by rw [HXL.out]; exact (Kd.R_reads' HL8.out).2.1) (by
        have h := (Kd.R_reads' (Kd.R_below HW8.out HD12.out)).2.2
        exact h) (by rw [HXL.out]; exact (Kd.R_reads' HW8.out).2.1) (sameInts_ok xs (by have := HX9.out; omega) _ (Nat.le_refl _))
      rw [HXL.out] at SM
      have HSM := Aside0.mk SM
      clear SM
      go_wp2_with fail
      refine HSM.out.mono ?_
      rintro en w13 ⟨rfl, hd13⟩
      have HD13 := Aside0.mk (below_step HD12.out hd13.below)
      clear hd13
      have hL := Kd.R_below HL8.out HD13.out
      have hM := Kd.R_below HM8.out HD13.out
      have hU := Kd.R_below HU8.out HD13.out
      have hV := Kd.R_below HV8.out HD13.out
      have AP := apartInts_calls bk w.heap.size q0 q1 [.slice Al a3.size cl, .slice Am a3.size cm] [u1, u2] [xs, xs] w13 (blk_below HBLK8.out HD13.out) (Kd.R_below HQ0.out HD13.out) (Kd.R_below HQ1.out HD13.out)
        (fun i hi => by
          rcases i with _ | _ | i
          · exact hL
          · exact hM
          · simp at hi; omega)
        (fun i hi => by
          rcases i with _ | _ | i
          · exact readsI_of_R hU
          · exact readsI_of_R hV
          · simp at hi; omega) rfl rfl
        (fun i j hi hj hne k e1 e2 => by
          rcases i with _ | _ | i
          · rcases j with _ | _ | j
            · exact hne rfl
            · exact HLM.out k e1 e2
            · simp at hj; omega
          · rcases j with _ | _ | j
            · exact HLM.out k e2 e1
            · exact hne rfl
            · simp at hj; omega
          · simp at hi; omega) (by simp) (fun i => by
          rcases i with _ | _ | i
          · exact HX9.out
          · exact HX9.out
          · simp) (Nat.le_trans HB8.out.size HD13.out.size)
      have HAP := Aside0.mk AP
      clear AP hL hM hU hV
      go_wp2_with fail
      refine HAP.out.mono ?_
      rintro en w14 ⟨rfl, hb14⟩
      have HBZ := Aside0.mk ((HB8.out.trans (HD13.out.mono HB8.out.size)).trans hb14)
      clear hb14
      go_wp2_with fail
      go_ret
      exact ⟨rfl, HBZ.out⟩
  · skip
    have e1 : decide ((1 : Int) ≤ a1) = true := decide_eq_true (by omega)
    have e2 : decide (a1 < 257) = false := decide_eq_false (by omega)
    obtain rfl : r2 = false := by rw [HIN.out.1, e1, e2]; rfl
    obtain rfl : r1 = 0 := HIN.out.2.2 rfl
    have x0 := bt_at a3
    go_wp2_with fail
    go_loopw [12, 13] (fun wv iv wr => ∃ k : Nat, k ≤ a3.size ∧ iv = .int .i64 k ∧ Aside0 (Kd.R (Kd.int .i64) 3 wr w.heap.size (fun _ => True) wv (symsOf a3 k)) ∧ Aside0 (Below w.heap.size w wr)) (fun _ iv _ => a3.size - (intOf iv).toNat)
    case atStart => exact ⟨0, Nat.zero_le _, rfl, ⟨Kd.R_nil _ _ _ _ _⟩, HB2⟩
    case round =>
    obtain ⟨k, hk, rfl, HW, HBr⟩ := hrel
    by_cases hlt : k < a3.size
    · have d1 : decide ((k : Int) < (a3.size : Int)) = true := decide_eq_true (by omega)
      have d2 : decide (k < a3.size) = true := decide_eq_true hlt
      have d3 : (0 ≤ (k : Int)) = True := eq_true (by omega)
      have d4 : ((k : Int) < (a3.size : Int)) = True := eq_true (by omega)
      have d5 : IntKind.i64.wrap ((k : Int) + 1) = (k : Int) + 1 := IntWalk.i64_in _ (by have := HSZ.out; omega)
      have hbr := bt_range a3 (k : Int)
      have d6 : IntKind.i64.wrap (bt a3 k) = bt a3 k := IntWalk.i64_in _ (by omega)
      have d7 : IntKind.i64.wrap (bt a3 k + 1) = bt a3 k + 1 := IntWalk.i64_in _ (by omega)
      have hx := bt_at a3 (k : Int)
      rw [Int.toNat_natCast] at hx
      obtain ⟨Aw, cw, hw⟩ := Kd.R_slice HW.out
      rw [symsOf_len] at hw
      subst hw
      have HSS := Aside0.mk (symsOf_succ a3 k)
      clear x0
      go_wp2_with (first
        | ((with_reducible refine gate_builtin (b := .append) (xs := #[.tmp 42, .tmp 48]) rfl ?_); at_builtin; refine Kd.R_append (Kd.int .i64) (w0 := w) w.heap.size rfl (.tmp 42) (.tmp 48) 25 3 (.int .i64 0) 8 rfl Try.underlying25 infoNumS rfl Nat.one_pos (by decide) (.slice Aw k cw) (symsOf a3 k) (bt a3 k + 1) [.int .i64 (bt a3 k + 1)] (fun _ => True) (fun _ => False) rfl rfl rfl (fun _ h => h.elim) (fun _ _ => trivial) HW.out HBr.out HBr.out.size (by rw [symsOf_len]; have := HSZ.out; omega) ?_; intro v' w' hO hB' _ _; rw [← HSS.out] at hO; have HO' := Aside0.mk hO; have HB' := Aside0.mk hB'; clear hO hB'))
      go_roundw
      case rel => exact ⟨k + 1, by omega, by go_num, HO', HB'⟩
      case measure => simp [intOf]; omega
    · obtain rfl : k = a3.size := by omega
      have d1 : decide ((a3.size : Int) < (a3.size : Int)) = false := decide_eq_false (by omega)
      clear x0
      obtain ⟨Aw, cw, hw⟩ := Kd.R_slice HW.out
      rw [symsOf_len] at hw
      subst hw
      obtain ⟨xs, hxs⟩ : ∃ q, symsOf a3 a3.size = q := ⟨_, rfl⟩
      have hxl : xs.length = a3.size := by rw [← hxs]; exact symsOf_len _ _
      have HXL := Aside0.mk hxl
      rw [hxs] at HW ALL
      clear hxs hxl
      go_wp2_with fail
      refine (ALL.out _).mono ?_
      rintro en w4 ⟨lv, rfl, hRl, hb4⟩
      obtain ⟨Al, cl, hl⟩ := Kd.R_slice hRl
      rw [HXL.out] at hl
      subst hl
      have HRl := Aside0.mk hRl
      have HB34 := Aside0.mk hb4
      clear hRl hb4
      go_wp2_with fail
      refine (ALL.out _).mono ?_
      rintro en w5 ⟨mv, rfl, hRm, hb5⟩
      obtain ⟨Am, cm, hm⟩ := Kd.R_slice hRm
      rw [HXL.out] at hm
      subst hm
      have HRm := Aside0.mk hRm
      have HB45 := Aside0.mk hb5
      clear hRm hb5
      go_wp2_with fail
      obtain ⟨W6, hW6⟩ : ∃ x, w5.alloc (.cells #[.slice none 0 0, .slice none 0 0, .slice none 0 0, .slice none 0 0, .slice none 0 0, .slice none 0 0, .slice none 0 0, .slice none 0 0, .slice none 0 0, .slice none 0 0, .slice none 0 0, .slice none 0 0, .slice none 0 0, .slice none 0 0, .slice none 0 0, .slice none 0 0] 37) = x := ⟨_, rfl⟩
      have hblk : W6.heap[w5.heap.size]? = some (.cells (nilL :: nilL :: nils).toArray 37 (0, 0)) := by rw [← hW6]; exact heap_alloc_new _ _
      have hb56 : Below w5.heap.size w5 W6 := by rw [← hW6]; exact below_alloc (Below.refl _ _) _
      rw [hW6]
      have hB5 : w.heap.size ≤ w5.heap.size := Nat.le_trans HBr.out.size (Nat.le_trans HB34.out.size HB45.out.size)
      have hB4 : w.heap.size ≤ w4.heap.size := Nat.le_trans HBr.out.size HB34.out.size
      obtain ⟨bk, hbk⟩ : ∃ b, w5.heap.size = b := ⟨_, rfl⟩
      have hbkB : w.heap.size ≤ bk := by rw [← hbk]; exact hB5
      rw [hbk] at hblk ⊢
      have hl6 : Kd.R (Kd.int .i64) 3 W6 w.heap.size (fun _ => True) (.slice Al a3.size cl) xs := Kd.R_below (Kd.R_below (Kd.R_lower HRl.out HBr.out.size) HB45.out) hb56
      have hm6 : Kd.R (Kd.int .i64) 3 W6 w.heap.size (fun _ => True) (.slice Am a3.size cm) xs := Kd.R_below (Kd.R_lower HRm.out hB4) hb56
      have hw6 : Kd.R (Kd.int .i64) 3 W6 w.heap.size (fun _ => True) (.slice Aw a3.size cw) xs := Kd.R_below (Kd.R_below (Kd.R_below HW.out HB34.out) HB45.out) hb56
      have hlm : ∀ q, (Value.slice Al a3.size cl).ownBlock = some q → (Value.slice Am a3.size cm).ownBlock ≠ some q := fun q e1 e2 => by
        have h1 := Kd.R_lt HRl.out q e1
        have h2 := Kd.R_base HRm.out q e2
        omega
      have hsz6 : w.heap.size ≤ W6.heap.size := Nat.le_trans hB5 hb56.size
      have hxl9 : xs.length ≤ 900000 := by rw [HXL.out]; have := HSZ.out; omega
      have AD1 := addInts_calls bk w.heap.size nilL nilL nils [] [] Al cl xs W6 hblk rfl (Kd.R_nil _ _ _ _ _) (Kd.R_nil _ _ _ _ _) (fun q e => by cases e) (by rw [HXL.out]; exact hl6) (by decide) (by decide) hsz6 hbkB hxl9
      rw [HXL.out] at AD1
      refine AD1.mono ?_
      rintro en w7 ⟨p0, p1, u1, rfl, hblk7, hp0, hp1, hsp1, hu1, hk1⟩
      have hl7 := hk1.nums (Kd.R_nil _ _ _ _ _) (Kd.R_nil _ _ _ _ _) hblk hl6 (b := w.heap.size)
      have hm7 := hk1.nums (Kd.R_nil _ _ _ _ _) (Kd.R_nil _ _ _ _ _) hblk hm6 (b := w.heap.size)
      have hw7 := hk1.nums (Kd.R_nil _ _ _ _ _) (Kd.R_nil _ _ _ _ _) hblk hw6 (b := w.heap.size)
      have hbl7 : Below w.heap.size W6 w7 := hk1.under hsz6 hbkB (fun k e => by cases e) (fun k e => by cases e)
      have HBLK7 := Aside0.mk hblk7
      have HP0 := Aside0.mk hp0
      have HP1 := Aside0.mk hp1
      have HSP1 := Aside0.mk hsp1
      have HU1 := Aside0.mk (Kd.R_lower hu1 hsz6)
      have HL7 := Aside0.mk hl7
      have HM7 := Aside0.mk hm7
      have HW7 := Aside0.mk hw7
      have HLM := Aside0.mk hlm
      have HBKB := Aside0.mk hbkB
      have HX9 := Aside0.mk hxl9
      have HB7 := Aside0.mk (show Below w.heap.size w w7 from (((HBr.out.trans (HB34.out.mono HBr.out.size)).trans (HB45.out.mono hB4)).trans (hb56.mono hB5)).trans hbl7)
      clear hblk hb56 hW6 hB5 hB4 hbk hbkB hl6 hm6 hw6 hlm hsz6 hxl9 AD1 hblk7 hp0 hp1 hsp1 hu1 hk1 hl7 hm7 hw7 hbl7
      go_wp2_with fail
      have AD2 := addInts_calls bk w.heap.size p0 p1 nils [.slice Al a3.size cl] [u1] Am cm xs w7 HBLK7.out rfl HP0.out HP1.out HSP1.out (by rw [HXL.out]; exact HM7.out) (by simp) (by simp) HB7.out.size HBKB.out HX9.out
      rw [HXL.out] at AD2
      refine AD2.mono ?_
      rintro en w8 ⟨q0, q1, u2, rfl, hblk8, hq0, hq1, hsq, hu2, hk2⟩
      have HL8 := Aside0.mk (hk2.nums HP0.out HP1.out HBLK7.out HL7.out)
      have HM8 := Aside0.mk (hk2.nums HP0.out HP1.out HBLK7.out HM7.out)
      have HW8 := Aside0.mk (hk2.nums HP0.out HP1.out HBLK7.out HW7.out)
      have HU8 := Aside0.mk (hk2.nums HP0.out HP1.out HBLK7.out HU1.out)
      have HV8 := Aside0.mk (Kd.R_lower hu2 HB7.out.size)
      have HB8 := Aside0.mk (HB7.out.trans (hk2.under HB7.out.size HBKB.out (fun k e => Kd.R_base HP0.out k e) (fun k e => Kd.R_base HP1.out k e)))
      have HBLK8 := Aside0.mk hblk8
      have HQ0 := Aside0.mk hq0
      have HQ1 := Aside0.mk hq1
      clear AD2 hblk8 hq0 hq1 hsq hu2 hk2
      have f1 : IntKind.i64.wrap a0 = a0 := IntWalk.i64_in _ (by have := HB0.out; omega)
      have f2 : IntKind.i64.wrap (a0 + 1) = a0 + 1 := IntWalk.i64_in _ (by have := HB0.out; omega)
      go_wp2_with fail
      refine (OF.out _).mono ?_
      rintro en w9 ⟨rfl, hd9⟩
      have HD9 := Aside0.mk hd9.below
      clear hd9
      go_wp2_with fail
      refine (BT1.out _).mono ?_
      rintro en w10 ⟨rfl, hd10⟩
      have HD10 := Aside0.mk (below_step HD9.out hd10.below)
      clear hd10
      go_wp2_with fail
      refine (BT2.out _).mono ?_
      rintro en w11 ⟨rfl, hd11⟩
      have HD11 := Aside0.mk (below_step HD10.out hd11.below)
      clear hd11
      go_wp2_with fail
      refine (TX.out _).mono ?_
      rintro en w12 ⟨rfl, hd12⟩
      have HD12 := Aside0.mk (below_step HD11.out hd12.below)
      clear hd12
      have SM := scriniumbook_SameInts.calls (xs.length + 1) Al cl xs Aw cw xs true w12 (by
        have h := (Kd.R_reads' (Kd.R_below HL8.out HD12.out)).2.2
        exact h) (by rw [HXL.out]; exact (Kd.R_reads' HL8.out).2.1) (by
        have h := (Kd.R_reads' (Kd.R_below HW8.out HD12.out)).2.2
        exact h) (by rw [HXL.out]; exact (Kd.R_reads' HW8.out).2.1) (sameInts_ok xs (by have := HX9.out; omega) _ (Nat.le_refl _))
      rw [HXL.out] at SM
      have HSM := Aside0.mk SM
      clear SM
      go_wp2_with fail
      refine HSM.out.mono ?_
      rintro en w13 ⟨rfl, hd13⟩
      have HD13 := Aside0.mk (below_step HD12.out hd13.below)
      clear hd13
      have hL := Kd.R_below HL8.out HD13.out
      have hM := Kd.R_below HM8.out HD13.out
      have hU := Kd.R_below HU8.out HD13.out
      have hV := Kd.R_below HV8.out HD13.out
      have AP := apartInts_calls bk w.heap.size q0 q1 [.slice Al a3.size cl, .slice Am a3.size cm] [u1, u2] [xs, xs] w13 (blk_below HBLK8.out HD13.out) (Kd.R_below HQ0.out HD13.out) (Kd.R_below HQ1.out HD13.out)
        (fun i hi => by
          rcases i with _ | _ | i
          · exact hL
          · exact hM
          · simp at hi; omega)
        (fun i hi => by
          rcases i with _ | _ | i
          · exact readsI_of_R hU
          · exact readsI_of_R hV
          · simp at hi; omega) rfl rfl
        (fun i j hi hj hne k e1 e2 => by
          rcases i with _ | _ | i
          · rcases j with _ | _ | j
            · exact hne rfl
            · exact HLM.out k e1 e2
            · simp at hj; omega
          · rcases j with _ | _ | j
            · exact HLM.out k e2 e1
            · exact hne rfl
            · simp at hj; omega
          · simp at hi; omega) (by simp) (fun i => by
          rcases i with _ | _ | i
          · exact HX9.out
          · exact HX9.out
          · simp) (Nat.le_trans HB8.out.size HD13.out.size)
      have HAP := Aside0.mk AP
      clear AP hL hM hU hV
      go_wp2_with fail
      refine HAP.out.mono ?_
      rintro en w14 ⟨rfl, hb14⟩
      have HBZ := Aside0.mk ((HB8.out.trans (HD13.out.mono HB8.out.size)).trans hb14)
      clear hb14
      go_wp2_with fail
      go_ret
      exact ⟨rfl, HBZ.out⟩
  · skip
    have e1 : decide ((1 : Int) ≤ a1) = true := decide_eq_true (by omega)
    have e2 : decide (a1 < 257) = true := decide_eq_true (by omega)
    obtain rfl : r2 = true := by rw [HIN.out.1, e1, e2]; rfl
    obtain rfl : r1 = a1 - 1 := HIN.out.2.1 rfl
    have e3 : IntKind.i64.wrap (a1 - 1) = a1 - 1 := IntWalk.i64_in _ (by omega)
    have x0 := bt_at a3
    go_wp2_with fail
    go_loopw [12, 13] (fun wv iv wr => ∃ k : Nat, k ≤ a3.size ∧ iv = .int .i64 k ∧ Aside0 (Kd.R (Kd.int .i64) 3 wr w.heap.size (fun _ => True) wv (symsOf a3 k)) ∧ Aside0 (Below w.heap.size w wr)) (fun _ iv _ => a3.size - (intOf iv).toNat)
    case atStart => exact ⟨0, Nat.zero_le _, rfl, ⟨Kd.R_nil _ _ _ _ _⟩, HB2⟩
    case round =>
    obtain ⟨k, hk, rfl, HW, HBr⟩ := hrel
    by_cases hlt : k < a3.size
    · have d1 : decide ((k : Int) < (a3.size : Int)) = true := decide_eq_true (by omega)
      have d2 : decide (k < a3.size) = true := decide_eq_true hlt
      have d3 : (0 ≤ (k : Int)) = True := eq_true (by omega)
      have d4 : ((k : Int) < (a3.size : Int)) = True := eq_true (by omega)
      have d5 : IntKind.i64.wrap ((k : Int) + 1) = (k : Int) + 1 := IntWalk.i64_in _ (by have := HSZ.out; omega)
      have hbr := bt_range a3 (k : Int)
      have d6 : IntKind.i64.wrap (bt a3 k) = bt a3 k := IntWalk.i64_in _ (by omega)
      have d7 : IntKind.i64.wrap (bt a3 k + 1) = bt a3 k + 1 := IntWalk.i64_in _ (by omega)
      have hx := bt_at a3 (k : Int)
      rw [Int.toNat_natCast] at hx
      obtain ⟨Aw, cw, hw⟩ := Kd.R_slice HW.out
      rw [symsOf_len] at hw
      subst hw
      have HSS := Aside0.mk (symsOf_succ a3 k)
      clear x0
      go_wp2_with (first
        | ((with_reducible refine gate_builtin (b := .append) (xs := #[.tmp 42, .tmp 48]) rfl ?_); at_builtin; refine Kd.R_append (Kd.int .i64) (w0 := w) w.heap.size rfl (.tmp 42) (.tmp 48) 25 3 (.int .i64 0) 8 rfl Try.underlying25 infoNumS rfl Nat.one_pos (by decide) (.slice Aw k cw) (symsOf a3 k) (bt a3 k + 1) [.int .i64 (bt a3 k + 1)] (fun _ => True) (fun _ => False) rfl rfl rfl (fun _ h => h.elim) (fun _ _ => trivial) HW.out HBr.out HBr.out.size (by rw [symsOf_len]; have := HSZ.out; omega) ?_; intro v' w' hO hB' _ _; rw [← HSS.out] at hO; have HO' := Aside0.mk hO; have HB' := Aside0.mk hB'; clear hO hB'))
      go_roundw
      case rel => exact ⟨k + 1, by omega, by go_num, HO', HB'⟩
      case measure => simp [intOf]; omega
    · obtain rfl : k = a3.size := by omega
      have d1 : decide ((a3.size : Int) < (a3.size : Int)) = false := decide_eq_false (by omega)
      clear x0
      obtain ⟨Aw, cw, hw⟩ := Kd.R_slice HW.out
      rw [symsOf_len] at hw
      subst hw
      obtain ⟨xs, hxs⟩ : ∃ q, symsOf a3 a3.size = q := ⟨_, rfl⟩
      have hxl : xs.length = a3.size := by rw [← hxs]; exact symsOf_len _ _
      have HXL := Aside0.mk hxl
      rw [hxs] at HW ALL
      clear hxs hxl
      go_wp2_with fail
      refine (ALL.out _).mono ?_
      rintro en w4 ⟨lv, rfl, hRl, hb4⟩
      obtain ⟨Al, cl, hl⟩ := Kd.R_slice hRl
      rw [HXL.out] at hl
      subst hl
      have HRl := Aside0.mk hRl
      have HB34 := Aside0.mk hb4
      clear hRl hb4
      go_wp2_with fail
      refine (ALL.out _).mono ?_
      rintro en w5 ⟨mv, rfl, hRm, hb5⟩
      obtain ⟨Am, cm, hm⟩ := Kd.R_slice hRm
      rw [HXL.out] at hm
      subst hm
      have HRm := Aside0.mk hRm
      have HB45 := Aside0.mk hb5
      clear hRm hb5
      go_wp2_with fail
      obtain ⟨W6, hW6⟩ : ∃ x, w5.alloc (.cells #[.slice none 0 0, .slice none 0 0, .slice none 0 0, .slice none 0 0, .slice none 0 0, .slice none 0 0, .slice none 0 0, .slice none 0 0, .slice none 0 0, .slice none 0 0, .slice none 0 0, .slice none 0 0, .slice none 0 0, .slice none 0 0, .slice none 0 0, .slice none 0 0] 37) = x := ⟨_, rfl⟩
      have hblk : W6.heap[w5.heap.size]? = some (.cells (nilL :: nilL :: nils).toArray 37 (0, 0)) := by rw [← hW6]; exact heap_alloc_new _ _
      have hb56 : Below w5.heap.size w5 W6 := by rw [← hW6]; exact below_alloc (Below.refl _ _) _
      rw [hW6]
      have hB5 : w.heap.size ≤ w5.heap.size := Nat.le_trans HBr.out.size (Nat.le_trans HB34.out.size HB45.out.size)
      have hB4 : w.heap.size ≤ w4.heap.size := Nat.le_trans HBr.out.size HB34.out.size
      obtain ⟨bk, hbk⟩ : ∃ b, w5.heap.size = b := ⟨_, rfl⟩
      have hbkB : w.heap.size ≤ bk := by rw [← hbk]; exact hB5
      rw [hbk] at hblk ⊢
      have hl6 : Kd.R (Kd.int .i64) 3 W6 w.heap.size (fun _ => True) (.slice Al a3.size cl) xs := Kd.R_below (Kd.R_below (Kd.R_lower HRl.out HBr.out.size) HB45.out) hb56
      have hm6 : Kd.R (Kd.int .i64) 3 W6 w.heap.size (fun _ => True) (.slice Am a3.size cm) xs := Kd.R_below (Kd.R_lower HRm.out hB4) hb56
      have hw6 : Kd.R (Kd.int .i64) 3 W6 w.heap.size (fun _ => True) (.slice Aw a3.size cw) xs := Kd.R_below (Kd.R_below (Kd.R_below HW.out HB34.out) HB45.out) hb56
      have hlm : ∀ q, (Value.slice Al a3.size cl).ownBlock = some q → (Value.slice Am a3.size cm).ownBlock ≠ some q := fun q e1 e2 => by
        have h1 := Kd.R_lt HRl.out q e1
        have h2 := Kd.R_base HRm.out q e2
        omega
      have hsz6 : w.heap.size ≤ W6.heap.size := Nat.le_trans hB5 hb56.size
      have hxl9 : xs.length ≤ 900000 := by rw [HXL.out]; have := HSZ.out; omega
      have AD1 := addInts_calls bk w.heap.size nilL nilL nils [] [] Al cl xs W6 hblk rfl (Kd.R_nil _ _ _ _ _) (Kd.R_nil _ _ _ _ _) (fun q e => by cases e) (by rw [HXL.out]; exact hl6) (by decide) (by decide) hsz6 hbkB hxl9
      rw [HXL.out] at AD1
      refine AD1.mono ?_
      rintro en w7 ⟨p0, p1, u1, rfl, hblk7, hp0, hp1, hsp1, hu1, hk1⟩
      have hl7 := hk1.nums (Kd.R_nil _ _ _ _ _) (Kd.R_nil _ _ _ _ _) hblk hl6 (b := w.heap.size)
      have hm7 := hk1.nums (Kd.R_nil _ _ _ _ _) (Kd.R_nil _ _ _ _ _) hblk hm6 (b := w.heap.size)
      have hw7 := hk1.nums (Kd.R_nil _ _ _ _ _) (Kd.R_nil _ _ _ _ _) hblk hw6 (b := w.heap.size)
      have hbl7 : Below w.heap.size W6 w7 := hk1.under hsz6 hbkB (fun k e => by cases e) (fun k e => by cases e)
      have HBLK7 := Aside0.mk hblk7
      have HP0 := Aside0.mk hp0
      have HP1 := Aside0.mk hp1
      have HSP1 := Aside0.mk hsp1
      have HU1 := Aside0.mk (Kd.R_lower hu1 hsz6)
      have HL7 := Aside0.mk hl7
      have HM7 := Aside0.mk hm7
      have HW7 := Aside0.mk hw7
      have HLM := Aside0.mk hlm
      have HBKB := Aside0.mk hbkB
      have HX9 := Aside0.mk hxl9
      have HB7 := Aside0.mk (show Below w.heap.size w w7 from (((HBr.out.trans (HB34.out.mono HBr.out.size)).trans (HB45.out.mono hB4)).trans (hb56.mono hB5)).trans hbl7)
      clear hblk hb56 hW6 hB5 hB4 hbk hbkB hl6 hm6 hw6 hlm hsz6 hxl9 AD1 hblk7 hp0 hp1 hsp1 hu1 hk1 hl7 hm7 hw7 hbl7
      go_wp2_with fail
      have AD2 := addInts_calls bk w.heap.size p0 p1 nils [.slice Al a3.size cl] [u1] Am cm xs w7 HBLK7.out rfl HP0.out HP1.out HSP1.out (by rw [HXL.out]; exact HM7.out) (by simp) (by simp) HB7.out.size HBKB.out HX9.out
      rw [HXL.out] at AD2
      refine AD2.mono ?_
      rintro en w8 ⟨q0, q1, u2, rfl, hblk8, hq0, hq1, hsq, hu2, hk2⟩
      have HL8 := Aside0.mk (hk2.nums HP0.out HP1.out HBLK7.out HL7.out)
      have HM8 := Aside0.mk (hk2.nums HP0.out HP1.out HBLK7.out HM7.out)
      have HW8 := Aside0.mk (hk2.nums HP0.out HP1.out HBLK7.out HW7.out)
      have HU8 := Aside0.mk (hk2.nums HP0.out HP1.out HBLK7.out HU1.out)
      have HV8 := Aside0.mk (Kd.R_lower hu2 HB7.out.size)
      have HB8 := Aside0.mk (HB7.out.trans (hk2.under HB7.out.size HBKB.out (fun k e => Kd.R_base HP0.out k e) (fun k e => Kd.R_base HP1.out k e)))
      have HBLK8 := Aside0.mk hblk8
      have HQ0 := Aside0.mk hq0
      have HQ1 := Aside0.mk hq1
      clear AD2 hblk8 hq0 hq1 hsq hu2 hk2
      have f1 : IntKind.i64.wrap a0 = a0 := IntWalk.i64_in _ (by have := HB0.out; omega)
      have f2 : IntKind.i64.wrap (a0 + 1) = a0 + 1 := IntWalk.i64_in _ (by have := HB0.out; omega)
      go_wp2_with fail
      refine (OF.out _).mono ?_
      rintro en w9 ⟨rfl, hd9⟩
      have HD9 := Aside0.mk hd9.below
      clear hd9
      go_wp2_with fail
      refine (BT1.out _).mono ?_
      rintro en w10 ⟨rfl, hd10⟩
      have HD10 := Aside0.mk (below_step HD9.out hd10.below)
      clear hd10
      go_wp2_with fail
      refine (BT2.out _).mono ?_
      rintro en w11 ⟨rfl, hd11⟩
      have HD11 := Aside0.mk (below_step HD10.out hd11.below)
      clear hd11
      go_wp2_with fail
      refine (TX.out _).mono ?_
      rintro en w12 ⟨rfl, hd12⟩
      have HD12 := Aside0.mk (below_step HD11.out hd12.below)
      clear hd12
      have SM := scriniumbook_SameInts.calls (xs.length + 1) Al cl xs Aw cw xs true w12 (by
        have h := (Kd.R_reads' (Kd.R_below HL8.out HD12.out)).2.2
        exact h) (by rw [HXL.out]; exact (Kd.R_reads' HL8.out).2.1) (by
        have h := (Kd.R_reads' (Kd.R_below HW8.out HD12.out)).2.2
        exact h) (by rw [HXL.out]; exact (Kd.R_reads' HW8.out).2.1) (sameInts_ok xs (by have := HX9.out; omega) _ (Nat.le_refl _))
      rw [HXL.out] at SM
      have HSM := Aside0.mk SM
      clear SM
      go_wp2_with fail
      refine HSM.out.mono ?_
      rintro en w13 ⟨rfl, hd13⟩
      have HD13 := Aside0.mk (below_step HD12.out hd13.below)
      clear hd13
      have hL := Kd.R_below HL8.out HD13.out
      have hM := Kd.R_below HM8.out HD13.out
      have hU := Kd.R_below HU8.out HD13.out
      have hV := Kd.R_below HV8.out HD13.out
      have AP := apartInts_calls bk w.heap.size q0 q1 [.slice Al a3.size cl, .slice Am a3.size cm] [u1, u2] [xs, xs] w13 (blk_below HBLK8.out HD13.out) (Kd.R_below HQ0.out HD13.out) (Kd.R_below HQ1.out HD13.out)
        (fun i hi => by
          rcases i with _ | _ | i
          · exact hL
          · exact hM
          · simp at hi; omega)
        (fun i hi => by
          rcases i with _ | _ | i
          · exact readsI_of_R hU
          · exact readsI_of_R hV
          · simp at hi; omega) rfl rfl
        (fun i j hi hj hne k e1 e2 => by
          rcases i with _ | _ | i
          · rcases j with _ | _ | j
            · exact hne rfl
            · exact HLM.out k e1 e2
            · simp at hj; omega
          · rcases j with _ | _ | j
            · exact HLM.out k e2 e1
            · exact hne rfl
            · simp at hj; omega
          · simp at hi; omega) (by simp) (fun i => by
          rcases i with _ | _ | i
          · exact HX9.out
          · exact HX9.out
          · simp) (Nat.le_trans HB8.out.size HD13.out.size)
      have HAP := Aside0.mk AP
      clear AP hL hM hU hV
      go_wp2_with fail
      refine HAP.out.mono ?_
      rintro en w14 ⟨rfl, hb14⟩
      have HBZ := Aside0.mk ((HB8.out.trans (HD13.out.mono HB8.out.size)).trans hb14)
      clear hb14
      go_wp2_with fail
      go_ret
      exact ⟨rfl, HBZ.out⟩
/-- The same, in the row's form. -/
theorem SymTells_all (a0 a1 a2 : Int) (a3 : ByteArray) (w : World) (w0 : (Lit.int .u8 a0).wf = true) (w1 : (Lit.int .i64 a1).wf = true) (w2 : (Lit.int .i64 a2).wf = true) (w3 : a3.size ≤ 140737488351232) :
    Calls Try.prog 3 #[.int .u8 a0, .int .i64 a1, .int .i64 a2, .string a3] w fun e w' => e = .returned (.bool true) ∧ Below w.heap.size w w' := symTells_calls a0 a1 a2 a3 w w0 w1 w2
end Go.Proofs.Ytcfhcnlbegblcaa.P
