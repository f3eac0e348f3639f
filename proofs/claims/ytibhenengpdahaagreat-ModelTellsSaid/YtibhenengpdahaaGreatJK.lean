/- The document's AskRight is the package's. Conditions: none. -/
import Derived.Test.YtibhenengpdahaaGreatJG
import Derived.Test.YtibhenengpdahaaGreatP8
import Derived.Test.YtibhenengpdahaaGreatJJ
section
set_option linter.unusedVariables false
set_option linter.unusedSimpArgs false
namespace Go.Proofs.YtibhenengpdahaaGreat.P
open Go.RowKit Go.Proofs.YtibhenengpdahaaGreatW.PrintWords Go.Proofs.YtibhenengpdahaaGreatW.PrintLast Go.Proofs.YtibhenengpdahaaGreatW.PrintMore

theorem field_ok (has : ByteArray) (c : UInt8) (n : Int) : scriniumref1_field.f n (hasC has c) = some (letOk has c n) := by
 unfold scriniumref1_field.f letOk
 by_cases h0 : n ≥ 0
 ·rw [if_pos h0, decide_eq_true (show 0 ≤ n from h0), Bool.true_and]
  by_cases h1 : n ≤ 65535
  ·rw [if_pos h1, decide_eq_true h1, Bool.true_and]
   cases hasC has c with
   | true => simp
   | false =>
    rw [if_neg (by decide), Bool.or_false]
    by_cases h2 : n = 0
    ·subst h2; rfl
    ·rw [decide_eq_false (show ¬ n ≤ 0 by omega), beq_eq_false_iff_ne.2 h2]
  ·rw [if_neg h1, decide_eq_false h1, Bool.false_and]
 ·rw [if_neg h0, decide_eq_false (show ¬ 0 ≤ n from h0), Bool.false_and]
def hasB (k : Int) : Bool × Bool × Bool × Bool × Bool := (hasC (hasOf k) 116, hasC (hasOf k) 105, hasC (hasOf k) 102, hasC (hasOf k) 111, hasC (hasOf k) 115)
theorem fields_in (k : Int) (h1 : 1 ≤ k) (h2 : k ≤ 9) : scriniumref1_Fields.f 20 k = some (hasB k) := by
 rcases (show k = 1 ∨ k = 2 ∨ k = 3 ∨ k = 4 ∨ k = 5 ∨ k = 6 ∨ k = 7 ∨ k = 8 ∨ k = 9 by omega) with rfl | rfl | rfl | rfl | rfl | rfl | rfl | rfl | rfl <;> decide +kernel
theorem name_in (k : Int) (h1 : 1 ≤ k) (h2 : k ≤ 9) : (nameOf k).toList.isEmpty = false := by
 rcases (show k = 1 ∨ k = 2 ∨ k = 3 ∨ k = 4 ∨ k = 5 ∨ k = 6 ∨ k = 7 ∨ k = 8 ∨ k = 9 by omega) with rfl | rfl | rfl | rfl | rfl | rfl | rfl | rfl | rfl <;> decide +kernel
theorem name_out (k : Int) (h : k < 1 ∨ 9 < k) : nameOf k = ⟨#[]⟩ := by
 by_cases h0 : k = 0
 ·subst h0; rfl
 ·exact (of_first k (by omega)).1
theorem askRight_same (kind id fr tt snap : Int) (text : ByteArray) : scriniumref1_AskRight.f 20 kind id fr tt snap text = some (askB kind id fr tt snap text) := by
 by_cases hin : 1 ≤ kind ∧ kind ≤ 9
 ·unfold scriniumref1_AskRight.f
  rw [fields_in kind hin.1 hin.2, Option.bind_some, if_pos hin.1, if_pos hin.2]
  unfold hasB askB
  rw [name_in kind hin.1 hin.2]
  dsimp only
  simp only [field_ok, Option.bind_some]
  by_cases hs : (text.size : Int) ≤ 40
  ·rw [if_pos hs, decide_eq_true hs]
   cases hasC (hasOf kind) 116 <;> cases letOk (hasOf kind) 105 id <;> cases letOk (hasOf kind) 102 fr <;> cases letOk (hasOf kind) 111 tt <;> cases letOk (hasOf kind) 115 snap <;> simp
   all_goals (cases text.toList <;> simp)
  ·rw [if_neg hs, decide_eq_false hs]
   simp
 ·have hn := name_out kind (by omega)
  have ha : askB kind id fr tt snap text = false := by
   unfold askB
   rw [hn, show (⟨#[]⟩ : ByteArray).toList.isEmpty = true by decide +kernel]
   rfl
  rw [ha]
  unfold scriniumref1_AskRight.f
  have hf : ∃ q, scriniumref1_Fields.f 20 kind = some q := by
   unfold scriniumref1_Fields.f
   rw [if_neg (by omega), if_neg (by omega), if_neg (by omega), beq_eq_false_iff_ne.2 (show kind ≠ 4 by omega), scriniumref1_Fields.j0, if_neg (by decide), if_neg (by omega), if_neg (by omega), beq_eq_false_iff_ne.2 (show kind ≠ 9 by omega), scriniumref1_Fields.j1, if_neg (by decide), if_neg (by omega)]
   exact ⟨_, rfl⟩
  obtain ⟨q, hq⟩ := hf
  rw [hq, Option.bind_some]
  by_cases h1 : kind ≥ 1
  ·rw [if_pos h1, if_neg (by omega)]
  ·rw [if_neg h1]
end Go.Proofs.YtibhenengpdahaaGreat.P

end
section
set_option linter.unusedVariables false
set_option linter.unusedSimpArgs false
namespace Go.Proofs.YtibhenengpdahaaGreat.P
open Go.RowKit Go.Proofs.YtibhenengpdahaaGreatW.PrintWords Go.Proofs.YtibhenengpdahaaGreatW.PrintLast Go.Proofs.YtibhenengpdahaaGreatW.PrintMore

theorem refMR_calls (A0 : Option Addr) (c0 : Nat) (l0 : List S27) (w : World) (hr0 : Kd.C k27 w A0 l0.length l0) (hc0 : l0.length ≤ c0) (hl : l0.length ≤ 1000000) :
  Calls Tryz.prog 17 #[.slice A0 l0.length c0] w fun e w' => e = .returned (.bool (modelB l0)) ∧ Below w.heap.size w w' :=
 (scriniumref1_ModelRight.calls _ A0 c0 l0 (modelB l0) w hr0 hc0 (refRight_ok l0 hl)).mono fun _ _ h => ⟨h.1, h.2.below⟩
theorem refAR_calls (kind id fr tt snap : Int) (text : ByteArray) (w : World) :
  Calls Tryz.prog 26 #[.agg #[.int .i64 kind, .int .i64 id, .int .i64 fr, .int .i64 tt, .int .i64 snap, .string text]] w fun e w' => e = .returned (.bool (askB kind id fr tt snap text)) ∧ Below w.heap.size w w' :=
 scriniumref1_AskRight.calls 20 kind id fr tt snap text _ w (askRight_same kind id fr tt snap text)
theorem refPL_calls (A0 : Option Addr) (c0 : Nat) (l0 : List S27) (id : Int) (w : World) (hr0 : Kd.C k27 w A0 l0.length l0) (hc0 : l0.length ≤ c0) (hl : l0.length ≤ 1000000) :
  Calls Tryz.prog 29 #[.slice A0 l0.length c0, .int .i64 id] w fun e w' => e = .returned (.int .i64 (findOf l0 id)) ∧ Below w.heap.size w w' :=
 (scriniumref1_Place.calls (l0.length + 1) A0 c0 l0 id (findOf l0 id) w hr0 hc0 (place_any l0 id hl _ (Nat.le_refl _))).mono fun _ _ h => ⟨h.1, h.2.below⟩
set_option maxRecDepth 100000 in
set_option maxHeartbeats 4000000 in
theorem refAns_bad (A0 : Option Addr) (c0 : Nat) (l0 : List S27) (kind id fr tt snap : Int) (text : ByteArray) (w : World) (hr0 : Kd.C k27 w A0 l0.length l0) (hc0 : l0.length ≤ c0) (hl : l0.length ≤ 1000000) (hbad : noneB l0 kind id fr tt snap text) :
  Calls Tryz.prog 7 #[.slice A0 l0.length c0, .agg #[.int .i64 kind, .int .i64 id, .int .i64 fr, .int .i64 tt, .int .i64 snap, .string text]] w fun e w' =>
   e = .returned (.agg (repCells 1 0 ⟨#[]⟩ nilS nilS nilS zeroC).toArray) ∧ Below w.heap.size w w' := by
 have HZ := Aside0.mk hbad
 clear hbad
 have MR := Aside0.mk (fun w' (hr : Kd.C k27 w' A0 l0.length l0) => refMR_calls A0 c0 l0 w' hr hc0 hl)
 have AR := Aside0.mk (fun w' => refAR_calls kind id fr tt snap text w')
 have HR := Aside0.mk hr0
 have HC := Aside0.mk hc0
 have HL := Aside0.mk hl
 obtain ⟨W1, hW1⟩ : ∃ W1, w.alloc (.cells #[.int .i64 kind, .int .i64 id, .int .i64 fr, .int .i64 tt, .int .i64 snap, .string text] 24) = W1 := ⟨_, rfl⟩
 have HB1 : Aside0 (Below w.heap.size w W1) := ⟨by rw [← hW1]; exact below_alloc (Below.refl _ _) _⟩
 have g0 : Aside0 (W1.cell? ⟨w.heap.size, 0, none⟩ = some (.int .i64 kind)) := ⟨by rw [← hW1]; exact cell_newA w _ _ 0 _ rfl⟩
 have g1 : Aside0 (W1.cell? ⟨w.heap.size, 1, none⟩ = some (.int .i64 id)) := ⟨by rw [← hW1]; exact cell_newA w _ _ 1 _ rfl⟩
 have g2 : Aside0 (W1.cell? ⟨w.heap.size, 2, none⟩ = some (.int .i64 fr)) := ⟨by rw [← hW1]; exact cell_newA w _ _ 2 _ rfl⟩
 have g3 : Aside0 (W1.cell? ⟨w.heap.size, 3, none⟩ = some (.int .i64 tt)) := ⟨by rw [← hW1]; exact cell_newA w _ _ 3 _ rfl⟩
 have g4 : Aside0 (W1.cell? ⟨w.heap.size, 4, none⟩ = some (.int .i64 snap)) := ⟨by rw [← hW1]; exact cell_newA w _ _ 4 _ rfl⟩
 have g5 : Aside0 (W1.cell? ⟨w.heap.size, 5, none⟩ = some (.string text)) := ⟨by rw [← hW1]; exact cell_newA w _ _ 5 _ rfl⟩
 have W1E := Aside0.mk hW1
 clear hr0 hc0 hl
 go_enter Tryz.func7, Tryz.ntmps7
 go_wp2_with fail
 try rw [W1E.out]
 obtain ⟨b4, hb4⟩ : ∃ b4, W1.heap.size = b4 := ⟨_, rfl⟩
 have hb5 : w.heap.size + 1 = b4 := by rw [← hb4, ← W1E.out]; exact (Array.size_push _).symm
 obtain ⟨W2, hW2⟩ : ∃ W2, W1.alloc (.cells (repCells 0 0 ⟨#[]⟩ nilS nilS nilS zeroC).toArray 34) = W2 := ⟨_, rfl⟩
 have hr2 : W2.heap[b4]? = some (.cells (repCells 0 0 ⟨#[]⟩ nilS nilS nilS zeroC).toArray 34 (0, 0)) := by rw [← hW2, ← hb4]; exact heap_alloc_new _ _
 have HB12 : Aside0 (Below W1.heap.size W1 W2) := ⟨by rw [← hW2]; exact below_alloc (Below.refl _ _) _⟩
 change Calls _ _ _ (W1.alloc (.cells (repCells 0 0 ⟨#[]⟩ nilS nilS nilS zeroC).toArray 34)) _
 rw [hW2, hb4]
 refine (MR.out _ (Kd.C_below HR.out (below_step HB1.out HB12.out))).mono ?_
 rintro en w3 ⟨rfl, hb⟩
 have HB13 := Aside0.mk (below_step HB12.out hb)
 have hr3 := blk_below hr2 hb
 have HB3 := Aside0.mk (below_step HB1.out HB13.out)
 clear hW2 hb
 all_goals skip
 cases e1 : modelB l0 with
 | false =>
  obtain ⟨wz, hrs, hz, hbz, hfar⟩ := rep_put_far (repCells 1 0 ⟨#[]⟩ nilS nilS nilS zeroC) hr3 rfl rfl (by simp [repCells, nilS, zeroC, Value.oneCell'])
  have RS := Aside0.mk hrs
  have HBz := Aside0.mk (HB3.out.trans (hbz.mono (show w.heap.size ≤ b4 by omega)))
  clear hrs hbz hfar
  go_wp2_with (first
   | ((with_reducible refine gate_store (t := 34) (p := 4) (v := .tmp 29) rfl ?_); refine store_event (t := 34) (p := 4) (v := .tmp 29) (w1 := wz) rfl rfl rfl ?hr ?_; (case hr => exact store_runs rfl rfl rfl RS.out); intro w9 hw; subst hw))
  exact bodyPost_ret (ans_results _ b4 (repCells 1 0 ⟨#[]⟩ nilS nilS nilS zeroC).toArray rfl hz _ rfl) rfl ⟨rfl, HBz.out⟩
 | true =>
  have k0 := pw_cell_below HB13.out g0.out
  have k1 := pw_cell_below HB13.out g1.out
  have k2 := pw_cell_below HB13.out g2.out
  have k3 := pw_cell_below HB13.out g3.out
  have k4 := pw_cell_below HB13.out g4.out
  have k5 := pw_cell_below HB13.out g5.out
  go_wp2_with fail
  refine (AR.out _).mono ?_
  rintro en w4 ⟨rfl, hb⟩
  have HB14 := Aside0.mk (below_step HB13.out hb)
  have HB4 := Aside0.mk (below_step HB3.out hb)
  have hr4 := blk_below hr3 hb
  clear hb k0 k1 k2 k3 k4 k5
  cases e2 : askB kind id fr tt snap text with
  | false =>
   obtain ⟨wz, hrs, hz, hbz, hfar⟩ := rep_put_far (repCells 1 0 ⟨#[]⟩ nilS nilS nilS zeroC) hr4 rfl rfl (by simp [repCells, nilS, zeroC, Value.oneCell'])
   have RS := Aside0.mk hrs
   have HBz := Aside0.mk (HB4.out.trans (hbz.mono (show w.heap.size ≤ b4 by omega)))
   clear hrs hbz hfar
   go_wp2_with (first
    | ((with_reducible refine gate_store (t := 34) (p := 4) (v := .tmp 29) rfl ?_); refine store_event (t := 34) (p := 4) (v := .tmp 29) (w1 := wz) rfl rfl rfl ?hr ?_; (case hr => exact store_runs rfl rfl rfl RS.out); intro w9 hw; subst hw))
   exact bodyPost_ret (ans_results _ b4 (repCells 1 0 ⟨#[]⟩ nilS nilS nilS zeroC).toArray rfl hz _ rfl) rfl ⟨rfl, HBz.out⟩
  | true =>
   have k0 := pw_cell_below HB14.out g0.out
   have hz := HZ.out
   unfold noneB mayB at hz
   rw [e1, e2] at hz
   by_cases h1 : kind < 3
   ·have t1 : decide (kind < 3) = true := decide_eq_true h1
    clear hz
    obtain ⟨wz, hrs, hz, hbz, hfar⟩ := rep_put_far (repCells 1 0 ⟨#[]⟩ nilS nilS nilS zeroC) hr4 rfl rfl (by simp [repCells, nilS, zeroC, Value.oneCell'])
    have RS := Aside0.mk hrs
    have HBz := Aside0.mk (HB4.out.trans (hbz.mono (show w.heap.size ≤ b4 by omega)))
    clear hrs hbz hfar
    go_wp2_with (first
     | ((with_reducible refine gate_store (t := 34) (p := 4) (v := .tmp 29) rfl ?_); refine store_event (t := 34) (p := 4) (v := .tmp 29) (w1 := wz) rfl rfl rfl ?hr ?_; (case hr => exact store_runs rfl rfl rfl RS.out); intro w9 hw; subst hw))
    exact bodyPost_ret (ans_results _ b4 (repCells 1 0 ⟨#[]⟩ nilS nilS nilS zeroC).toArray rfl hz _ rfl) rfl ⟨rfl, HBz.out⟩
   ·have t1 : decide (kind < 3) = false := decide_eq_false h1
    have t2 : decide (7 < kind) = true := decide_eq_true (by rcases hz with h | h | h; cases h; omega; exact h)
    clear hz
    obtain ⟨wz, hrs, hz, hbz, hfar⟩ := rep_put_far (repCells 1 0 ⟨#[]⟩ nilS nilS nilS zeroC) hr4 rfl rfl (by simp [repCells, nilS, zeroC, Value.oneCell'])
    have RS := Aside0.mk hrs
    have HBz := Aside0.mk (HB4.out.trans (hbz.mono (show w.heap.size ≤ b4 by omega)))
    clear hrs hbz hfar
    go_wp2_with (first
     | ((with_reducible refine gate_store (t := 34) (p := 4) (v := .tmp 29) rfl ?_); refine store_event (t := 34) (p := 4) (v := .tmp 29) (w1 := wz) rfl rfl rfl ?hr ?_; (case hr => exact store_runs rfl rfl rfl RS.out); intro w9 hw; subst hw))
    exact bodyPost_ret (ans_results _ b4 (repCells 1 0 ⟨#[]⟩ nilS nilS nilS zeroC).toArray rfl hz _ rfl) rfl ⟨rfl, HBz.out⟩
end Go.Proofs.YtibhenengpdahaaGreat.P

end
section
set_option linter.unusedVariables false
set_option linter.unusedSimpArgs false
namespace Go.Proofs.YtibhenengpdahaaGreat.Wk
open Go.RowKit Go.Proofs.YtibhenengpdahaaGreatW.PrintWords Go.Proofs.YtibhenengpdahaaGreatW.PrintLast Go.Proofs.YtibhenengpdahaaGreatW.PrintMore Go.Proofs.YtibhenengpdahaaGreat.Fpx

set_option maxHeartbeats 1000000 in
theorem refPath_calls (s : ByteArray) (hs : s.size ≤ 100000) (w : World) :
  Calls Tryz.prog 77 #[.string s] w fun e w' => ∃ v, e = .returned v ∧ kP.R 32 w' w.heap.size (fun _ => True) v (path (bytesOf s) s.size) ∧ Below w.heap.size w w' := by
 have hl := bytesOf_length s
 go_enter Tryz.func77, Tryz.ntmps77
 have own0 : kP.R 32 (w.alloc (.cells #[.complex .f64 0 0] 32)) w.heap.size (fun _ => True) (.slice (some ⟨w.heap.size, 0, none⟩) 1 1) (path (bytesOf s) 0) := by
  refine Kd.R_of_own ?_ (fun _ _ => trivial)
  have h := World.ownsRow_lit (base := w.heap.size) (e := 32) (size := 1) w #[.complex .f64 0 0] 1 (Nat.le_refl _) (by simp [maxLen]) (by simp)
  have e : encs encP (path (bytesOf s) 0) = [Value.complex .f64 0 0] := by simp [path, encs, encP, pos, fz_zero]
  rw [e, path_length]
  exact h
 have O0 := Aside0.mk own0
 clear own0
 have B0 : Aside0 (Below w.heap.size w (w.alloc (.cells #[.complex .f64 0 0] 32))) := ⟨below_alloc (Below.refl _ _) _⟩
 have HL := Aside0.mk hl
 clear hl
 go_wp2_with fail
 go_loopw [3, 4, 5, 6] (fun x y v i wr => ∃ k : Nat, k ≤ s.size ∧ i = .int .i64 k ∧ x = .int .i64 (pos ((bytesOf s).take k)).1 ∧ y = .int .i64 (pos ((bytesOf s).take k)).2 ∧ Aside0 (kP.R 32 wr w.heap.size (fun _ => True) v (path (bytesOf s) k)) ∧ Aside0 (Below w.heap.size w wr)) (fun _ _ _ i _ => s.size - (intOf i).toNat)
 case atStart => exact ⟨0, by omega, rfl, rfl, rfl, O0, B0⟩
 case round =>
  clear O0 B0
  obtain ⟨k, hk, rfl, rfl, rfl, HO, HB⟩ := hrel
  by_cases hlt : k < s.size
  ·obtain ⟨A, c, hv, hlc, hC⟩ := Kd.R_reads HO.out
   rw [path_length] at hv hlc hC
   subst hv
   have hpb := pos_bd ((bytesOf s).take k)
   have hlen : ((bytesOf s).take k).length = k := by rw [List.length_take, HL.out]; omega
   rw [hlen] at hpb
   have hsb := step_bd (bt s k)
   have hpn := pos_next (bytesOf s) k (by rw [HL.out]; exact hlt)
   rw [rd_bytesOf] at hpn
   have HPS := Aside0.mk (path_succ (bytesOf s) k)
   have hx := bt_at s (k : Int)
   have hb := bt_range s (k : Int)
   rw [Int.toNat_natCast] at hx
   have hsx := sx_eq (bt s k)
   have hsy := sy_eq (bt s k)
   obtain ⟨⟨a, b⟩, hab⟩ : ∃ q, pos ((bytesOf s).take k) = q := ⟨_, rfl⟩
   rw [hab] at hpb hpn ⊢
   dsimp only at hpb hpn ⊢
   obtain ⟨A1, hA1⟩ : ∃ q, A = q := ⟨_, rfl⟩
   subst hA1
   have b0 := hb.1
   have b1 := hb.2
   clear hlen hC hsb hab
   obtain ⟨r, hr⟩ : ∃ r, bt s k % 4 = r := ⟨_, rfl⟩
   rw [hr] at hsx hsy
   rcases (show r = 0 ∨ r = 1 ∨ r = 2 ∨ r = 3 by omega) with rfl | rfl | rfl | rfl
   ·have hp' : pos ((bytesOf s).take (k + 1)) = (a + 1, b) := by rw [hpn, hsx, hsy]; simp; try omega
    rw [hp'] at HPS
    have HP' := Aside0.mk hp'
    have vw : IntKind.i64.wrap (a + 1) = a + 1 := IntWalk.i64_in _ (by omega)
    have q0 : (bt s k % 4 == 0) = true := by rw [hr]; rfl
    have q1 : (bt s k % 4 == 1) = false := by rw [hr]; rfl
    have q2 : (bt s k % 4 == 2) = false := by rw [hr]; rfl
    clear hr hsx hsy hpn hp'
    go_wp2_with (at_builtin; refine Kd.R_append kP (w0 := w) w.heap.size rfl (.tmp 32) (.tmp 38) 104 32 (.complex .f64 0 0) 16 rfl Tryz.underlying104 info23 rfl (by decide) (by omega) (.slice A (k + 1) c) (path (bytesOf s) k) (a + 1, b) [.complex .f64 (fz (a + 1)) (fz (b))] (fun _ => True) (fun _ => False) rfl rfl ?aP (fun _ hk => hk.elim) ?aF ?aO ?aB ?aS ?aL ?_; (case aP => exact rfl); (case aF => exact fun _ _ => trivial); (case aO => exact HO.out); (case aB => exact HB.out); (case aS => exact HB.out.size); (case aL => rw [path_length]; omega); intro v1 w1 hr hb1 _ _; rw [← HPS.out] at hr; have HR := Aside0.mk hr; have HB1 := Aside0.mk hb1; clear hr hb1)
    go_roundw
    case rel => exact ⟨k + 1, by omega, by go_num, by rw [HP'.out], by rw [HP'.out], HR, HB1⟩
    case measure => simp [intOf]; omega
   ·have hp' : pos ((bytesOf s).take (k + 1)) = (a, b + 1) := by rw [hpn, hsx, hsy]; simp; try omega
    rw [hp'] at HPS
    have HP' := Aside0.mk hp'
    have vw : IntKind.i64.wrap (b + 1) = b + 1 := IntWalk.i64_in _ (by omega)
    have q0 : (bt s k % 4 == 0) = false := by rw [hr]; rfl
    have q1 : (bt s k % 4 == 1) = true := by rw [hr]; rfl
    have q2 : (bt s k % 4 == 2) = false := by rw [hr]; rfl
    clear hr hsx hsy hpn hp'
    go_wp2_with (at_builtin; refine Kd.R_append kP (w0 := w) w.heap.size rfl (.tmp 32) (.tmp 38) 104 32 (.complex .f64 0 0) 16 rfl Tryz.underlying104 info23 rfl (by decide) (by omega) (.slice A (k + 1) c) (path (bytesOf s) k) (a, b + 1) [.complex .f64 (fz (a)) (fz (b + 1))] (fun _ => True) (fun _ => False) rfl rfl ?aP (fun _ hk => hk.elim) ?aF ?aO ?aB ?aS ?aL ?_; (case aP => exact rfl); (case aF => exact fun _ _ => trivial); (case aO => exact HO.out); (case aB => exact HB.out); (case aS => exact HB.out.size); (case aL => rw [path_length]; omega); intro v1 w1 hr hb1 _ _; rw [← HPS.out] at hr; have HR := Aside0.mk hr; have HB1 := Aside0.mk hb1; clear hr hb1)
    go_roundw
    case rel => exact ⟨k + 1, by omega, by go_num, by rw [HP'.out], by rw [HP'.out], HR, HB1⟩
    case measure => simp [intOf]; omega
   ·have hp' : pos ((bytesOf s).take (k + 1)) = (a - 1, b) := by rw [hpn, hsx, hsy]; simp; try omega
    rw [hp'] at HPS
    have HP' := Aside0.mk hp'
    have vw : IntKind.i64.wrap (a - 1) = a - 1 := IntWalk.i64_in _ (by omega)
    have q0 : (bt s k % 4 == 0) = false := by rw [hr]; rfl
    have q1 : (bt s k % 4 == 1) = false := by rw [hr]; rfl
    have q2 : (bt s k % 4 == 2) = true := by rw [hr]; rfl
    clear hr hsx hsy hpn hp'
    go_wp2_with (at_builtin; refine Kd.R_append kP (w0 := w) w.heap.size rfl (.tmp 32) (.tmp 38) 104 32 (.complex .f64 0 0) 16 rfl Tryz.underlying104 info23 rfl (by decide) (by omega) (.slice A (k + 1) c) (path (bytesOf s) k) (a - 1, b) [.complex .f64 (fz (a - 1)) (fz (b))] (fun _ => True) (fun _ => False) rfl rfl ?aP (fun _ hk => hk.elim) ?aF ?aO ?aB ?aS ?aL ?_; (case aP => exact rfl); (case aF => exact fun _ _ => trivial); (case aO => exact HO.out); (case aB => exact HB.out); (case aS => exact HB.out.size); (case aL => rw [path_length]; omega); intro v1 w1 hr hb1 _ _; rw [← HPS.out] at hr; have HR := Aside0.mk hr; have HB1 := Aside0.mk hb1; clear hr hb1)
    go_roundw
    case rel => exact ⟨k + 1, by omega, by go_num, by rw [HP'.out], by rw [HP'.out], HR, HB1⟩
    case measure => simp [intOf]; omega
   ·have hp' : pos ((bytesOf s).take (k + 1)) = (a, b - 1) := by rw [hpn, hsx, hsy]; simp; try omega
    rw [hp'] at HPS
    have HP' := Aside0.mk hp'
    have vw : IntKind.i64.wrap (b - 1) = b - 1 := IntWalk.i64_in _ (by omega)
    have q0 : (bt s k % 4 == 0) = false := by rw [hr]; rfl
    have q1 : (bt s k % 4 == 1) = false := by rw [hr]; rfl
    have q2 : (bt s k % 4 == 2) = false := by rw [hr]; rfl
    clear hr hsx hsy hpn hp'
    go_wp2_with (at_builtin; refine Kd.R_append kP (w0 := w) w.heap.size rfl (.tmp 32) (.tmp 38) 104 32 (.complex .f64 0 0) 16 rfl Tryz.underlying104 info23 rfl (by decide) (by omega) (.slice A (k + 1) c) (path (bytesOf s) k) (a, b - 1) [.complex .f64 (fz (a)) (fz (b - 1))] (fun _ => True) (fun _ => False) rfl rfl ?aP (fun _ hk => hk.elim) ?aF ?aO ?aB ?aS ?aL ?_; (case aP => exact rfl); (case aF => exact fun _ _ => trivial); (case aO => exact HO.out); (case aB => exact HB.out); (case aS => exact HB.out.size); (case aL => rw [path_length]; omega); intro v1 w1 hr hb1 _ _; rw [← HPS.out] at hr; have HR := Aside0.mk hr; have HB1 := Aside0.mk hb1; clear hr hb1)
    go_roundw
    case rel => exact ⟨k + 1, by omega, by go_num, by rw [HP'.out], by rw [HP'.out], HR, HB1⟩
    case measure => simp [intOf]; omega
  ·obtain rfl : k = s.size := by omega
   go_wp2_with fail
   go_ret
   exact ⟨_, rfl, HO.out, HB.out⟩
theorem refEnd_calls (s : ByteArray) (hs : s.size ≤ 100000) (w : World) :
  Calls Tryz.prog 30 #[.string s] w fun e w' => e = .returned (encP (pos (bytesOf s))) ∧ Below w.heap.size w w' := by
 have hl := bytesOf_length s
 have ht : (bytesOf s).take s.size = bytesOf s := List.take_of_length_le (by omega)
 have hpa := path_at (bytesOf s) s.size s.size (Nat.le_refl _) (0, 0)
 rw [ht] at hpa
 have HPA := Aside0.mk hpa
 clear hl ht hpa
 go_enter Tryz.func30, Tryz.ntmps30
 go_wp2_with fail
 refine (refPath_calls s hs _).mono ?_
 rintro e w1 ⟨v, rfl, HO, HB⟩
 obtain ⟨A, c, rfl, hlc, hC⟩ := Kd.R_reads HO
 have hpl := path_length (bytesOf s) s.size
 obtain ⟨ad, cs, rfl, hcs, hK, hcell⟩ := Kd.C_get hC (0, 0) (s.size : Int) (by omega) (by omega)
 obtain ⟨g, rfl⟩ := Kd.R_head HO
 have hK' : cs = [encP ((path (bytesOf s) s.size).getD (s.size : Int).toNat (0, 0))] := hK
 rw [Int.toNat_natCast, HPA.out] at hK'
 have hc1 := hcell 0 (encP (pos (bytesOf s))) (by rw [hK']; rfl)
 have e1 : (s.size : Int).toNat * kP.sz + 0 = s.size := by show (s.size : Int).toNat * 1 + 0 = s.size; omega
 rw [e1, add_plain] at hc1
 have HB1 := Aside0.mk HB
 rw [hpl]
 have i0 : IntKind.i64.wrap (((s.size + 1 : Nat) : Int) - 1) = (s.size : Int) := (IntWalk.i64_in _ (by omega)).trans (by omega)
 have i1 : ((s.size : Int) < ((s.size + 1 : Nat) : Int)) = True := eq_true (by omega)
 have i2 : (s.size < s.size + 1) = True := eq_true (by omega)
 clear hcell hK hK' hcs e1 hC HO HB hpl
 go_wp2_with fail
 go_ret
 exact ⟨rfl, HB1.out⟩
end Go.Proofs.YtibhenengpdahaaGreat.Wk

end
