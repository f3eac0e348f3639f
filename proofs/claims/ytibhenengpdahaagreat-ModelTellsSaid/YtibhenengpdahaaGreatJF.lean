/- The function Answer of package model: what is refused. Conditions: how the list lies in memory, and its length. -/
import Derived.Test.YtibhenengpdahaaGreatChange
import Derived.Test.YtibhenengpdahaaGreatJA
section
set_option linter.unusedVariables false
set_option linter.unusedSimpArgs false
namespace Go.Proofs.YtibhenengpdahaaGreat.P
open Go.RowKit Go.Proofs.YtibhenengpdahaaGreatW.PrintWords Go.Proofs.YtibhenengpdahaaGreatW.PrintLast Go.Proofs.YtibhenengpdahaaGreatW.PrintMore

/-- A reply's cells. -/
def repCells (errno n : Int) (text : ByteArray) (spots docs lens at_ : Value) : List Value := [.int .i64 errno, .int .i64 0, .int .i64 n, .string text, spots, docs, lens, at_]
def nilS : Value := .slice none 0 0
def zeroC : Value := .complex .f64 0 0
theorem rep_load (W : World) (b : Nat) (cs : Array Value) (hn : cs.size = 8) (hb : W.heap[b]? = some (.cells cs 34 (0, 0))) : (loadVar 34 ⟨b, 0, none⟩).run Tryz.prog W = .ok (.agg cs) W := by
 have hs : (isAgg 34).run Tryz.prog W = .ok true W := by kernel_rfl
 have hz : (sizeOf 34).run Tryz.prog W = .ok 8 W := by kernel_rfl
 have hl : (loadCells ⟨b, 0, none⟩ 8).run Tryz.prog W = .ok cs W := by
  have h := run_loadCells_list (P := Tryz.prog) W ⟨b, 0, none⟩ cs.toList (fun j v hj => by
   rw [add_at, Nat.zero_add]
   unfold World.cell?
   dsimp only
   rw [hb]
   simpa using hj)
  simp [hn] at h
  exact h
 unfold loadVar
 simp [hs, hz, hl, Result.andThen]
theorem ans_results (W : World) (b : Nat) (cs : Array Value) (hn : cs.size = 8) (hb : W.heap[b]? = some (.cells cs 34 (0, 0))) (tmps : Array Value) (h4 : tmps[4]?.getD undef = .pointer (some ⟨b, 0, none⟩)) :
  (results Tryz.f6 tmps).run Tryz.prog W = .ok (.agg cs) W := by
 have hr : (Tryz.f6).results = #[.cell 4 34] := rfl
 have hl := rep_load W b cs hn hb
 have ha : (asAddr (tmps[4]?.getD undef)).run Tryz.prog W = .ok ⟨b, 0, none⟩ W := by rw [h4]; rfl
 simp [results, hr]
 rw [ha]
 simp only [Result.andThen]
 rw [hl]
theorem store_runs {P : Program} {o : Oper} {a : Act} {W W1 : World} {t : TypeId} {p x : Operand} {ad v : Value} (ho : o.op = .store t p x) (hp : a.eval p = ad) (hx : a.eval x = v) (h : (Instr.storeAt t ad v).run P W = .ok () W1) : (execOp a.eval o).run P W = .ok .skip W1 := by
 unfold execOp
 simp [ho, hp, hx, h, Result.andThen]
/-- A whole reply is stored. -/
theorem rep_put {W : World} {b : Nat} {old : Array Value} (cs : List Value) (hb : W.heap[b]? = some (.cells old 34 (0, 0))) (ho : old.size = 8) (hn : cs.length = 8) (h1 : ∀ v ∈ cs, v.oneCell' = true) (base : Nat) (hbase : base ≤ b) :
  ∃ w1, (Instr.storeAt 34 (.pointer (some ⟨b, 0, none⟩)) (.agg cs.toArray)).run Tryz.prog W = .ok () w1 ∧ w1.heap[b]? = some (.cells cs.toArray 34 (0, 0)) ∧ Below base W w1 := by
 have hi : ((Tryz.prog).info? 34).map (·.size) = some cs.length := by rw [hn]; kernel_rfl
 have hr := run_store_run (P := Tryz.prog) (o := 0) 34 (.agg cs.toArray) cs hb (by simp [Value.cells]) hi (by omega) h1
 obtain ⟨cur', h3, h4, h5⟩ := setCells_row cs 0 W old hb (by omega)
 obtain ⟨s1, s2, s3, s4⟩ := setCells_same b cs 0 W
 refine ⟨_, hr, ?_, ⟨s1, s2, s3, by rw [s4]; exact Nat.le_refl _, fun k hk => setCells_far cs 0 k (show k ≠ b by omega)⟩⟩
 have e : cur' = cs.toArray := by
  apply Array.ext'
  rw [h5, List.take_zero, List.nil_append, List.drop_eq_nil_of_le (by rw [Array.length_toList]; omega), List.append_nil]
 rw [← e]
 exact h3
def badCells : List Value := repCells 1 0 ⟨#[]⟩ nilS nilS nilS zeroC
set_option maxRecDepth 100000 in
set_option maxHeartbeats 4000000 in
theorem answer_bad (A0 : Option Addr) (c0 : Nat) (l0 : List S27) (kind id fr tt snap : Int) (text : ByteArray) (w : World) (hr0 : Kd.C k27 w A0 l0.length l0) (hc0 : l0.length ≤ c0) (hl : l0.length ≤ 1000000) (hbad : mayB l0 kind id fr tt snap text = false ∨ kind < 3 ∨ 7 < kind) :
  Calls Tryz.prog 6 #[.slice A0 l0.length c0, .agg #[.int .i64 kind, .int .i64 id, .int .i64 fr, .int .i64 tt, .int .i64 snap, .string text]] w fun e w' =>
   e = .returned (.agg (repCells 1 0 ⟨#[]⟩ nilS nilS nilS zeroC).toArray) ∧ Below w.heap.size w w' := by
 have MR := Aside0.mk (fun w' (hr : Kd.C k27 w' A0 l0.length l0) => model_Right.calls (2 * l0.length + 2) A0 c0 l0 (modelB l0) w' hr hc0 (modelRight_ok l0 hl _ (Nat.le_refl _)))
 have AR := Aside0.mk (ask_Right.told kind id fr tt snap text)
 have HR := Aside0.mk hr0
 have HZ := Aside0.mk hbad
 obtain ⟨W1, hW1⟩ : ∃ W1, w.alloc (.cells #[.int .i64 kind, .int .i64 id, .int .i64 fr, .int .i64 tt, .int .i64 snap, .string text] 24) = W1 := ⟨_, rfl⟩
 have HB1 : Aside0 (Below w.heap.size w W1) := ⟨by rw [← hW1]; exact below_alloc (Below.refl _ _) _⟩
 have g0 : Aside0 (W1.cell? ⟨w.heap.size, 0, none⟩ = some (.int .i64 kind)) := ⟨by rw [← hW1]; exact cell_newA w _ _ 0 _ rfl⟩
 have g1 : Aside0 (W1.cell? ⟨w.heap.size, 1, none⟩ = some (.int .i64 id)) := ⟨by rw [← hW1]; exact cell_newA w _ _ 1 _ rfl⟩
 have g2 : Aside0 (W1.cell? ⟨w.heap.size, 2, none⟩ = some (.int .i64 fr)) := ⟨by rw [← hW1]; exact cell_newA w _ _ 2 _ rfl⟩
 have g3 : Aside0 (W1.cell? ⟨w.heap.size, 3, none⟩ = some (.int .i64 tt)) := ⟨by rw [← hW1]; exact cell_newA w _ _ 3 _ rfl⟩
 have g4 : Aside0 (W1.cell? ⟨w.heap.size, 4, none⟩ = some (.int .i64 snap)) := ⟨by rw [← hW1]; exact cell_newA w _ _ 4 _ rfl⟩
 have g5 : Aside0 (W1.cell? ⟨w.heap.size, 5, none⟩ = some (.string text)) := ⟨by rw [← hW1]; exact cell_newA w _ _ 5 _ rfl⟩
 have W1E := Aside0.mk hW1
 clear hr0 hc0 hl hbad
 go_enter Tryz.func6, Tryz.ntmps6
 go_wp2_with fail
 try rw [W1E.out]
 obtain ⟨b4, hb4⟩ : ∃ b4, W1.heap.size = b4 := ⟨_, rfl⟩
 have hb5 : w.heap.size + 1 = b4 := by rw [← hb4, ← W1E.out]; exact (Array.size_push _).symm
 obtain ⟨W2, hW2⟩ : ∃ W2, W1.alloc (.cells (repCells 0 0 ⟨#[]⟩ nilS nilS nilS zeroC).toArray 34) = W2 := ⟨_, rfl⟩
 have hr2 : W2.heap[b4]? = some (.cells (repCells 0 0 ⟨#[]⟩ nilS nilS nilS zeroC).toArray 34 (0, 0)) := by rw [← hW2, ← hb4]; exact heap_alloc_new _ _
 have HB12 : Aside0 (Below W1.heap.size W1 W2) := ⟨by rw [← hW2]; exact below_alloc (Below.refl _ _) _⟩
 change Calls _ _ _ (W1.alloc (.cells (repCells 0 0 ⟨#[]⟩ nilS nilS nilS zeroC).toArray 34)) _
 rw [hW2, hb4]
 refine (MR.out _ (Kd.C_below HR.out (below_step HB1.out HB12.out))).mono ?_
 rintro en w3 ⟨rfl, hb⟩
 have HB13 := Aside0.mk (below_step HB12.out hb)
 have hr3 := blk_below hr2 hb
 have HB3 := Aside0.mk (below_step HB1.out HB13.out)
 clear hW2 hb
 all_goals skip
 cases e1 : modelB l0 with
 | false =>
  obtain ⟨wz, hrs, hz, hbz⟩ := rep_put badCells hr3 rfl rfl (by simp [badCells, repCells, nilS, zeroC, Value.oneCell']) w.heap.size (by omega)
  have RS := Aside0.mk hrs
  have HBz := Aside0.mk (HB3.out.trans hbz)
  clear hrs hbz
  go_wp2_with (first
   | ((with_reducible refine gate_store (t := 34) (p := 4) (v := .tmp 29) rfl ?_); refine store_event (t := 34) (p := 4) (v := .tmp 29) (w1 := wz) rfl rfl rfl ?hr ?_; (case hr => exact store_runs rfl rfl rfl RS.out); intro w9 hw; subst hw))
  exact bodyPost_ret (ans_results _ b4 badCells.toArray rfl hz _ rfl) rfl ⟨rfl, HBz.out⟩
 | true =>
  have k0 := pw_cell_below HB13.out g0.out
  have k1 := pw_cell_below HB13.out g1.out
  have k2 := pw_cell_below HB13.out g2.out
  have k3 := pw_cell_below HB13.out g3.out
  have k4 := pw_cell_below HB13.out g4.out
  have k5 := pw_cell_below HB13.out g5.out
  go_wp2_with fail
  refine (AR.out _).mono ?_
  rintro en w4 ⟨rfl, hb⟩
  have HB14 := Aside0.mk (below_step HB13.out hb)
  have HB4 := Aside0.mk (below_step HB3.out hb)
  have hr4 := blk_below hr3 hb
  clear hb k0 k1 k2 k3 k4 k5
  cases e2 : askB kind id fr tt snap text with
  | false =>
   obtain ⟨wz, hrs, hz, hbz⟩ := rep_put badCells hr4 rfl rfl (by simp [badCells, repCells, nilS, zeroC, Value.oneCell']) w.heap.size (by omega)
   have RS := Aside0.mk hrs
   have HBz := Aside0.mk (HB4.out.trans hbz)
   clear hrs hbz
   go_wp2_with (first
    | ((with_reducible refine gate_store (t := 34) (p := 4) (v := .tmp 29) rfl ?_); refine store_event (t := 34) (p := 4) (v := .tmp 29) (w1 := wz) rfl rfl rfl ?hr ?_; (case hr => exact store_runs rfl rfl rfl RS.out); intro w9 hw; subst hw))
   exact bodyPost_ret (ans_results _ b4 badCells.toArray rfl hz _ rfl) rfl ⟨rfl, HBz.out⟩
  | true =>
   have k0 := pw_cell_below HB14.out g0.out
   have hz := HZ.out
   unfold mayB at hz
   rw [e1, e2] at hz
   by_cases h1 : kind < 3
   ·have t1 : decide (kind < 3) = true := decide_eq_true h1
    clear hz
    obtain ⟨wz, hrs, hz, hbz⟩ := rep_put badCells hr4 rfl rfl (by simp [badCells, repCells, nilS, zeroC, Value.oneCell']) w.heap.size (by omega)
    have RS := Aside0.mk hrs
    have HBz := Aside0.mk (HB4.out.trans hbz)
    clear hrs hbz
    go_wp2_with (first
     | ((with_reducible refine gate_store (t := 34) (p := 4) (v := .tmp 29) rfl ?_); refine store_event (t := 34) (p := 4) (v := .tmp 29) (w1 := wz) rfl rfl rfl ?hr ?_; (case hr => exact store_runs rfl rfl rfl RS.out); intro w9 hw; subst hw))
    exact bodyPost_ret (ans_results _ b4 badCells.toArray rfl hz _ rfl) rfl ⟨rfl, HBz.out⟩
   ·have t1 : decide (kind < 3) = false := decide_eq_false h1
    have t2 : decide (7 < kind) = true := decide_eq_true (by rcases hz with h | h | h; cases h; omega; exact h)
    clear hz
    obtain ⟨wz, hrs, hz, hbz⟩ := rep_put badCells hr4 rfl rfl (by simp [badCells, repCells, nilS, zeroC, Value.oneCell']) w.heap.size (by omega)
    have RS := Aside0.mk hrs
    have HBz := Aside0.mk (HB4.out.trans hbz)
    clear hrs hbz
    go_wp2_with (first
     | ((with_reducible refine gate_store (t := 34) (p := 4) (v := .tmp 29) rfl ?_); refine store_event (t := 34) (p := 4) (v := .tmp 29) (w1 := wz) rfl rfl rfl ?hr ?_; (case hr => exact store_runs rfl rfl rfl RS.out); intro w9 hw; subst hw))
    exact bodyPost_ret (ans_results _ b4 badCells.toArray rfl hz _ rfl) rfl ⟨rfl, HBz.out⟩
end Go.Proofs.YtibhenengpdahaaGreat.P

end
section
namespace Go.Proofs.YtibhenengpdahaaGreat.P
open Go.RowKit Go.Proofs.YtibhenengpdahaaGreatW.PrintWords Go.Proofs.YtibhenengpdahaaGreatW.PrintLast Go.Proofs.YtibhenengpdahaaGreatW.PrintMore
set_option linter.unusedVariables false
set_option linter.unusedSimpArgs false

/-! ### stringslite_HasPrefix: function 98 -/
def stringslite_HasPrefix.f (a0 : ByteArray) (a1 : ByteArray) : Option (Bool) := if (a0.size : Int) ≥ (a1.size : Int) then (if 0 ≤ (a1.size : Int) then (if (a1.size : Int) ≤ (a0.size : Int) then (some ((a0.extract 0 ((a1.size : Int) : Int).toNat).toList == a1.toList)) else (none)) else (none)) else (some false)
set_option maxHeartbeats 8000000 in
set_option maxRecDepth 100000 in
theorem stringslite_HasPrefix.calls (a0 : ByteArray) (a1 : ByteArray) (r : Bool) (w : World) (h : stringslite_HasPrefix.f a0 a1 = some r) :
  Calls Tryz.prog 98 #[.string a0, .string a1] w fun e w' => e = .returned (.bool r) ∧ Drawn0 w w' := by
 have H : (if (a0.size : Int) ≥ (a1.size : Int) then (if 0 ≤ (a1.size : Int) then (if (a1.size : Int) ≤ (a0.size : Int) then (some ((a0.extract 0 ((a1.size : Int) : Int).toNat).toList == a1.toList)) else (none)) else (none)) else (some false)) = some r := h
 clear h
 by_cases c3 : (a0.size : Int) ≥ (a1.size : Int)
 ·rw [if_pos c3] at H
  have c3b0 : decide ((a1.size : Int) ≤ (a0.size : Int)) = true := decide_eq_true c3
  have c3b1 : decide (a1.size ≤ a0.size) = true := decide_eq_true (Int.ofNat_le.mp c3)
  clear c3
  by_cases c4 : 0 ≤ (a1.size : Int)
  ·rw [if_pos c4] at H
   have c4b0 := eq_true c4
   have c4b1 : decide (0 ≤ (a1.size : Int)) = true := decide_eq_true c4
   clear c4
   by_cases c5 : (a1.size : Int) ≤ (a0.size : Int)
   ·rw [if_pos c5] at H
    have c5b0 := eq_true c5
    have c5b1 : decide ((a1.size : Int) ≤ (a0.size : Int)) = true := decide_eq_true c5
    clear c5
    obtain rfl := Option.some.inj H
    go_enter Tryz.func98, Tryz.ntmps98
    go_wp2
    go_ret
    exact ⟨by first | rfl | (simp; done) | (simp [*]; done), by repeat (first | exact Drawn0.refl _ | apply Drawn0.step)⟩
   ·rw [if_neg c5] at H
    exact absurd H (by simp)
  ·rw [if_neg c4] at H
   exact absurd H (by simp)
 ·rw [if_neg c3] at H
  have c3b0 : decide ((a1.size : Int) ≤ (a0.size : Int)) = false := decide_eq_false c3
  have c3b1 : decide (a1.size ≤ a0.size) = false := decide_eq_false (fun h => c3 (Int.ofNat_le.mpr h))
  clear c3
  obtain rfl := Option.some.inj H
  go_enter Tryz.func98, Tryz.ntmps98
  go_wp2
  go_ret
  exact ⟨by first | rfl | (simp; done) | (simp [*]; done), by repeat (first | exact Drawn0.refl _ | apply Drawn0.step)⟩

/-! ### strings_HasPrefix: function 73 -/
def strings_HasPrefix.f (a0 : ByteArray) (a1 : ByteArray) : Option (Bool) := (stringslite_HasPrefix.f a0 a1).bind fun t101 => (some t101)
set_option maxHeartbeats 8000000 in
set_option maxRecDepth 100000 in
theorem strings_HasPrefix.calls (a0 : ByteArray) (a1 : ByteArray) (r : Bool) (w : World) (h : strings_HasPrefix.f a0 a1 = some r) :
  Calls Tryz.prog 73 #[.string a0, .string a1] w fun e w' => e = .returned (.bool r) ∧ Drawn0 w w' := by
 have H : ((stringslite_HasPrefix.f a0 a1).bind fun t101 => (some t101)) = some r := h
 clear h
 replace H := Option.bind_eq_some_iff.mp H
 obtain ⟨t101, A30, H⟩ := H
 replace H : (some t101) = some r := H
 have A3 := Aside0.mk A30
 clear A30
 obtain rfl := Option.some.inj H
 go_enter Tryz.func73, Tryz.ntmps73
 go_wp2_with (first | ((with_reducible refine gate_callee (f := 98) rfl ?_); refine goesL_ (some 7) rfl rfl Tryz.func98 (by kernel_rfl) rfl #[.string a0, .string a1] rfl (by (try simp only [List.map_toArray, List.map_cons, List.map_nil]); first | done | rfl | (simp only [List.length_drop, List.length_take]; rfl)) ?_; (with_reducible refine (stringslite_HasPrefix.calls a0 a1 t101 _ A3.out).mono ?_); rintro e w' ⟨rfl, ⟨nd, rfl⟩⟩; refine ⟨_, rfl, ?_⟩))
 go_ret
 exact ⟨by first | rfl | (simp; done) | (simp [*]; done), by repeat (first | exact Drawn0.refl _ | apply Drawn0.step)⟩

end Go.Proofs.YtibhenengpdahaaGreat.P

end
