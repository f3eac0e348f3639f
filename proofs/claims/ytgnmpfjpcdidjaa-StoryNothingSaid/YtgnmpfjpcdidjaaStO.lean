/- Where a List comes in an order: the closures; one cell stored. Conditions: how the events lie in memory. -/
import Derived.Test.YtgnmpfjpcdidjaaStN
set_option linter.unusedVariables false
set_option linter.unusedSimpArgs false
namespace Go.Proofs.Ytgnmpfjpcdidjaa.P
open Go.RowKit Go.Proofs.YtgnmpfjpcdidjaaW.PrintWords Go.Proofs.YtgnmpfjpcdidjaaW.PrintLast Go.Proofs.YtgnmpfjpcdidjaaW.PrintMore

theorem max_zero (W : World) : (Builtin.max_ #[3, 3] 3 #[.int .i64 0, .int .i64 0]).run Try.prog W = .ok (.int .i64 0) W := by kernel_rfl
theorem max_one (W : World) : (Builtin.max_ #[3, 3] 3 #[.int .i64 0, .int .i64 1]).run Try.prog W = .ok (.int .i64 1) W := by kernel_rfl
set_option maxRecDepth 100000 in
theorem since_calls (r : Bool) (m : Int) (p : Nat) (w : World) (hp : w.cell? ⟨p, 0, none⟩ = some (.int .i64 0)) : Calls Try.prog 32 #[.agg (evA r m).toArray, .pointer (some ⟨p, 0, none⟩)] w fun e w' => e = .returned (.bool true) ∧ Below w.heap.size w w' := by
  have HB := Aside0.mk (below_alloc (Below.refl w.heap.size w) (.cells (evA r m).toArray 33))
  have c0 : (w.alloc (.cells (evA r m).toArray 33)).cell? ⟨p, 0, none⟩ = some (.int .i64 0) := pw_cell_below (below_alloc (Below.refl w.heap.size w) _) hp
  clear hp
  unfold evA at HB c0 ⊢
  go_enter Try.func32, Try.ntmps32
  go_wp2_with fail
  go_ret
  exact ⟨rfl, HB.out⟩
set_option maxRecDepth 100000 in
theorem firstAt_calls (m : Int) (g c p : Nat) (w : World) (hg : w.rangeAt g 0 (evA false m)) (hp : w.cell? ⟨p, 0, none⟩ = some (.int .i64 0)) : Calls Try.prog 31 #[.slice (some ⟨g, 0, none⟩) 2 c, .func (.func 32) #[] #[.pointer (some ⟨p, 0, none⟩)]] w fun e w' => e = .returned (.int .i64 0) ∧ Below w.heap.size w w' := by
  have SI := Aside0.mk (since_calls false m p w hp)
  have HG := Aside0.mk hg
  clear hg hp
  unfold evA at SI HG
  go_enter Try.func31, Try.ntmps31
  go_wp2_with fail
  refine wp_loop_rounds 1 ?_
  rw [rounds_succ]
  go_wp2_with (first | (refine wpList_load_mid rfl 33 (.tmp 14) rfl g 0 rfl _ _ HG.out Try.underlying33 rfl (by kernel_rfl) ?_))
  refine SI.out.mono ?_
  rintro en w1 ⟨rfl, hb⟩
  have HB := Aside0.mk hb
  clear hb
  go_wp2_with fail
  go_ret
  exact ⟨rfl, HB.out⟩
set_option maxRecDepth 100000 in
theorem begun_calls (m : Int) (g c pl : Nat) (w : World) (hg : w.rangeAt g 0 (evA false m)) (hl : w.cell? ⟨pl, 0, none⟩ = some (.slice (some ⟨g, 0, none⟩) 2 c)) : Calls Try.prog 30 #[.int .i64 0, .pointer (some ⟨pl, 0, none⟩)] w fun e w' => e = .returned (.int .i64 0) ∧ Below w.heap.size w w' := by
  obtain ⟨X, hX⟩ : ∃ X, w.alloc (.cells #[.int .i64 0] 3) = X := ⟨_, rfl⟩
  have hb : Below w.heap.size w X := by rw [← hX]; exact below_alloc (Below.refl _ _) _
  have FA := Aside0.mk (firstAt_calls m g c w.heap.size X (ra_below hg hb) (by rw [← hX]; exact blk_cell' (blk_last rfl) 0))
  have c0 : X.cell? ⟨pl, 0, none⟩ = some (.slice (some ⟨g, 0, none⟩) 2 c) := pw_cell_below hb hl
  rw [← hX] at c0
  have HX := Aside0.mk hX
  have HB := Aside0.mk hb
  have mz := max_zero
  clear hg hl hX hb
  go_enter Try.func30, Try.ntmps30
  go_wp2_with fail
  rw [HX.out]
  refine FA.out.mono ?_
  rintro en w1 ⟨rfl, hb⟩
  have HB1 := Aside0.mk (below_step HB.out hb)
  clear hb c0
  go_wp2_with fail
  go_ret
  exact ⟨rfl, HB1.out⟩
/-- One cell is stored. -/
theorem put_cell {W : World} {p o : Nat} {cs : Array Value} {t : TypeId} (hb : W.heap[p]? = some (.cells cs t (0, 0))) (ho : o < cs.size) (x : Int) :
    ∃ W1, (Instr.storeAt 3 (.pointer (some ⟨p, o, none⟩)) (.int .i64 x)).run Try.prog W = .ok () W1 ∧ W1.heap[p]? = some (.cells (cs.setIfInBounds o (.int .i64 x)) t (0, 0)) ∧ (∀ k, k ≠ p → W1.heap[k]? = W.heap[k]?) ∧ W1.os = W.os ∧ W1.tape = W.tape ∧ W1.output = W.output ∧ W1.heap.size = W.heap.size := by
  have hi : ((Try.prog).info? 3).map (·.size) = some ([Value.int .i64 x] : List Value).length := by kernel_rfl
  have hr := run_store_run (P := Try.prog) (o := o) 3 (.int .i64 x) [.int .i64 x] hb (by simp [Value.cells]) hi (by simp; omega) (by simp [Value.oneCell'])
  obtain ⟨cur', h3, h4, h5⟩ := setCells_row [.int .i64 x] o W cs hb (by simp; omega)
  obtain ⟨s1, s2, s3, s4⟩ := setCells_same p [.int .i64 x] o W
  refine ⟨_, hr, ?_, fun k hk => setCells_far [.int .i64 x] o k hk, s1, s2, s3, s4⟩
  have e : cur' = cs.setIfInBounds o (.int .i64 x) := by
    apply Array.ext'
    rw [h5]
    simp [List.set_eq_take_append_cons_drop]
    omega
  rw [← e]
  exact h3
/-- Nothing but block p is turned. -/
structure JustAt (W W1 : World) (p : Nat) : Prop where
  mk :: (far : ∀ k, k ≠ p → W1.heap[k]? = W.heap[k]?) (os : W1.os = W.os) (tape : W1.tape = W.tape) (output : W1.output = W.output) (size : W1.heap.size = W.heap.size)
theorem put_just {W : World} {p o : Nat} {cs : Array Value} {t : TypeId} (hb : W.heap[p]? = some (.cells cs t (0, 0))) (ho : o < cs.size) (x : Int) :
    ∃ W1, (Instr.storeAt 3 (.pointer (some ⟨p, o, none⟩)) (.int .i64 x)).run Try.prog W = .ok () W1 ∧ W1.heap[p]? = some (.cells (cs.setIfInBounds o (.int .i64 x)) t (0, 0)) ∧ JustAt W W1 p := by
  obtain ⟨W1, h1, h2, h3, h4, h5, h6, h7⟩ := put_cell hb ho x
  exact ⟨W1, h1, h2, h3, h4, h5, h6, h7⟩
theorem JustAt.below {w W W1 : World} {p base : Nat} (h : JustAt W W1 p) (hb : Below base w W) (hp : base ≤ p) : Below base w W1 :=
  ⟨h.os.trans hb.os, h.tape.trans hb.tape, h.output.trans hb.output, by rw [h.size]; exact hb.size, fun k hk => (h.far k (by omega)).trans (hb.block k hk)⟩
theorem JustAt.cell {W W1 : World} {p b o : Nat} {v : Value} (h : JustAt W W1 p) (hn : b ≠ p) (hc : W.cell? ⟨b, o, none⟩ = some v) : W1.cell? ⟨b, o, none⟩ = some v := by
  rw [← hc]
  unfold World.cell?
  dsimp only
  rw [h.far b hn]
theorem store_runs {P : Program} {o : Oper} {a : Act} {W W1 : World} {t : TypeId} {p x : Operand} {ad v : Value} (ho : o.op = .store t p x) (hp : a.eval p = ad) (hx : a.eval x = v) (h : (Instr.storeAt t ad v).run P W = .ok () W1) : (execOp a.eval o).run P W = .ok .skip W1 := by
  unfold execOp
  simp [ho, hp, hx, h, Result.andThen]
/-- A call of a function value with variables of its own. -/
theorem goesC_ {P : Program} {ops : Array Oper} {Q : Exit → Act → World → Prop} {oi : Oper} {N : Option Tmp} {a : Act} {w : World} {K : Act → World → Prop} {f : FuncId} {fn : Func} {zs : Array Operand} {ts : Array TypeId} {y : Tmp} (hf : P.funcs[f]? = some fn) (hname : (fn.name == "runtime.NumGoroutine") = false) (hb : fn.body.isSome = true) (args fr : Array Value)
    (hw : Region.wanted oi (yielded ops a.tmps) = true) (hN : oi.dst = N) (hop : oi.op = .call { callee := .value (.tmp y), args := zs, argTypes := ts }) (hv : a.eval (.tmp y) = .func (.func f) #[] fr) (hargs : zs.map a.eval = args)
    (h : Calls P f (args ++ fr) w fun e w' => ∃ v, e = .returned v ∧ K (a.put N v) w') : if Region.wanted oi (yielded ops a.tmps) = true then Oper.wp P oi a w K Q else K (a.put N undef) w := by
  refine call_ f (args ++ fr) hw hN ?_ h
  have he := enters_ hf hname hb (args ++ fr) w
  unfold execOp
  simp [hop, resolve, Deferred.ofValue, invoke, hv, hargs, he]
theorem look_pins (b : Nat) (k : Int) (w : World) (h : w.heap[b]? = some (.map #[] 0)) : (Instr.lookup 71 (.map (some b)) (.int .i64 k) false).run Try.prog w = .ok (.pointer none) w := by
  have hg : (getObj b).run Try.prog w = .ok (.map #[] 0) w := Go.MapKept.run_getObj_map h
  have hc : ∀ e, (Instr.checkKey e 10000 3 (.int .i64 k)).run Try.prog w = .ok () w := fun e => Go.MapKept.run_checkKey Try.underlying3 (by simp [Go.MapKept.IsKey]) _ 9999
  have hk := Go.MapKept.run_findKey (P := Try.prog) (w := w) (l := []) (a := none) (k := .int .i64 k) Try.underlying3 rfl
  have hz : (zeroValue 78).run Try.prog w = .ok (.pointer none) w := by kernel_rfl
  unfold Instr.lookup
  simp [run_underlying Try.underlying71, hg, hc, hk, hz, Result.andThen]
theorem where_results (W : World) (b : Nat) (cs : List Value) (hn : cs.length = 4) (hb : W.rangeAt b 0 cs) (tmps : Array Value) (h4 : tmps[6]?.getD undef = .pointer (some ⟨b, 0, none⟩)) :
    (results Try.f13 tmps).run Try.prog W = .ok (.agg cs.toArray) W := by
  have hr : (Try.f13).results = #[.cell 6 55] := rfl
  have hl := row_at 55 _ 4 Try.underlying55 rfl (by kernel_rfl) W b cs hn hb
  have ha : (asAddr (tmps[6]?.getD undef)).run Try.prog W = .ok ⟨b, 0, none⟩ W := by rw [h4]; rfl
  simp [results, hr]
  rw [ha]
  simp only [Result.andThen]
  rw [hl]
end Go.Proofs.Ytgnmpfjpcdidjaa.P
