/- The versions of a story without changes; whether its numbers rise. Conditions: how the events, the deeds lie in memory. -/
import Derived.Test.YtgnmpfjpcdidjaaStD
set_option linter.unusedVariables false
set_option linter.unusedSimpArgs false
namespace Go.Proofs.Ytgnmpfjpcdidjaa.P
open Go.RowKit Go.Proofs.YtgnmpfjpcdidjaaW.PrintWords Go.Proofs.YtgnmpfjpcdidjaaW.PrintLast Go.Proofs.YtgnmpfjpcdidjaaW.PrintMore

/-- Just the empty list of documents is told. -/
def OneVersion (base g : Nat) (w : World) : Prop := w.cell? ⟨g, 0, none⟩ = some (.slice none 0 0) ∧ base ≤ g
set_option maxRecDepth 100000 in
theorem versions_nil (w : World) : Calls Try.prog 11 #[.slice none 0 0] w fun e w' => ∃ g, e = .returned (.tuple #[.slice (some ⟨g, 0, none⟩) 1 1, .bool true]) ∧ OneVersion w.heap.size g w' ∧ Below w.heap.size w w' := by
  go_enter Try.func11, Try.ntmps11
  go_wp2_with fail
  refine (cloneD_none w).mono ?_
  rintro en w1 ⟨rfl, rfl⟩
  go_wp2_with fail
  refine (deleteD_none _ w1).mono ?_
  rintro en w2 ⟨rfl, rfl⟩
  go_wp2_with fail
  refine (sortStable_none none 0 w2).mono ?_
  rintro en w3 ⟨rfl, rfl⟩
  go_wp2_with fail
  refine wp_loop_rounds 1 ?_
  rw [rounds_succ]
  go_wp2_with fail
  go_ret2
  exact ⟨_, rfl, ⟨blk_cell' (blk_last rfl) 0, Nat.le_refl _⟩, below_alloc (Below.refl _ _) _⟩
set_option maxRecDepth 100000 in
theorem versions_one (m : Int) (gd c : Nat) (w : World) (hg : w.rangeAt gd 0 (deedL m)) : Calls Try.prog 11 #[.slice (some ⟨gd, 0, none⟩) 1 c] w fun e w' => ∃ g, e = .returned (.tuple #[.slice (some ⟨g, 0, none⟩) 1 1, .bool true]) ∧ OneVersion w.heap.size g w' ∧ Below w.heap.size w w' := by
  have CL := Aside0.mk (cloneD_one m gd c w hg)
  clear hg
  go_enter Try.func11, Try.ntmps11
  go_wp2_with fail
  refine CL.out.mono ?_
  rintro en w1 ⟨v, rfl, hR, hb⟩
  have DE := Aside0.mk (deleteD_one m v w w1 hb hR)
  clear hR hb CL
  go_wp2_with fail
  refine DE.out.mono ?_
  rintro en w2 ⟨A, c2, rfl, hb⟩
  have HB := Aside0.mk hb
  clear hb DE
  go_wp2_with fail
  refine (sortStable_none A c2 w2).mono ?_
  rintro en w3 ⟨rfl, rfl⟩
  go_wp2_with fail
  refine wp_loop_rounds 1 ?_
  rw [rounds_succ]
  go_wp2_with fail
  go_ret2
  exact ⟨_, rfl, ⟨blk_cell' (blk_last rfl) 0, HB.out.size⟩, below_alloc HB.out _⟩
theorem cmp_same (n : Int) : cmp_Compare_int.f n n = some 0 := by
  unfold cmp_Compare_int.f cmp_isNaN_int.f
  simp
/-- One event of a List. -/
def evA (r : Bool) (m : Int) : List Value := [.int .i64 0, .bool r, .int .i64 0, .int .i64 6, .int .i64 0, .int .i64 0, .int .i64 0, .int .i64 0, .string ⟨#[]⟩, .int .i64 0, .int .i64 0, .int .i64 m, .string ⟨#[]⟩, .slice none 0 0, .slice none 0 0, .slice none 0 0, .complex .f64 0 0]
theorem nowCmp_same (r r' : Bool) (m m' : Int) (w : World) : Calls Try.prog 25 #[.agg (evA r m).toArray, .agg (evA r' m').toArray] w fun e w' => e = .returned (.int .i64 0) ∧ Below w.heap.size w w' := by
  have CC := Aside0.mk (fun W => cmp_Compare_int.calls 0 0 0 W (cmp_same _))
  have HB := Aside0.mk (below_alloc (below_alloc (Below.refl w.heap.size w) (.cells (evA r m).toArray 33)) (.cells (evA r' m').toArray 33))
  unfold evA at HB ⊢
  go_enter Try.func25, Try.ntmps25
  go_wp2_with fail
  refine (CC.out _).mono ?_
  rintro en w1 ⟨rfl, hd⟩
  have HB1 := Aside0.mk (below_step HB.out (Drawn0.below hd))
  clear hd
  go_wp2_with fail
  go_ret
  exact ⟨rfl, HB1.out⟩
theorem sorted_none (F : Value) (w : World) : Calls Try.prog 24 #[.slice none 0 0, F] w fun e w' => e = .returned (.bool true) ∧ w' = w := by
  go_enter Try.func24, Try.ntmps24
  go_wp2_with fail
  refine wp_loop_rounds 1 ?_
  rw [rounds_succ]
  go_wp2_with fail
  go_ret
  exact ⟨rfl, rfl⟩
theorem sorted_one (A : Option Addr) (c : Nat) (F : Value) (w : World) : Calls Try.prog 24 #[.slice A 1 c, F] w fun e w' => e = .returned (.bool true) ∧ w' = w := by
  go_enter Try.func24, Try.ntmps24
  go_wp2_with fail
  refine wp_loop_rounds 1 ?_
  rw [rounds_succ]
  go_wp2_with fail
  go_ret
  exact ⟨rfl, rfl⟩
/-- A call of a function value without variables of its own. -/
theorem goesV_ {P : Program} {ops : Array Oper} {Q : Exit → Act → World → Prop} {oi : Oper} {N : Option Tmp} {a : Act} {w : World} {K : Act → World → Prop} {f : FuncId} {fn : Func} {zs : Array Operand} {ts : Array TypeId} {y : Tmp} (hf : P.funcs[f]? = some fn) (hname : (fn.name == "runtime.NumGoroutine") = false) (hb : fn.body.isSome = true) (args : Array Value)
    (hw : Region.wanted oi (yielded ops a.tmps) = true) (hN : oi.dst = N) (hop : oi.op = .call { callee := .value (.tmp y), args := zs, argTypes := ts }) (hv : a.eval (.tmp y) = .func (.func f) #[] #[]) (hargs : zs.map a.eval = args)
    (h : Calls P f args w fun e w' => ∃ v, e = .returned v ∧ K (a.put N v) w') : if Region.wanted oi (yielded ops a.tmps) = true then Oper.wp P oi a w K Q else K (a.put N undef) w := by
  refine call_ f args hw hN ?_ h
  have he := enters_ hf hname hb args w
  unfold execOp
  simp [hop, resolve, Deferred.ofValue, invoke, hv, hargs, he]
end Go.Proofs.Ytgnmpfjpcdidjaa.P
