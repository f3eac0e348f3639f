/- deeds: which requests of a story are over. Conditions: the story has at most two events. -/
import Derived.Test.YtgnmpfjpcdidjaaStA
import Derived.ChangeMaps5
import Derived.MapKept
import Derived.LoopN
import Derived.Deep.WholeRow
import Derived.Deep.MidRow
set_option linter.unusedVariables false
set_option linter.unusedSimpArgs false
namespace Go.Proofs.Ytgnmpfjpcdidjaa.P
open Go.RowKit Go.Proofs.YtgnmpfjpcdidjaaW.PrintWords Go.Proofs.YtgnmpfjpcdidjaaW.PrintLast Go.Proofs.YtgnmpfjpcdidjaaW.PrintMore
open Go.MapKept
open Go.ChangeMaps (setBlock heap_setBlock_same heap_setBlock_other)

def entI (k v : Int) : MapEntry := { key := .int .i64 k, val := .int .i64 v, born := 0 }
/-- A map of whole numbers, as it is looked into. -/
theorem look_map (b : Nat) (k : Int) (es : Array MapEntry) (c : Nat) (r : Option (Nat × Value)) (w : World) (h : w.heap[b]? = some (.map es c)) (hf : Instr.findNow (.int .i64) (.int .i64 k) es.toList 0 = some r) :
    (Instr.lookup 59 (.map (some b)) (.int .i64 k) true).run Try.prog w = .ok (match r with | some (_, v) => .tuple #[v, .bool true] | none => .tuple #[.int .i64 0, .bool false]) w := by
  have hg : (getObj b).run Try.prog w = .ok (.map es c) w := Go.MapKept.run_getObj_map h
  have hc : (Instr.checkKey es.isEmpty 10000 3 (.int .i64 k)).run Try.prog w = .ok () w := run_checkKey Try.underlying3 (by simp [IsKey]) _ 9999
  have hk := run_findKey (P := Try.prog) (w := w) Try.underlying3 hf
  have hz : (zeroValue 3).run Try.prog w = .ok (.int .i64 0) w := by kernel_rfl
  unfold Instr.lookup
  cases r <;> simp [run_underlying Try.underlying59, hg, hc, hk, hz, Result.andThen]
theorem look_empty (b : Nat) (k : Int) (w : World) (h : w.heap[b]? = some (.map #[] 0)) : (Instr.lookup 59 (.map (some b)) (.int .i64 k) true).run Try.prog w = .ok (.tuple #[.int .i64 0, .bool false]) w := look_map b k #[] 0 none w h rfl
theorem look_one (b : Nat) (k v : Int) (w : World) (h : w.heap[b]? = some (.map #[entI k v] 1)) : (Instr.lookup 59 (.map (some b)) (.int .i64 k) true).run Try.prog w = .ok (.tuple #[.int .i64 v, .bool true]) w :=
  look_map b k #[entI k v] 1 (some (0, .int .i64 v)) w h (by simp [Instr.findNow, Instr.sameNow, entI])
theorem put_empty (b : Nat) (k v : Int) (w : World) (h : w.heap[b]? = some (.map #[] 0)) : (Instr.mapUpdate 59 (.map (some b)) (.int .i64 k) (.int .i64 v)).run Try.prog w = .ok () (setBlock w b (.map #[entI k v] 1)) := by
  have hg : (getObj b).run Try.prog w = .ok (.map #[] 0) w := Go.MapKept.run_getObj_map h
  have hc : ∀ e, (Instr.checkKey e 10000 3 (.int .i64 k)).run Try.prog w = .ok () w := fun e => run_checkKey Try.underlying3 (by simp [IsKey]) _ 9999
  have hk := run_findKey (P := Try.prog) (w := w) (l := []) (a := none) (k := .int .i64 k) Try.underlying3 rfl
  have hs : ∀ o : Obj, (setObj b o).run Try.prog w = .ok () { w with heap := w.heap.setIfInBounds b o } := fun o => Go.MapKept.run_setObj_map o h
  unfold Instr.mapUpdate
  simp [run_underlying Try.underlying59, hg, hc, hk, hs, Result.andThen, setBlock, entI]
theorem del_one (b : Nat) (k v : Int) (ty : TypeId) (w : World) (h : w.heap[b]? = some (.map #[entI k v] 1)) : (Builtin.delete_ #[59, 3] ty #[.map (some b), .int .i64 k]).run Try.prog w = .ok (.tuple #[]) (setBlock w b (.map #[] 1)) := by
  have hg : (getObj b).run Try.prog w = .ok (.map #[entI k v] 1) w := Go.MapKept.run_getObj_map h
  have hc : ∀ e, (Instr.checkKey e 10000 3 (.int .i64 k)).run Try.prog w = .ok () w := fun e => run_checkKey Try.underlying3 (by simp [IsKey]) _ 9999
  have hk := run_findKey (P := Try.prog) (w := w) (l := [entI k v]) (a := some (0, .int .i64 v)) (k := .int .i64 k) Try.underlying3 (by simp [Instr.findNow, Instr.sameNow, entI])
  have hs : ∀ o : Obj, (setObj b o).run Try.prog w = .ok () { w with heap := w.heap.setIfInBounds b o } := fun o => Go.MapKept.run_setObj_map o h
  unfold Builtin.delete_
  simp [run_underlying Try.underlying59, hg, hc, hk, hs, Result.andThen, setBlock]
theorem deeds_none (w : World) : Calls Try.prog 10 #[.slice none 0 0] w fun e w' => e = .returned (.tuple #[.slice none 0 0, .bool true]) ∧ Below w.heap.size w w' := by
  have hmm := @run_makeMap Try.prog
  go_enter Try.func10, Try.ntmps10
  go_wp2_with fail
  refine wp_loop_rounds 1 ?_
  rw [rounds_succ]
  go_wp2_with fail
  go_ret2
  exact ⟨rfl, below_alloc (Below.refl _ _) _⟩
/-- The cells of one event. -/
def Ev.cells (e : Ev) : Array Value := #[.int .i64 e.client, .bool e.ret, .int .i64 e.now, .int .i64 e.kind, .int .i64 e.id, .int .i64 e.fr, .int .i64 e.tt, .int .i64 e.snap, .string e.text, .int .i64 0, .int .i64 0, .int .i64 e.n, .string ⟨#[]⟩, .slice none 0 0, .slice none 0 0, .slice none 0 0, .complex .f64 0 0]
/-- Blocks in worlds that are written out. -/
theorem blk_last {W : World} {n : Nat} {o : Obj} (h : n = W.heap.size) : (W.alloc o).heap[n]? = some o := by subst h; exact heap_alloc_new W o
theorem blk_alloc {W : World} {n : Nat} {o : Obj} (o' : Obj) (h : W.heap[n]? = some o) : (W.alloc o').heap[n]? = some o := blk_below h (below_alloc (Below.refl _ _) _)
theorem blk_set {W : World} {n b : Nat} {es : Array MapEntry} {c : Nat} {o o' : Obj} (hb : W.heap[b]? = some (.map es c)) (hn : n ≠ b) (h : W.heap[n]? = some o) : (setBlock W b o').heap[n]? = some o := (heap_setBlock_other hb o' hn).trans h
theorem row_last {W : World} {n : Nat} {c c' : Array Value} {t : TypeId} (h : n = W.heap.size) : (W.alloc (.cells c t)).setRow n c' = W.alloc (.cells c' t) := by subst h; exact World.setRow_alloc_new W c c' t
theorem cell_lt' {w : World} {g o : Nat} {v : Value} (h : w.cell? ⟨g, o, none⟩ = some v) : g < w.heap.size := by
  rcases Nat.lt_or_ge g w.heap.size with h1 | h1
  · exact h1
  · unfold World.cell? at h
    dsimp only at h
    rw [Array.getElem?_eq_none h1] at h
    cases h
theorem ra_below {w w1 : World} {g o : Nat} {cs : List Value} (h : w.rangeAt g o cs) (hb : Below w.heap.size w w1) : w1.rangeAt g o cs := fun j v hj => pw_cell_below hb (h j v hj)
theorem ra_alloc {w : World} {g o : Nat} {cs : List Value} (ob : Obj) (h : w.rangeAt g o cs) : (w.alloc ob).rangeAt g o cs := ra_below h (below_alloc (Below.refl _ _) _)
theorem ra_last {w : World} {g : Nat} {cs : List Value} {t : TypeId} (h : g = w.heap.size) : (w.alloc (.cells cs.toArray t)).rangeAt g 0 cs := by
  subst h
  intro j v hj
  rw [Nat.zero_add]
  unfold World.cell?
  dsimp only
  rw [heap_alloc_new]
  simpa using hj
theorem ra_set {w : World} {g o b : Nat} {cs : List Value} {es : Array MapEntry} {c : Nat} {ob : Obj} (hb : w.heap[b]? = some (.map es c)) (hn : g ≠ b) (h : w.rangeAt g o cs) : (setBlock w b ob).rangeAt g o cs := fun j v hj => by
  have := h j v hj
  unfold World.cell? at this ⊢
  dsimp only at this ⊢
  rw [heap_setBlock_other hb ob hn]
  exact this
section
variable {P : Program} {ops : Array Oper} {rest : List Oper} {o : Oper} {a : Act} {w : World} {Q : Exit → Act → World → Prop} {c n k i f t s m : Int} {r : Bool} {x : ByteArray} {g of : Nat}
theorem load_ev (y : Tmp) (hgd : o.guard = none) (ho : o.op = .load 33 (.tmp y)) (hx : a.eval (.tmp y) = .pointer (some ⟨g, of, none⟩)) (hb : w.rangeAt g of [.int .i64 c, .bool r, .int .i64 n, .int .i64 k, .int .i64 i, .int .i64 f, .int .i64 t, .int .i64 s, .string x, .int .i64 0, .int .i64 0, .int .i64 m, .string ⟨#[]⟩, .slice none 0 0, .slice none 0 0, .slice none 0 0, .complex .f64 0 0])
    (h : wpList Try.prog ops Q rest (a.put o.dst (.agg #[.int .i64 c, .bool r, .int .i64 n, .int .i64 k, .int .i64 i, .int .i64 f, .int .i64 t, .int .i64 s, .string x, .int .i64 0, .int .i64 0, .int .i64 m, .string ⟨#[]⟩, .slice none 0 0, .slice none 0 0, .slice none 0 0, .complex .f64 0 0])) w) : wpList Try.prog ops Q (o :: rest) a w :=
  wpList_load_mid hgd 33 (.tmp y) ho g of hx _ _ hb Try.underlying33 rfl (by kernel_rfl) h
theorem store_ev {W : World} {p : Nat} (y z : Tmp) (c0 : Array Value) (hc : c0.size = 17) (hgd : o.guard = none) (hN : o.dst = none) (ho : o.op = .store 33 (.tmp y) (.tmp z)) (hx : a.eval (.tmp y) = .pointer (some ⟨p, 0, none⟩)) (hp : p = W.heap.size)
    (hz : a.eval (.tmp z) = .agg #[.int .i64 c, .bool r, .int .i64 n, .int .i64 k, .int .i64 i, .int .i64 f, .int .i64 t, .int .i64 s, .string x, .int .i64 0, .int .i64 0, .int .i64 m, .string ⟨#[]⟩, .slice none 0 0, .slice none 0 0, .slice none 0 0, .complex .f64 0 0])
    (h : wpList Try.prog ops Q rest a (W.alloc (.cells #[.int .i64 c, .bool r, .int .i64 n, .int .i64 k, .int .i64 i, .int .i64 f, .int .i64 t, .int .i64 s, .string x, .int .i64 0, .int .i64 0, .int .i64 m, .string ⟨#[]⟩, .slice none 0 0, .slice none 0 0, .slice none 0 0, .complex .f64 0 0] 33))) : wpList Try.prog ops Q (o :: rest) a (W.alloc (.cells c0 33)) := by
  refine wpList_store_row hgd 33 (.tmp y) (.tmp z) ho p _ hx hz 33 c0 (blk_last hp) (by kernel_rfl) hc (by simp [Value.oneCell']) ?_
  rw [hN, row_last hp]
  exact h
end
theorem load_runs {P : Program} {o : Oper} {a : Act} {W W1 : World} {t : TypeId} {p : Operand} {ad v : Value} (ho : o.op = .load t p) (hp : a.eval p = ad) (h : (Instr.loadAt t ad).run P W = .ok v W1) : (execOp a.eval o).run P W = .ok (.value v) W1 := by
  unfold execOp
  simp [ho, hp, h, Result.andThen]
/-- A row of one's own of just one element: where it lies. -/
theorem raw_one {e sz base : Nat} {ok : Nat → Prop} {w : World} {v : Value} {cs : List Value} (h : (Kd.raw sz).R e w base ok v [cs]) : ∃ g c, v = .slice (some ⟨g, 0, none⟩) 1 c ∧ 1 ≤ c ∧ w.rangeAt g 0 cs ∧ base ≤ g := by
  obtain ⟨g, c, rfl, hb, _, _⟩ := Kd.R_form h (by simp)
  obtain ⟨_, hc, hC⟩ := Kd.R_reads' h
  obtain ⟨ad, c1, hA, hlen, hK, hcell⟩ := Kd.C_get hC [] 0 (by simp) (by simp)
  cases hA
  obtain ⟨rfl, _, _⟩ := hK
  refine ⟨g, c, rfl, hc, fun j u hu => ?_, hb⟩
  have := hcell j u hu
  simp only [Int.toNat_zero, Nat.zero_mul, Nat.zero_add] at this ⊢
  rw [add_at, Nat.zero_add] at this
  exact this
theorem infoDeed : ((Try.prog).info? 53).map (fun i => (i.zero, i.size, i.bytes)) = some (some (.agg #[.int .i64 0, .int .i64 0, .int .i64 0, .bool false, .int .i64 0, .int .i64 0, .int .i64 0, .int .i64 0, .int .i64 0, .int .i64 0, .string ⟨#[]⟩, .int .i64 0, .int .i64 0, .int .i64 0, .string ⟨#[]⟩, .slice none 0 0, .slice none 0 0, .slice none 0 0, .complex .f64 0 0, .int .i64 0]), 20, 232) := by kernel_rfl
theorem eqAskA (d : Nat) (w : World) (x0 y0 x1 y1 x2 y2 x3 y3 x4 y4 : Int) (x5 y5 : ByteArray) :
    (Op.equalIn (d + 2) 23 (.agg #[.int .i64 x0, .int .i64 x1, .int .i64 x2, .int .i64 x3, .int .i64 x4, .string x5]) (.agg #[.int .i64 y0, .int .i64 y1, .int .i64 y2, .int .i64 y3, .int .i64 y4, .string y5])).run Try.prog w = .ok (x0 == y0 && (x1 == y1 && (x2 == y2 && (x3 == y3 && (x4 == y4 && x5.toList == y5.toList))))) w := by
  refine eqA_of Try.underlying23 (by kernel_rfl) ?_
  refine eqf_cons (by rfl) (by go_simp; rfl) (by go_simp; rfl) (by go_simp) ?_
  refine eqf_cons (by rfl) (by go_simp; rfl) (by go_simp; rfl) (by go_simp) ?_
  refine eqf_cons (by rfl) (by go_simp; rfl) (by go_simp; rfl) (by go_simp) ?_
  refine eqf_cons (by rfl) (by go_simp; rfl) (by go_simp; rfl) (by go_simp) ?_
  refine eqf_cons (by rfl) (by go_simp; rfl) (by go_simp; rfl) (by go_simp) ?_
  exact eqf_last (by rfl) (by go_simp; rfl) (by go_simp; rfl) (by go_simp)
theorem blk_cell' {W : World} {g : Nat} {cs : Array Value} {t : TypeId} {fr : Nat × Nat} (h : W.heap[g]? = some (.cells cs t fr)) (i : Nat) : W.cell? ⟨g, i, none⟩ = cs[i]? := by
  unfold World.cell?
  dsimp only
  rw [h]
  rfl
theorem below_set {w W : World} {b base : Nat} {es : Array MapEntry} {c : Nat} {o : Obj} (h : Below base w W) (hb : W.heap[b]? = some (.map es c)) (hle : base ≤ b) : Below base w (setBlock W b o) :=
  ⟨h.os, h.tape, h.output, by simp only [setBlock, Array.size_setIfInBounds]; exact h.size, fun k hk => (heap_setBlock_other hb o (by omega)).trans (h.block k hk)⟩
end Go.Proofs.Ytgnmpfjpcdidjaa.P
