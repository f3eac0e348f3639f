/- Sets kept as maps to bool, of whole numbers and of rows: what a lookup, a store and the length are. Conditions: the map's block is the call's own. -/
import Derived.Test.YthoapfagcdbpeaaP0
import Derived.Test.YthoapfagcdbpeaaP1
import Derived.ChangeMaps5
import Derived.MapKept
import Derived.WalkKit
set_option linter.unusedVariables false
set_option linter.unusedSimpArgs false
namespace Go.Proofs.Ythoapfagcdbpeaa.P
open Go.RowKit Go.Proofs.YthoapfagcdbpeaaW.PrintWords Go.Proofs.YthoapfagcdbpeaaW.PrintLast Go.Proofs.YthoapfagcdbpeaaW.PrintMore
open Go.MapKept
open Go.ChangeMaps (setBlock heap_setBlock_same heap_setBlock_other)

def entryOf (p : Value × Nat) : MapEntry := { key := p.1, val := .bool true, born := p.2 }
def entriesOf (ks : List Value) : List MapEntry := ks.zipIdx.map entryOf
/-- Block b is a map in which just these keys are, each with true. -/
def IsSet (w : World) (b : Nat) (ks : List Value) : Prop := w.heap[b]? = some (.map (entriesOf ks).toArray ks.length)
theorem entries_snoc (ks : List Value) (x : Value) : entriesOf (ks ++ [x]) = entriesOf ks ++ [{ key := x, val := .bool true, born := ks.length }] := by
  unfold entriesOf
  rw [List.zipIdx_append, List.map_append]
  simp [entryOf]
theorem isSet_below {w w' : World} {b base : Nat} {ks : List Value} (h : IsSet w b ks) (hb : Below base w w') (hlt : b < base) : IsSet w' b ks := (hb.block b hlt).trans h
theorem isSet_lt {w : World} {b : Nat} {ks : List Value} (h : IsSet w b ks) : b < w.heap.size := by
  rcases Nat.lt_or_ge b w.heap.size with hlt | hge
  · exact hlt
  · unfold IsSet at h; rw [Array.getElem?_eq_none hge] at h; cases h
theorem isSet_new (w : World) : IsSet (w.alloc (.map #[] 0)) w.heap.size [] := heap_alloc_new w _

/-- What is asked of a key's type. -/
structure KeyOk {α : Type} [DecidableEq α] (P : Program) (K : TypeId) (enc : α → Value) : Prop where
  check : ∀ (e : Bool) (x : α) (w : World), (Instr.checkKey e 10000 K (enc x)).run P w = .ok () w
  find : ∀ (x : α) (ks : List α) (w : World), ∃ r, (Instr.findKey K (enc x) (entriesOf (ks.map enc))).run P w = .ok r w ∧ (x ∈ ks → ∃ i, r = some (i, .bool true)) ∧ (x ∉ ks → r = none)
section
variable {α : Type} [DecidableEq α] {P : Program} {T K E : TypeId} {enc : α → Value} {w : World} {b : Nat} {ks : List α}
theorem lookup_set (L : KeyOk P K enc) (ht : P.underlying T = some (.map K E)) (hz : ∀ w : World, (zeroValue E).run P w = .ok (.bool false) w) (h : IsSet w b (ks.map enc)) (x : α) :
    (Instr.lookup T (.map (some b)) (enc x) false).run P w = .ok (.bool (decide (x ∈ ks))) w := by
  obtain ⟨r, hr, hm⟩ := L.find x ks w
  have hg : (getObj b).run P w = .ok (.map (entriesOf (ks.map enc)).toArray (ks.map enc).length) w := Go.MapKept.run_getObj_map h
  unfold Instr.lookup
  by_cases hx : x ∈ ks
  · obtain ⟨i, rfl⟩ := hm.1 hx
    rw [decide_eq_true hx]
    simp [run_underlying ht, hg, L.check, hr, Result.andThen]
  · obtain rfl := hm.2 hx
    rw [decide_eq_false hx]
    simp [run_underlying ht, hg, L.check, hr, hz, Result.andThen]
/-- A block turned, and nothing else. -/
structure Turned (w w' : World) (b : Nat) : Prop where
  mk :: (os : w'.os = w.os) (tape : w'.tape = w.tape) (output : w'.output = w.output) (size : w'.heap.size = w.heap.size) (other : ∀ i, i ≠ b → w'.heap[i]? = w.heap[i]?)
def setAt (w : World) (b : Nat) (ks : List Value) : World := setBlock w b (.map (entriesOf ks).toArray ks.length)
theorem store_run (L : KeyOk P K enc) (ht : P.underlying T = some (.map K E)) (h : IsSet w b (ks.map enc)) (x : α) (hx : x ∉ ks) :
    (Instr.mapUpdate T (.map (some b)) (enc x) (.bool true)).run P w = .ok () (setAt w b ((ks ++ [x]).map enc)) := by
  obtain ⟨r, hr, hm⟩ := L.find x ks w
  obtain rfl := hm.2 hx
  have hsnoc : (entriesOf ((ks ++ [x]).map enc)).toArray = (entriesOf (ks.map enc)).toArray.push { key := enc x, val := .bool true, born := (ks.map enc).length } := by
    rw [List.map_append, List.map_cons, List.map_nil, entries_snoc]
    simp
  have hlen : ((ks ++ [x]).map enc).length = (ks.map enc).length + 1 := by simp
  have hg : (getObj b).run P w = .ok (.map (entriesOf (ks.map enc)).toArray (ks.map enc).length) w := Go.MapKept.run_getObj_map h
  have hs : ∀ o : Obj, (setObj b o).run P w = .ok () { w with heap := w.heap.setIfInBounds b o } := fun o => Go.MapKept.run_setObj_map o h
  unfold setAt
  rw [hsnoc, hlen]
  unfold Instr.mapUpdate
  simp [run_underlying ht, hg, L.check, hr, hs, Result.andThen, setBlock]
theorem store_set (L : KeyOk P K enc) (ht : P.underlying T = some (.map K E)) (h : IsSet w b (ks.map enc)) (x : α) (hx : x ∉ ks) :
    ∃ w', (Instr.mapUpdate T (.map (some b)) (enc x) (.bool true)).run P w = .ok () w' ∧ IsSet w' b ((ks ++ [x]).map enc) ∧ Turned w w' b :=
  ⟨_, store_run L ht h x hx, heap_setBlock_same h _, ⟨rfl, rfl, rfl, by simp [setAt, setBlock], fun i hi => heap_setBlock_other h _ hi⟩⟩
/-- The same, behind any draws. -/
theorem store_drew (L : KeyOk P K enc) (ht : P.underlying T = some (.map K E)) (h : IsSet w b (ks.map enc)) (x : α) (hx : x ∉ ks) :
    ∃ w', (∀ n : Nat, (Instr.mapUpdate T (.map (some b)) (enc x) (.bool true)).run P (w.drewN n) = .ok () (w'.drewN n)) ∧ (Instr.mapUpdate T (.map (some b)) (enc x) (.bool true)).run P w = .ok () w' ∧ IsSet w' b ((ks ++ [x]).map enc) ∧ Turned w w' b :=
  ⟨setAt w b ((ks ++ [x]).map enc), fun n => store_run (w := w.drewN n) L ht h x hx, store_run L ht h x hx, heap_setBlock_same h _, ⟨rfl, rfl, rfl, by simp [setAt, setBlock], fun i hi => heap_setBlock_other h _ hi⟩⟩
theorem lookup_drew (L : KeyOk P K enc) (ht : P.underlying T = some (.map K E)) (hz : ∀ w : World, (zeroValue E).run P w = .ok (.bool false) w) (h : IsSet w b (ks.map enc)) (x : α) (n : Nat) :
    (Instr.lookup T (.map (some b)) (enc x) false).run P (w.drewN n) = .ok (.bool (decide (x ∈ ks))) (w.drewN n) := lookup_set (w := w.drewN n) L ht hz h x
theorem lookup_bool (L : KeyOk P K enc) (ht : P.underlying T = some (.map K E)) (hz : ∀ w : World, (zeroValue E).run P w = .ok (.bool false) w) (h : IsSet w b (ks.map enc)) (x : α) (v : Bool) (hv : x ∈ ks ↔ v = true) :
    (∀ n : Nat, (Instr.lookup T (.map (some b)) (enc x) false).run P (w.drewN n) = .ok (.bool v) (w.drewN n)) ∧ (Instr.lookup T (.map (some b)) (enc x) false).run P w = .ok (.bool v) w := by
  have e : decide (x ∈ ks) = v := by
    cases v with
    | true => exact decide_eq_true (hv.2 rfl)
    | false => exact decide_eq_false (fun h => by have := hv.1 h; cases this)
  rw [← e]
  exact ⟨fun n => lookup_drew L ht hz h x n, lookup_set L ht hz h x⟩
end
theorem len_set {α : Type} {P : Program} {T K E : TypeId} {enc : α → Value} {w : World} {b : Nat} {ks : List α} (ht : P.underlying T = some (.map K E)) (h : IsSet w b (ks.map enc)) (ty : TypeId) : (Builtin.len_ #[T] ty #[Value.map (some b)]).run P w = .ok (.int .i64 ks.length) w := by
  have hg : (getObj b).run P w = .ok (.map (entriesOf (ks.map enc)).toArray (ks.map enc).length) w := Go.MapKept.run_getObj_map h
  have hl : (entriesOf (ks.map enc)).length = ks.length := by unfold entriesOf; simp
  simp [Builtin.len_, run_underlying ht, hg, hl, goInt, Result.andThen]
theorem Turned.below {w0 w w' : World} {b base : Nat} (h : Turned w w' b) (hb : Below base w0 w) (hlt : base ≤ b) : Below base w0 w' :=
  ⟨h.os.trans hb.os, h.tape.trans hb.tape, h.output.trans hb.output, by rw [h.size]; exact hb.size, fun k hk => (h.other k (by omega)).trans (hb.block k hk)⟩
theorem Turned.R {α : Type} {d : Kd α} {e : Nat} {w w' : World} {b base : Nat} {ok : Nat → Prop} {v : Value} {xs : List α} {ks : List Value} (h : Turned w w' b) (hs : IsSet w b ks) (hr : d.R e w base ok v xs) : d.R e w' base ok v xs :=
  Kd.R_mono (Kd.R_move (Kd.R_bound hr) (fun k hk => h.other k (by
    rintro rfl
    obtain ⟨_, _, _, q, _, cells, hc⟩ := hk
    unfold IsSet at hs
    rw [hs] at hc
    cases hc))) (fun _ hk => hk.1)
theorem int_key {P : Program} {K : TypeId} (hk : P.underlying K = some (.int .i64)) : KeyOk P K (fun x : Int => Value.int .i64 x) := by
  refine ⟨fun e x w => run_checkKey hk (by simp [IsKey]) e 9999, fun x ks w => ?_⟩
  have key : ∀ (l : List (Value × Nat)) (ys : List Int) (i : Nat), l.map Prod.fst = ys.map (fun x : Int => Value.int .i64 x) → ∃ r, Instr.findNow (.int .i64) (.int .i64 x) (l.map entryOf) i = some r ∧ (x ∈ ys → ∃ j, r = some (j, .bool true)) ∧ (x ∉ ys → r = none) := by
    intro l
    induction l with
    | nil =>
      intro ys i h
      cases ys with
      | nil => exact ⟨none, rfl, (fun h => by cases h), fun _ => rfl⟩
      | cons y ys => cases h
    | cons p l ih =>
      intro ys i h
      cases ys with
      | nil => cases h
      | cons y ys =>
        rw [List.map_cons, List.map_cons, List.cons.injEq] at h
        obtain ⟨r, hr, hm⟩ := ih ys (i + 1) h.2
        have hp : (entryOf p).key = .int .i64 y := h.1
        by_cases hxy : x = y
        · refine ⟨some (i, .bool true), ?_, ?_⟩
          · subst hxy
            simp [Instr.findNow, Instr.sameNow, entryOf, h.1]
          · exact ⟨fun _ => ⟨i, rfl⟩, fun h => absurd (by rw [hxy]; exact List.mem_cons_self) h⟩
        · refine ⟨r, ?_, ?_⟩
          · simp only [List.map_cons, Instr.findNow, hp, Instr.sameNow, if_true]
            rw [beq_eq_false_iff_ne.2 hxy]
            exact hr
          · exact ⟨fun h => hm.1 ((List.mem_cons.1 h).elim (fun e => absurd e hxy) id), fun h => hm.2 (fun h2 => h (List.mem_cons_of_mem _ h2))⟩
  obtain ⟨r, hr, hm⟩ := key (ks.map (fun x : Int => Value.int .i64 x)).zipIdx ks 0 (by simp)
  exact ⟨r, run_findKey hk hr, hm⟩
def encRow (x : Int × Int) : Value := .agg #[.int .i64 x.1, .int .i64 x.2]
theorem row_check_at (n : Nat) (e : Bool) (x : Int × Int) (w : World) : (Instr.checkKey e (n + 2) 24 (encRow x)).run Try.prog w = .ok () w := by
  kernel_rfl
theorem row_check (e : Bool) (x : Int × Int) (w : World) : (Instr.checkKey e 10000 24 (encRow x)).run Try.prog w = .ok () w := row_check_at 9998 e x w
set_option maxRecDepth 100000 in
theorem row_equal (x y : Int × Int) (w : World) : (Op.equal 24 (encRow x) (encRow y)).run Try.prog w = .ok (decide (x = y)) w := by
  have h := eqA24 9998 w x.1 y.1 x.2 y.2
  refine Eq.trans h ?_
  congr 1
  rw [Bool.eq_iff_iff]
  simp [Prod.ext_iff]
theorem row_ask (x : Int × Int) (w : World) : ∀ (l : List (Value × Nat)) (ys : List (Int × Int)) (i : Nat), l.map Prod.fst = ys.map encRow → ∃ r, (Instr.findAsking 24 (encRow x) (l.map entryOf) i).run Try.prog w = .ok r w ∧ (x ∈ ys → ∃ j, r = some (j, .bool true)) ∧ (x ∉ ys → r = none) := by
  intro l
  induction l with
  | nil =>
    intro ys i h
    cases ys with
    | nil => exact ⟨none, rfl, (fun h => by cases h), fun _ => rfl⟩
    | cons y ys => cases h
  | cons p l ih =>
    intro ys i h
    cases ys with
    | nil => cases h
    | cons y ys =>
      rw [List.map_cons, List.map_cons, List.cons.injEq] at h
      obtain ⟨r, hr, hm⟩ := ih ys (i + 1) h.2
      have hp : (entryOf p).key = encRow y := h.1
      have heq := row_equal x y w
      by_cases hxy : x = y
      · refine ⟨some (i, .bool true), ?_, fun _ => ⟨i, rfl⟩, fun h => absurd (by rw [hxy]; exact List.mem_cons_self) h⟩
        rw [decide_eq_true hxy] at heq
        simp [Instr.findAsking, h.1, heq, Result.andThen, entryOf]
      · refine ⟨r, ?_, fun h => hm.1 ((List.mem_cons.1 h).elim (fun e => absurd e hxy) id), fun h => hm.2 (fun h2 => h (List.mem_cons_of_mem _ h2))⟩
        rw [decide_eq_false hxy] at heq
        simp only [List.map_cons, Instr.findAsking, hp]
        simp [heq, hr, Result.andThen]
theorem row_key : KeyOk Try.prog 24 encRow := by
  refine ⟨row_check, fun x ks w => ?_⟩
  cases ks with
  | nil => exact ⟨none, by kernel_rfl, (fun h => by cases h), fun _ => rfl⟩
  | cons y ks =>
    obtain ⟨r, hr, hm⟩ := row_ask x w ((y :: ks).map encRow).zipIdx (y :: ks) 0 (by simp)
    refine ⟨r, ?_, hm⟩
    rw [← hr]
    have hf : ∀ fs, Instr.findNow (.struct fs) (encRow x) (entriesOf ((y :: ks).map encRow)) 0 = none := fun fs => by
      unfold entriesOf
      rfl
    unfold Instr.findKey
    simp only [Sem.run_bind, run_underlying Try.underlying24, Result.andThen, hf]
    rfl
end Go.Proofs.Ythoapfagcdbpeaa.P
