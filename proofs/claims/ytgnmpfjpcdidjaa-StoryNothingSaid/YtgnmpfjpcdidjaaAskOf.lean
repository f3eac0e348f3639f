/- What a kind of request has: its name, its letters. Conditions: none. -/
import Derived.Test.YtgnmpfjpcdidjaaP0
set_option linter.unusedVariables false
set_option linter.unusedSimpArgs false
namespace Go.Proofs.Ytgnmpfjpcdidjaa.P
open Go.RowKit Go.Proofs.YtgnmpfjpcdidjaaW.PrintWords Go.Proofs.YtgnmpfjpcdidjaaW.PrintLast Go.Proofs.YtgnmpfjpcdidjaaW.PrintMore

def kindNames : List ByteArray := [⟨#[]⟩, ⟨#[105, 110, 115, 101, 114, 116]⟩, ⟨#[100, 101, 108, 101, 116, 101]⟩, ⟨#[99, 111, 117, 110, 116]⟩, ⟨#[108, 111, 99, 97, 116, 101]⟩, ⟨#[101, 120, 116, 114, 97, 99, 116]⟩, ⟨#[108, 105, 115, 116]⟩, ⟨#[112, 108, 111, 116]⟩, ⟨#[115, 110, 97, 112]⟩, ⟨#[99, 108, 111, 115, 101]⟩]
def kindHas : List ByteArray := [⟨#[]⟩, ⟨#[116]⟩, ⟨#[105]⟩, ⟨#[116, 115]⟩, ⟨#[116, 115]⟩, ⟨#[105, 102, 111, 115]⟩, ⟨#[115]⟩, ⟨#[105, 111, 115]⟩, ⟨#[]⟩, ⟨#[115]⟩]
def nameOf (k : Int) : ByteArray := if k < 0 then ⟨#[]⟩ else kindNames.getD k.toNat ⟨#[]⟩
def hasOf (k : Int) : ByteArray := if k < 0 then ⟨#[]⟩ else kindHas.getD k.toNat ⟨#[]⟩
theorem of_first (k : Int) (h : k < 0 ∨ 10 ≤ k) : nameOf k = ⟨#[]⟩ ∧ hasOf k = ⟨#[]⟩ := by
  unfold nameOf hasOf
  rcases h with h | h
  · rw [if_pos h, if_pos h]; exact ⟨rfl, rfl⟩
  · rw [if_neg (by omega), if_neg (by omega), List.getD_eq_getElem?_getD, List.getD_eq_getElem?_getD, List.getElem?_eq_none (by show 10 ≤ k.toNat; omega), List.getElem?_eq_none (by show 10 ≤ k.toNat; omega)]
    exact ⟨rfl, rfl⟩
theorem cell_newA (W : World) (cs : Array Value) (t : TypeId) (i : Nat) (v : Value) (h : cs[i]? = some v) : (W.alloc (.cells cs t)).cell? ⟨W.heap.size, i, none⟩ = some v := by
  have hb : (W.alloc (.cells cs t)).heap[W.heap.size]? = some (.cells cs t (0, 0)) := heap_alloc_new W _
  unfold World.cell?
  dsimp only
  rw [hb]
  exact h
theorem shape_load (W : World) (b : Nat) (x y : Value) (h0 : W.cell? ⟨b, 0, none⟩ = some x) (h1 : W.cell? ⟨b, 1, none⟩ = some y) : (loadVar 114 ⟨b, 0, none⟩).run Try.prog W = .ok (.agg #[x, y]) W := by
  have hs : (isAgg 114).run Try.prog W = .ok true W := by kernel_rfl
  have hz : (sizeOf 114).run Try.prog W = .ok 2 W := by kernel_rfl
  unfold loadVar
  go_simp
theorem of_results (w : World) (x y : Value) (o : Obj) (tmps : Array Value) (h2 : tmps[2]?.getD undef = .pointer (some ⟨w.heap.size, 0, none⟩)) :
    (results Try.f63 tmps).run Try.prog ((w.alloc (.cells #[x, y] 114)).alloc o) = .ok (.agg #[x, y]) ((w.alloc (.cells #[x, y] 114)).alloc o) := by
  have hr : (Try.f63).results = #[.cell 2 114] := rfl
  have hl := shape_load ((w.alloc (.cells #[x, y] 114)).alloc o) w.heap.size x y (pw_cell_below (below_alloc (Below.refl _ _) _) (cell_newA w _ _ 0 _ rfl)) (pw_cell_below (below_alloc (Below.refl _ _) _) (cell_newA w _ _ 1 _ rfl))
  have ha : (asAddr (tmps[2]?.getD undef)).run Try.prog ((w.alloc (.cells #[x, y] 114)).alloc o) = .ok ⟨w.heap.size, 0, none⟩ ((w.alloc (.cells #[x, y] 114)).alloc o) := by rw [h2]; rfl
  simp [results, hr]
  rw [ha]
  simp only [Result.andThen]
  rw [hl]
theorem below_two (w : World) (o1 o2 : Obj) : Below w.heap.size w ((w.alloc o1).alloc o2) := below_alloc (below_alloc (Below.refl _ _) _) _
set_option maxRecDepth 100000 in
set_option maxHeartbeats 2000000 in
theorem of_out (k : Int) (w : World) (h : k < 0 ∨ 10 ≤ k) : Calls Try.prog 63 #[.int .i64 k] w fun e w' => e = .returned (.agg #[.string (nameOf k), .string (hasOf k)]) ∧ Below w.heap.size w w' := by
  obtain ⟨e1, e2⟩ := of_first k h
  rw [e1, e2]
  cases h0 : decide (k < 0) with
  | true =>
    go_enter Try.func63, Try.ntmps63
    go_wp2_with fail
    exact bodyPost_ret (of_results _ _ _ _ _ rfl) rfl ⟨rfl, below_two _ _ _⟩
  | false =>
    have h1 : decide (10 ≤ k) = true := decide_eq_true (by have := of_decide_eq_false h0; omega)
    go_enter Try.func63, Try.ntmps63
    go_wp2_with fail
    exact bodyPost_ret (of_results _ _ _ _ _ rfl) rfl ⟨rfl, below_two _ _ _⟩
set_option maxRecDepth 100000 in
set_option maxHeartbeats 8000000 in
theorem of_calls (k : Int) (w : World) : Calls Try.prog 63 #[.int .i64 k] w fun e w' => e = .returned (.agg #[.string (nameOf k), .string (hasOf k)]) ∧ Below w.heap.size w w' := by
  by_cases h : k < 0 ∨ 10 ≤ k
  · exact of_out k w h
  · have hk : k = 0 ∨ k = 1 ∨ k = 2 ∨ k = 3 ∨ k = 4 ∨ k = 5 ∨ k = 6 ∨ k = 7 ∨ k = 8 ∨ k = 9 := by omega
    clear h
    rcases hk with rfl | rfl | rfl | rfl | rfl | rfl | rfl | rfl | rfl | rfl
    all_goals
      go_enter Try.func63, Try.ntmps63
      go_wp2_with fail
      exact bodyPost_ret (of_results _ _ _ _ _ rfl) rfl ⟨rfl, below_two _ _ _⟩
end Go.Proofs.Ytgnmpfjpcdidjaa.P
