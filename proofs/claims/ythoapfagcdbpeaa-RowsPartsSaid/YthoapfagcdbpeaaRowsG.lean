/- The function is of package rows computes what the plain function rowOk says, and what it makes is told exactly: draws, and new blocks. Conditions: how the list lies in memory. -/
import Derived.Test.YthoapfagcdbpeaaRowsA
import Derived.Sort.Grow
set_option linter.unusedVariables false
set_option linter.unusedSimpArgs false
namespace Go.Proofs.Ythoapfagcdbpeaa.P
open Go.RowKit Go.Proofs.YthoapfagcdbpeaaW.PrintWords Go.Proofs.YthoapfagcdbpeaaW.PrintLast Go.Proofs.YthoapfagcdbpeaaW.PrintMore

/-- The world is the old one, but for draws and new blocks. -/
structure G (w w' : World) : Prop where mk :: (out : ∃ q os, w' = Sort.grow (w.drewN q) os)
theorem G.refl (w : World) : G w w := ⟨⟨0, #[], by rw [Sort.grow_empty]; rfl⟩⟩
theorem G.trans {a b c : World} (h : G a b) (k : G b c) : G a c := by
  obtain ⟨q, os, rfl⟩ := h.out
  obtain ⟨r, ot, rfl⟩ := k.out
  refine ⟨⟨q + r, os ++ ot, ?_⟩⟩
  have : (Sort.grow (a.drewN q) os).drewN r = Sort.grow ((a.drewN q).drewN r) os := rfl
  rw [this, Sort.grow_grow, World.drewN_drewN]
theorem G.drew (w : World) (n : Nat) : G w (w.drewN n) := ⟨⟨n, #[], by rw [Sort.grow_empty]⟩⟩
theorem G.alloc (w : World) (o : Obj) : G w (w.alloc o) := ⟨⟨0, #[o], by rw [Sort.alloc_eq_grow]; rfl⟩⟩
theorem G.below {w w' : World} (h : G w w') : Below w.heap.size w w' := by
  obtain ⟨q, os, rfl⟩ := h.out
  have h1 : Below w.heap.size w (w.drewN q) := pw_below_drewN (Below.refl _ _) q
  refine ⟨h1.os, h1.tape, h1.output, ?_, ?_⟩
  · show w.heap.size ≤ (w.heap ++ os).size
    rw [Array.size_append]; omega
  · intro k hk
    show (w.heap ++ os)[k]? = w.heap[k]?
    rw [Array.getElem?_append_left hk]

def docAt (l : List ByteArray) (d : Int) : ByteArray := rdOf ByteArray.empty l d
def rowOk (l : List ByteArray) (d i : Int) : Bool := decide (0 ≤ d) && (decide (d < l.length) && (decide (0 ≤ i) && decide (i ≤ ((docAt l d).size : Int))))

theorem str_cell {w : World} {A0 : Option Addr} {l0 : List ByteArray} (h : Kd.C Kd.string w A0 l0.length l0) (d : Int) (h0 : 0 ≤ d) (h1 : d < l0.length) :
    ∃ ad, A0 = some ad ∧ w.cell? (ad.add d.toNat) = some (.string (docAt l0 d)) := by
  obtain ⟨ad, cs, rfl, hcs, hK, hcell⟩ := Kd.C_get h ByteArray.empty d h0 h1
  have hK' : cs = [.string (l0.getD d.toNat ByteArray.empty)] := hK
  have hc1 := hcell 0 (.string (l0.getD d.toNat ByteArray.empty)) (by rw [hK']; rfl)
  have e1 : d.toNat * Kd.string.sz + 0 = d.toNat := by show d.toNat * 1 + 0 = d.toNat; omega
  rw [e1] at hc1
  exact ⟨ad, rfl, hc1⟩
theorem cell_new (W : World) (cs : Array Value) (t : TypeId) (i : Nat) (v : Value) (h : cs[i]? = some v) : (W.alloc (.cells cs t)).cell? ⟨W.heap.size, i, none⟩ = some v := by
  have hb : (W.alloc (.cells cs t)).heap[W.heap.size]? = some (.cells cs t (0, 0)) := heap_alloc_new W _
  unfold World.cell?
  dsimp only
  rw [hb]
  exact h
theorem size_alloc (W : World) (o : Obj) : (W.alloc o).heap.size = W.heap.size + 1 := by simp

set_option maxRecDepth 100000 in
set_option maxHeartbeats 2000000 in
theorem is_calls (A0 : Option Addr) (c0 : Nat) (l0 : List ByteArray) (d i : Int) (w : World) (hr0 : Kd.C Kd.string w A0 l0.length l0) (hc0 : l0.length ≤ c0) :
    Calls Try.prog 36 #[.slice A0 l0.length c0, .agg #[.int .i64 d, .int .i64 i]] w fun e w' => e = .returned (.bool (rowOk l0 d i)) ∧ G w w' := by
  have hG : G w (w.alloc (.cells #[.int .i64 d, .int .i64 i] 24)) := G.alloc _ _
  have HG := Aside0.mk hG
  clear hG
  by_cases h1 : 0 ≤ d
  case neg =>
    have hr : rowOk l0 d i = false := by unfold rowOk; rw [decide_eq_false h1]; rfl
    have t1 : decide (0 ≤ d) = false := decide_eq_false h1
    have HR := Aside0.mk hr
    clear hr h1 hr0
    go_enter Try.func36, Try.ntmps36
    go_wp2_with fail
    go_quiet (fail)
    go_wp2_with fail
    go_ret
    exact ⟨congrArg (fun z => Ending.returned (.bool z)) HR.out.symm, HG.out.trans (G.drew _ _)⟩
  have t1 : decide (0 ≤ d) = true := decide_eq_true h1
  by_cases h2 : d < (l0.length : Int)
  case neg =>
    have hr : rowOk l0 d i = false := by unfold rowOk; rw [decide_eq_true h1, decide_eq_false h2]; rfl
    have t2 : decide (d < (l0.length : Int)) = false := decide_eq_false h2
    have HR := Aside0.mk hr
    clear hr h1 h2 hr0
    go_enter Try.func36, Try.ntmps36
    go_wp2_with fail
    go_quiet (fail)
    go_wp2_with fail
    go_ret
    exact ⟨congrArg (fun z => Ending.returned (.bool z)) HR.out.symm, HG.out.trans (G.drew _ _)⟩
  have t2 : decide (d < (l0.length : Int)) = true := decide_eq_true h2
  by_cases h3 : 0 ≤ i
  case neg =>
    have hr : rowOk l0 d i = false := by unfold rowOk; rw [decide_eq_true h1, decide_eq_true h2, decide_eq_false h3]; rfl
    have t3 : decide (0 ≤ i) = false := decide_eq_false h3
    have HR := Aside0.mk hr
    clear hr h1 h2 h3 hr0
    go_enter Try.func36, Try.ntmps36
    go_wp2_with fail
    go_quiet (fail)
    go_wp2_with fail
    go_ret
    exact ⟨congrArg (fun z => Ending.returned (.bool z)) HR.out.symm, HG.out.trans (G.drew _ _)⟩
  have t3 : decide (0 ≤ i) = true := decide_eq_true h3
  obtain ⟨ad, rfl, hcd⟩ := str_cell hr0 d h1 h2
  have hcd1 : (w.alloc (.cells #[.int .i64 d, .int .i64 i] 24)).cell? (ad.add d.toNat) = some (.string (docAt l0 d)) := pw_cell_below (below_alloc (Below.refl _ _) _) hcd
  have hr : rowOk l0 d i = decide (i ≤ ((docAt l0 d).size : Int)) := by unfold rowOk; rw [decide_eq_true h1, decide_eq_true h2, decide_eq_true h3]; rfl
  have HR := Aside0.mk hr
  have p1 : (0 ≤ d) = True := eq_true h1
  have p2 : (d < (l0.length : Int)) = True := eq_true h2
  clear hr h1 h2 h3 hr0
  go_enter Try.func36, Try.ntmps36
  go_wp2_with fail
  go_quiet (fail)
  go_wp2_with fail
  go_ret
  exact ⟨congrArg (fun z => Ending.returned (.bool z)) HR.out.symm, HG.out.trans (G.drew _ _)⟩

end Go.Proofs.Ythoapfagcdbpeaa.P
