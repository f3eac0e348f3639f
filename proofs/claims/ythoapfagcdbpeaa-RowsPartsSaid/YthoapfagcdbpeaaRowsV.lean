/- The closure that the sort is handed tells of two rows what lessB says; it turns nothing. Conditions: how the list lies in memory, and that Less computes lessB. -/
import Derived.Test.YthoapfagcdbpeaaRowsU
set_option linter.unusedVariables false
set_option linter.unusedSimpArgs false
namespace Go.Proofs.Ythoapfagcdbpeaa.P
open Go.Sort (flatK size_flatK get_flatK HoldsK putRowK SWO PermIn SortedIn)
open Go.RowKit Go.Proofs.YthoapfagcdbpeaaW.PrintWords Go.Proofs.YthoapfagcdbpeaaW.PrintLast Go.Proofs.YthoapfagcdbpeaaW.PrintMore

/-- Less computes lessB for this list, wherever it lies so. -/
def LessOk (A0 : Option Addr) (c0 : Nat) (l0 : List ByteArray) : Prop := ∀ (d i e j : Int) (w : World), Kd.C Kd.string w A0 l0.length l0 →
  Calls Try.prog 24 #[.slice A0 l0.length c0, .agg #[.int .i64 d, .int .i64 i], .agg #[.int .i64 e, .int .i64 j]] w fun en w' => en = .returned (.bool (lessB l0 d i e j)) ∧ G w w'

set_option maxRecDepth 100000 in
set_option maxHeartbeats 4000000 in
theorem cmp_calls (A0 : Option Addr) (c0 : Nat) (l0 : List ByteArray) (HL : LessOk A0 c0 l0) (g : Nat) (d i e j : Int) (w : World) (hr0 : Kd.C Kd.string w A0 l0.length l0) (hb : w.cell? ⟨g, 0, none⟩ = some (.slice A0 l0.length c0)) :
    Calls Try.prog 32 #[.agg #[.int .i64 d, .int .i64 i], .agg #[.int .i64 e, .int .i64 j], .pointer (some ⟨g, 0, none⟩)] w fun en w' => en = .returned (.int .i64 (if lessB l0 d i e j then -1 else 1)) ∧ G w w' := by
  have HC := Aside0.mk hr0
  have hu24 := Try.underlying24
  obtain ⟨W0, hW0⟩ : ∃ W0, (w.alloc (.cells #[.int .i64 d, .int .i64 i] 24)).alloc (.cells #[.int .i64 e, .int .i64 j] 24) = W0 := ⟨_, rfl⟩
  have HBW0 : Aside0 (G w W0) := ⟨by rw [← hW0]; exact (G.alloc _ _).trans (G.alloc _ _)⟩
  have z1 : W0.cell? ⟨w.heap.size, 0, none⟩ = some (.int .i64 d) := by rw [← hW0]; exact pw_cell_below (below_alloc (Below.refl _ _) _) (cell_new w _ _ 0 _ rfl)
  have z2 : W0.cell? ⟨w.heap.size, 1, none⟩ = some (.int .i64 i) := by rw [← hW0]; exact pw_cell_below (below_alloc (Below.refl _ _) _) (cell_new w _ _ 1 _ rfl)
  have z3 : W0.cell? ⟨w.heap.size + 1, 0, none⟩ = some (.int .i64 e) := by rw [← hW0]; have := cell_new (w.alloc (.cells #[.int .i64 d, .int .i64 i] 24)) #[.int .i64 e, .int .i64 j] 24 0 _ rfl; rwa [size_alloc] at this
  have z4 : W0.cell? ⟨w.heap.size + 1, 1, none⟩ = some (.int .i64 j) := by rw [← hW0]; have := cell_new (w.alloc (.cells #[.int .i64 d, .int .i64 i] 24)) #[.int .i64 e, .int .i64 j] 24 1 _ rfl; rwa [size_alloc] at this
  have z5 : W0.cell? ⟨g, 0, none⟩ = some (.slice A0 l0.length c0) := pw_cell_below HBW0.out.below hb
  have L0 := Aside0.mk (HL d i e j)
  clear hr0 hb HL
  subst hW0
  obtain ⟨b, hbq⟩ : ∃ b, lessB l0 d i e j = b := ⟨_, rfl⟩
  rw [hbq] at L0
  rw [hbq]
  clear hbq
  go_enter Try.func32, Try.ntmps32
  go_wp2_with fail
  refine (L0.out _ (Kd.C_below HC.out HBW0.out.below)).mono ?_
  rintro en w1 ⟨rfl, hg⟩
  have HB1 := Aside0.mk (HBW0.out.trans hg)
  clear z1 z2 z3 z4 z5 hg
  cases b with
  | true =>
    go_wp2_with fail
    go_ret
    exact ⟨rfl, HB1.out⟩
  | false =>
    go_wp2_with fail
    go_ret
    exact ⟨rfl, HB1.out⟩

/-- What the sort leaves below a number of blocks. -/
theorem below_sortWorldK {α : Type} [Inhabited α] (enc : α → List Value) (k : Nat) (w0 w : World) (s blk off m : Nat) (dk : Array α) (os : Array Obj) (h : Below s w0 w) (hs : s ≤ blk) (hw : s ≤ w.heap.size) : Below s w0 (sortWorldK enc k w blk off m dk os) := by
  have e1 : (putRowK enc k (Sort.ahead w m) blk off dk).heap.size = w.heap.size := by simp [putRowK, Sort.putRow, Sort.mapBlock, Sort.ahead]
  refine ⟨h.os, h.tape, h.output, ?_, ?_⟩
  · have := h.size
    show w0.heap.size ≤ ((putRowK enc k (Sort.ahead w m) blk off dk).heap ++ os).size
    rw [Array.size_append]
    omega
  · intro q hq
    rw [← h.block q hq]
    show ((putRowK enc k (Sort.ahead w m) blk off dk).heap ++ os)[q]? = _
    rw [Array.getElem?_append_left (by rw [e1]; omega)]
    simp [putRowK, Sort.putRow, Sort.mapBlock, Sort.ahead, Array.getElem?_modify]
    intro hb
    omega

theorem cmpLays (A0 : Option Addr) (c0 : Nat) (l0 : List ByteArray) [Inhabited (RowOf l0)] (HL : LessOk A0 c0 l0) (g s blk off n : Nat) (w0 w : World) (hr0 : Kd.C Kd.string w0 A0 l0.length l0) (hb : w0.cell? ⟨g, 0, none⟩ = some (.slice A0 l0.length c0)) (hB : Below s w0 w) (hw : s = w0.heap.size) (hs : s ≤ blk) :
    CmpLays Try.prog 32 #[.pointer (some ⟨g, 0, none⟩)] encR 2 (cmpR l0) blk off n w := by
  intro m os dk hdk x y
  have hbel := below_sortWorldK encR 2 w0 w s blk off m dk os hB hs (by rw [hw]; exact hB.size)
  subst hw
  have := cmp_calls A0 c0 l0 HL g x.1.1 x.1.2 y.1.1 y.1.2 _ (Kd.C_below hr0 hbel) (pw_cell_below hbel hb)
  exact this.mono fun en w' ⟨h1, h2⟩ => ⟨h1, h2.out⟩
end Go.Proofs.Ythoapfagcdbpeaa.P
