/- A judge of a story without changes and snapshots: which version a deed may have read. Conditions: how the judge lies in memory. -/
import Derived.Test.YtgnmpfjpcdidjaaStH
set_option linter.unusedVariables false
set_option linter.unusedSimpArgs false
namespace Go.Proofs.Ytgnmpfjpcdidjaa.P
open Go.RowKit Go.Proofs.YtgnmpfjpcdidjaaW.PrintWords Go.Proofs.YtgnmpfjpcdidjaaW.PrintLast Go.Proofs.YtgnmpfjpcdidjaaW.PrintMore

theorem ra_sub {w : World} {g : Nat} {cs : List Value} {sub : List Value} (k n : Nat) (h : w.rangeAt g 0 cs) (e : sub = (cs.drop k).take n) : w.rangeAt g k sub := fun j v hj => by
  subst e
  rw [List.getElem?_take] at hj
  split at hj
  · rw [List.getElem?_drop] at hj
    have := h (k + j) v hj
    rw [Nat.zero_add] at this
    exact this
  · cases hj
theorem deed_rep {w : World} {g : Nat} {m : Int} (h : w.rangeAt g 0 (deedL m)) : w.rangeAt g 11 (repL m) := ra_sub 11 8 h rfl
theorem deed_ask {w : World} {g : Nat} {m : Int} (h : w.rangeAt g 0 (deedL m)) : w.rangeAt g 5 askL := ra_sub 5 6 h rfl
/-- A judge over just the empty list, without snapshots. -/
structure JOk (w : World) (jb gv mb : Nat) (n : Int) : Prop where
  mk :: (row : w.rangeAt jb 0 [.slice (some ⟨gv, 0, none⟩) 1 1, .map (some mb), .int .i64 n]) (docs : w.cell? ⟨gv, 0, none⟩ = some (.slice none 0 0)) (pins : w.heap[mb]? = some (.map #[] 0))
theorem JOk.below {w w1 : World} {jb gv mb : Nat} {n : Int} (h : JOk w jb gv mb n) (hb : Below w.heap.size w w1) : JOk w1 jb gv mb n := ⟨ra_below h.row hb, pw_cell_below hb h.docs, blk_below h.pins hb⟩
set_option maxRecDepth 100000 in
set_option maxHeartbeats 4000000 in
theorem at_calls (m : Int) (jb gv mb : Nat) (n : Int) (w : World) (hj : JOk w jb gv mb n) : Calls Try.prog 47 #[.pointer (some ⟨jb, 0, none⟩), .agg (deedL m).toArray] w fun e w' => e = .returned (.bool true) ∧ Below w.heap.size w w' := by
  have HB := Aside0.mk (below_alloc (Below.refl w.heap.size w) (.cells (deedL m).toArray 53))
  have j0 : (w.alloc (.cells (deedL m).toArray 53)).cell? ⟨jb, 0, none⟩ = some (.slice (some ⟨gv, 0, none⟩) 1 1) := pw_cell_below (below_alloc (Below.refl w.heap.size w) _) (hj.row 0 _ rfl)
  clear hj
  unfold deedL at HB j0 ⊢
  go_enter Try.func47, Try.ntmps47
  go_wp2_with fail
  go_ret
  exact ⟨rfl, HB.out⟩
end Go.Proofs.Ytgnmpfjpcdidjaa.P
