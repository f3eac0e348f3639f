-- Printed by myprint.py (a program of this session's, over the kit's print): P
import Derived.Test.YtibhenengpdahaaGreatJA
import Derived.Test.YtibhenengpdahaaGreatBkC
import Derived.Test.YtibhenengpdahaaGreatJC
import Derived.Test.YtibhenengpdahaaGreatJQ
section
namespace Go.Proofs.YtibhenengpdahaaGreat.P
open Go.RowKit Go.Proofs.YtibhenengpdahaaGreatW.PrintWords Go.Proofs.YtibhenengpdahaaGreatW.PrintLast Go.Proofs.YtibhenengpdahaaGreatW.PrintMore
set_option linter.unusedVariables false
set_option linter.unusedSimpArgs false

/-! ### scriniumbook_copyDocs: function 20 -/
def scriniumbook_copyDocs.f (l0 : List (S27)) : Option ((List (S27))) := if ([] : List (S27)).length + l0.length < 5864062014805 then (some (([] : List (S27)) ++ l0)) else (none)
set_option maxHeartbeats 8000000 in
set_option maxRecDepth 100000 in
theorem scriniumbook_copyDocs.calls (A0 : Option Addr) (c0 : Nat) (l0 : List (S27)) (r : List (S27)) (w : World) (hr0 : Kd.C k27 w A0 l0.length l0) (hc0 : l0.length ≤ c0) (h : scriniumbook_copyDocs.f l0 = some r) :
  Calls Tryz.prog 20 #[.slice A0 l0.length c0] w fun e w' => ∃ v0_ : Value, e = .returned (v0_) ∧ Kd.R k27 27 w' w.heap.size (fun _ => True) v0_ r ∧ Below w.heap.size w w' := by
 have HR0 := Aside0.mk hr0
 have HC0 := Aside0.mk hc0
 clear hr0 hc0
 have HB := Aside0.mk (Below.refl w.heap.size w)
 have H : (if ([] : List (S27)).length + l0.length < 5864062014805 then (some (([] : List (S27)) ++ l0)) else (none)) = some r := h
 clear h
 by_cases c2 : ([] : List (S27)).length + l0.length < 5864062014805
 ·rw [if_pos c2] at H
  have LMc2 := Aside0.mk c2
  clear c2
  obtain ⟨y211, hy211⟩ : ∃ y_ : List (S27), y_ = (([] : List (S27)) ++ l0) := ⟨_, rfl⟩
  replace H : (some y211) = some r := by first | (rw [hy211]; with_reducible exact H) | (have H2_ := (Option.bind_some _ _).symm.trans H; rw [hy211]; with_reducible exact H2_) | (have H2_ := (Option.bind_some _ _).symm.trans H; with_reducible exact H2_) | with_reducible exact H | (rw [hy211]; exact H) | exact H
  have Ny211 := Aside0.mk hy211
  clear hy211
  obtain rfl := Option.some.inj H
  go_enter Tryz.func20, Tryz.ntmps20
  go_wp2_with (first | ((with_reducible refine gate_builtin (b := .append) (xs := #[.const (.slice none 0 0), .tmp 3]) rfl ?_); at_builtin; refine Kd.R_append_rows k27 (w0 := w) w.heap.size rfl (.const (.slice none 0 0)) (.tmp 3) 22 27 (.agg #[(.int .i64 0), (.string ⟨#[]⟩)]) 24 rfl Tryz.underlying22 info27 rfl (by decide) (by omega) (.slice none 0 0) ([] : List (S27)) l0 _ _ _ (fun _ => True) (fun _ => False) rfl rfl ?aO ?aR (fun _ _ h => h) (fun _ h => h.elim) ?aF ?aB ?aS ?aL ?_; (case aR => repeat (first | exact HR0.out | (with_reducible refine Kd.C_alloc ?_ _) | (with_reducible refine Kd.C_drewN ?_ _) | (with_reducible refine Kd.C_drew ?_))); (case aB => exact (by repeat (first | (with_reducible first | exact HB.out | apply below_alloc | apply pw_below_drewN | apply below_drew1) | exact HB.out))); (case aF => exact (fun _ _ => trivial)); (case aO => exact ((Kd.R_nil _ _ _ _ (fun _ => True)))); (case aS => exact (below_size (by repeat (first | (with_reducible first | exact HB.out | apply below_alloc | apply pw_below_drewN | apply below_drew1) | exact HB.out)))); (case aL => have := LMc2.out; omega); intro v212 w3 ho hb hg hat; rw [← Ny211.out] at ho; have n0_ := Aside0.mk (hb); have n1_ := Aside0.mk (ho); clear HB; have HB := n0_; have HO213 := n1_; clear n0_ n1_; clear ho hb hg hat))
  go_ret
  exact ⟨_, by first | rfl | (simp [errW_none, errW_some] <;> rfl) | (simp [*, errW_none, errW_some] <;> rfl), by (with_reducible repeat (first | apply Kd.R_alloc | apply Kd.R_drewN | apply Kd.R_drew)); exact HO213.out, by repeat (first | (with_reducible first | exact HB.out | apply below_alloc | apply pw_below_drewN | apply below_drew1) | exact HB.out)⟩
 ·rw [if_neg c2] at H
  exact absurd H (by simp)

end Go.Proofs.YtibhenengpdahaaGreat.P

end
section
set_option linter.unusedVariables false
set_option linter.unusedSimpArgs false
namespace Go.Proofs.YtibhenengpdahaaGreat.P
open Go.RowKit Go.Proofs.YtibhenengpdahaaGreatW.PrintWords Go.Proofs.YtibhenengpdahaaGreatW.PrintLast Go.Proofs.YtibhenengpdahaaGreatW.PrintMore

theorem flatDocs : Flat k27 (fun x => [Value.int .i64 x.f0] ++ [Value.string x.f1]) := Flat.iso (Flat.pair (Flat.scalar _ _) (Flat.scalar _ _)) _
theorem infoDocs1 : ((Tryz.prog).info? 27).map (fun i => (i.zero, i.size, i.bytes)) = some (some (.agg #[.int .i64 0, .string ByteArray.empty]), 2, 24) := by kernel_rfl
theorem infoDocs : ∃ i z, (Tryz.prog).info? 27 = some i ∧ i.zero = some z ∧ i.size = (k27).sz ∧ i.bytes = 24 ∧ z.cells.size = (k27).sz := by
 have h : ((Tryz.prog).info? 27).map (fun i => (i.zero, i.size, i.bytes)) = some (some (.agg #[.int .i64 0, .string ByteArray.empty]), 2, 24) := by kernel_rfl
 obtain ⟨i, hi, he⟩ := Option.map_eq_some_iff.1 h
 simp only [Prod.mk.injEq] at he
 exact ⟨i, .agg #[.int .i64 0, .string ByteArray.empty], hi, he.1, he.2.1, he.2.2, rfl⟩
theorem infoDocsL : ((Tryz.prog).info? 22).map (fun i => (i.zero, i.size, i.bytes)) = some (some (.slice none 0 0), 1, 24) := by kernel_rfl
theorem lneDocs : (22 : TypeId) ≠ 27 := by decide
theorem sameDocs_l (l : List S27) (hl : l.length ≤ 1000000) : ∀ (m j k : Nat), m = l.length - j → j ≤ l.length → m + 1 ≤ k → scriniumbook_SameDocs.l0 k l l (j : Int) = some true := by
 intro m
 induction m with
 | zero =>
  intro j k hm hj hk
  obtain rfl : j = l.length := by omega
  obtain ⟨k1, rfl⟩ : ∃ k1, k = k1 + 1 := ⟨k - 1, by omega⟩
  rw [scriniumbook_SameDocs.l0, if_neg (by omega)]
 | succ m ih =>
  intro j k hm hj hk
  obtain ⟨k1, rfl⟩ : ∃ k1, k = k1 + 1 := ⟨k - 1, by omega⟩
  have hrec := ih (j + 1) k1 (by omega) (by omega) (by omega)
  have hw : wrap64 ((j : Int) + 1) = ((j + 1 : Nat) : Int) := bw64 (j + 1) (by omega)
  rw [scriniumbook_SameDocs.l0, if_pos (by omega), if_pos (by omega), if_pos (by omega), hw, if_pos (by simp)]
  exact hrec
theorem sameDocs_ok (l : List S27) (hl : l.length ≤ 1000000) (k : Nat) (hk : l.length + 1 ≤ k) : scriniumbook_SameDocs.f k l l = some true := by
 unfold scriniumbook_SameDocs.f
 rw [if_pos rfl]
 exact sameDocs_l l hl l.length 0 _ rfl (Nat.zero_le _) hk
theorem sameDocs_calls (a a' : Option Addr) (k k' : Nat) (xs : List S27) (w : World) (hC : Kd.C k27 w a xs.length xs) (hC' : Kd.C k27 w a' xs.length xs) (hk : xs.length ≤ k) (hk' : xs.length ≤ k') (hs : xs.length ≤ 1000000) :
  Calls Tryz.prog 15 #[.slice a xs.length k, .slice a' xs.length k'] w fun e w' => e = .returned (.bool true) ∧ Below w.heap.size w w' :=
 (scriniumbook_SameDocs.calls (xs.length + 1) a k xs a' k' xs true w hC hk hC' hk' (sameDocs_ok xs hs _ (Nat.le_refl _))).mono fun _ _ h => ⟨h.1, h.2.below⟩
theorem copyDocs_ok (l : List S27) (h : l.length ≤ 900000) : scriniumbook_copyDocs.f l = some l := by
 unfold scriniumbook_copyDocs.f
 rw [if_pos (by rw [List.length_nil]; omega), List.nil_append]
theorem copyDocs_calls (a : Option Addr) (k : Nat) (xs : List S27) (w : World) (hC : Kd.C k27 w a xs.length xs) (hk : xs.length ≤ k) (h : xs.length ≤ 900000) :
  Calls Tryz.prog 20 #[.slice a xs.length k] w fun e w' => ∃ v, e = .returned v ∧ Kd.R k27 27 w' w.heap.size (fun _ => True) v xs ∧ Below w.heap.size w w' :=
 scriniumbook_copyDocs.calls a k xs xs w hC hk (copyDocs_ok xs h)
/-- The mark at k of list i. -/
def mkDocs (i : Int) (k : Nat) : S27 := (⟨wrap64 ((wrap64 ((wrap64 ((-1000) * i)) - (k : Int))) - 1), (⟨#[]⟩ : ByteArray)⟩ : S27)
theorem markDocs_l (i : Int) (a n : Nat) (hn : a + n ≤ 1000000) : ∀ (m j k : Nat), m = n - j → j ≤ n → m + 1 ≤ k → scriniumbook_markDocs.l0 k i (a : Int) (n : Int) (marksOf mkDocs i a j) ((a + j : Nat) : Int) = some (marksOf mkDocs i a n) := by
 have hw : wrap64 ((a : Int) + (n : Int)) = ((a + n : Nat) : Int) := bw64 (a + n) (by omega)
 intro m
 induction m with
 | zero =>
  intro j k hm hj hk
  obtain rfl : j = n := by omega
  obtain ⟨k1, rfl⟩ : ∃ k1, k = k1 + 1 := ⟨k - 1, by omega⟩
  rw [scriniumbook_markDocs.l0, hw, if_neg (by omega)]
 | succ m ih =>
  intro j k hm hj hk
  obtain ⟨k1, rfl⟩ : ∃ k1, k = k1 + 1 := ⟨k - 1, by omega⟩
  have hrec := ih (j + 1) k1 (by omega) (by omega) (by omega)
  have hw2 : wrap64 (((a + j : Nat) : Int) + 1) = ((a + (j + 1) : Nat) : Int) := bw64 (a + j + 1) (by omega)
  rw [scriniumbook_markDocs.l0, hw, if_pos (by omega), if_pos (by rw [marks_len]; omega), hw2]
  rw [marks_succ] at hrec
  exact hrec
theorem markDocs_ok (i : Int) (a n k : Nat) (hn : a + n ≤ 1000000) (hk : n + 1 ≤ k) : scriniumbook_markDocs.f k i (a : Int) (n : Int) = some (marksOf mkDocs i a n) := markDocs_l i a n hn n 0 k rfl (Nat.zero_le _) hk
theorem markDocs_calls (i a n : Nat) (w : World) (hi : i ≤ 1000) (h : a + n ≤ 1000000) : Calls Tryz.prog 94 #[.int .i64 (i : Int), .int .i64 (a : Int), .int .i64 (n : Int)] w fun e w' => ∃ v, e = .returned v ∧ Kd.R k27 27 w' w.heap.size (fun _ => True) v (marksOf mkDocs (i : Int) a n) ∧ Below w.heap.size w w' :=
 scriniumbook_markDocs.calls (n + 1) (i : Int) (a : Int) (n : Int) (marksOf mkDocs (i : Int) a n) w (markDocs_ok _ _ _ _ h (Nat.le_refl _))
end Go.Proofs.YtibhenengpdahaaGreat.P

end
