/- The versions of a story without changes. Conditions: how the deeds lie in memory. -/
import Derived.Test.YtgnmpfjpcdidjaaStC
import Derived.KernelRfl
set_option linter.unusedVariables false
set_option linter.unusedSimpArgs false
namespace Go.Proofs.Ytgnmpfjpcdidjaa.P
open Go.RowKit Go.Proofs.YtgnmpfjpcdidjaaW.PrintWords Go.Proofs.YtgnmpfjpcdidjaaW.PrintLast Go.Proofs.YtgnmpfjpcdidjaaW.PrintMore

/-- A List that is over, and told a number m. -/
def deedL (m : Int) : List Value := [.int .i64 0, .int .i64 1, .int .i64 0, .bool true, .int .i64 0, .int .i64 6, .int .i64 0, .int .i64 0, .int .i64 0, .int .i64 0, .string ⟨#[]⟩, .int .i64 0, .int .i64 0, .int .i64 m, .string ⟨#[]⟩, .slice none 0 0, .slice none 0 0, .slice none 0 0, .complex .f64 0 0, .int .i64 0]
theorem changes_calls (m : Int) (w : World) : Calls Try.prog 19 #[.agg (deedL m).toArray] w fun e w' => e = .returned (.bool false) ∧ Below w.heap.size w w' := by
  unfold deedL
  go_enter Try.func19, Try.ntmps19
  go_wp2_with fail
  go_ret
  exact ⟨rfl, below_alloc (Below.refl _ _) _⟩
set_option maxRecDepth 100000 in
theorem drops_calls (m : Int) (w : World) : Calls Try.prog 18 #[.agg (deedL m).toArray] w fun e w' => e = .returned (.bool true) ∧ Below w.heap.size w w' := by
  have CH := Aside0.mk (changes_calls m (w.alloc (.cells (deedL m).toArray 53)))
  unfold deedL at CH ⊢
  go_enter Try.func18, Try.ntmps18
  go_wp2_with (first | (refine wpList_load_mid rfl 53 (.tmp 1) rfl w.heap.size 0 rfl _ _ (ra_last rfl) Try.underlying53 rfl (by kernel_rfl) ?_))
  refine CH.out.mono ?_
  rintro en w1 ⟨rfl, hb⟩
  have HB := Aside0.mk (below_step (below_alloc (Below.refl w.heap.size w) _) hb)
  clear hb
  go_wp2_with fail
  go_ret
  exact ⟨rfl, HB.out⟩
set_option maxRecDepth 100000 in
theorem indexDeed_calls (m : Int) (g c : Nat) (w : World) (hg : w.rangeAt g 0 (deedL m)) : Calls Try.prog 36 #[.slice (some ⟨g, 0, none⟩) 1 c, .func (.func 18) #[] #[]] w fun e w' => e = .returned (.int .i64 0) ∧ Below w.heap.size w w' := by
  have DR := Aside0.mk (drops_calls m w)
  unfold deedL at DR hg
  go_enter Try.func36, Try.ntmps36
  go_wp2_with fail
  refine wp_loop_rounds 2 ?_
  rw [rounds_succ]
  go_wp2_with (first | (refine wpList_load_mid rfl 53 (.tmp 14) rfl g 0 rfl _ _ hg Try.underlying53 rfl (by kernel_rfl) ?_))
  refine DR.out.mono ?_
  rintro en w1 ⟨rfl, hb⟩
  have HB := Aside0.mk hb
  clear hb
  go_wp2_with fail
  go_ret
  exact ⟨rfl, HB.out⟩
theorem ins_none (x : Value) (w : World) : Calls Try.prog 59 #[x, .int .i64 0, .int .i64 0, .func (.func 21) #[] #[]] w fun e w' => e = .returned (.tuple #[]) ∧ w' = w := by
  go_enter Try.func59, Try.ntmps59
  go_wp2_with fail
  refine wp_loop_rounds 1 ?_
  rw [rounds_succ]
  go_wp2_with fail
  go_end0
  exact ⟨rfl, rfl⟩
theorem stable_none (x : Value) (w : World) : Calls Try.prog 37 #[x, .int .i64 0, .func (.func 21) #[] #[]] w fun e w' => e = .returned (.tuple #[]) ∧ w' = w := by
  go_enter Try.func37, Try.ntmps37
  go_wp2_with fail
  refine wp_loop_rounds 1 ?_
  rw [rounds_succ]
  go_wp2_with fail
  refine (ins_none x w).mono ?_
  rintro en w1 ⟨rfl, rfl⟩
  go_wp2_with fail
  refine wp_loop_rounds 1 ?_
  rw [rounds_succ]
  go_wp2_with fail
  go_end0
  exact ⟨rfl, rfl⟩
theorem sortStable_none (A : Option Addr) (c : Nat) (w : World) : Calls Try.prog 20 #[.slice A 0 c, .func (.func 21) #[] #[]] w fun e w' => e = .returned (.tuple #[]) ∧ w' = w := by
  go_enter Try.func20, Try.ntmps20
  go_wp2_with fail
  refine (stable_none _ w).mono ?_
  rintro en w1 ⟨rfl, rfl⟩
  go_wp2_with fail
  go_end0
  exact ⟨rfl, rfl⟩
theorem deeds_nilA (n c : Nat) (W : World) : (binOp .eql 44 (.slice none n c) (.slice none 0 0)).run Try.prog W = .ok (.bool true) W := by kernel_rfl
theorem deeds_someA (ad : Addr) (n c : Nat) (W : World) : (binOp .eql 44 (.slice (some ad) n c) (.slice none 0 0)).run Try.prog W = .ok (.bool false) W := by kernel_rfl
theorem cloneD_none (w : World) : Calls Try.prog 17 #[.slice none 0 0] w fun e w' => e = .returned (.slice none 0 0) ∧ w' = w := by
  have q := deeds_nilA 0 0
  go_enter Try.func17, Try.ntmps17
  go_wp2_with fail
  go_ret
  exact ⟨rfl, rfl⟩
theorem indexD_none (F : Value) (w : World) : Calls Try.prog 36 #[.slice none 0 0, F] w fun e w' => e = .returned (.int .i64 (-1)) ∧ w' = w := by
  go_enter Try.func36, Try.ntmps36
  go_wp2_with fail
  refine wp_loop_rounds 1 ?_
  rw [rounds_succ]
  go_wp2_with fail
  go_ret
  exact ⟨rfl, rfl⟩
theorem deleteD_none (F : Value) (w : World) : Calls Try.prog 16 #[.slice none 0 0, F] w fun e w' => e = .returned (.slice none 0 0) ∧ w' = w := by
  go_enter Try.func16, Try.ntmps16
  go_wp2_with fail
  refine (indexD_none F w).mono ?_
  rintro en w1 ⟨rfl, rfl⟩
  go_wp2_with fail
  go_ret
  exact ⟨rfl, rfl⟩
def deedZ : List Value := [.int .i64 0, .int .i64 0, .int .i64 0, .bool false, .int .i64 0, .int .i64 0, .int .i64 0, .int .i64 0, .int .i64 0, .int .i64 0, .string ⟨#[]⟩, .int .i64 0, .int .i64 0, .int .i64 0, .string ⟨#[]⟩, .slice none 0 0, .slice none 0 0, .slice none 0 0, .complex .f64 0 0, .int .i64 0]
theorem deed_clear (g c' : Nat) (ty : TypeId) (w1 w2 : World) (h : (storeCells ⟨g, 0, none⟩ deedZ 0).run Try.prog w1 = .ok () w2) : (Builtin.clear_ #[44] ty #[.slice (some ⟨g, 0, none⟩) 1 c']).run Try.prog w1 = .ok (.tuple #[]) w2 := by
  have hz : (zeroValue 53).run Try.prog w1 = .ok (.agg deedZ.toArray) w1 := by kernel_rfl
  have hc : (Builtin.zeroCells (Value.agg deedZ.toArray).cells 1).toList = deedZ := by kernel_rfl
  unfold Builtin.clear_
  simp [run_underlying Try.underlying44, hz, hc, h, Result.andThen]
theorem infoDeedN : ((Try.prog).info? 53).map (·.size) = some 20 := by kernel_rfl
theorem deedM {w : World} {base : Nat} {ok : Nat → Prop} {x cs : List Value} {w1 : World} (h : (Kd.raw 20).K w1 x cs) : (Kd.raw 20).M w base ok x cs := h
theorem deedK (m : Int) (w : World) : (Kd.raw 20).K w (deedL m) (deedL m) := ⟨rfl, rfl, by simp [deedL, Value.oneCell']⟩
theorem deed_reads {w : World} {g : Nat} {m : Int} (h : w.rangeAt g 0 (deedL m)) : ReadsRow ((Kd.raw 20).K w) (Kd.raw 20).sz w (some ⟨g, 0, none⟩) 1 [deedL m] := by
  refine ⟨rfl, by decide, fun _ => ⟨⟨g, 0, none⟩, rfl, fun j p hp => ?_⟩⟩
  cases j with
  | zero =>
    cases hp
    refine ⟨deedL m, rfl, deedK m w, fun i u hu => ?_⟩
    rw [add_at, Nat.zero_mul]
    rw [Nat.zero_add]
    exact h i u hu
  | succ j => cases hp
theorem raw_block {e base : Nat} {ok : Nat → Prop} {w : World} {v : Value} {m : Int} (h : (Kd.raw 20).R e w base ok v [deedL m]) : ∃ g c, v = .slice (some ⟨g, 0, none⟩) 1 c ∧ 1 ≤ c ∧ w.rangeAt g 0 (deedL m) ∧ base ≤ g ∧ ∃ cur, w.heap[g]? = some (.cells cur e (0, 0)) ∧ 19 < cur.size := by
  obtain ⟨g, c, hv, hc, hg, hb⟩ := raw_one h
  obtain ⟨g', c', hv', _, _, cur, hcur⟩ := Kd.R_form h (by simp)
  rw [hv] at hv'
  injection hv' with h1 _ _
  injection h1 with h1
  injection h1 with h1
  subst h1
  have h2 := hg 19 _ rfl
  rw [blk_cell' hcur] at h2
  exact ⟨g, c, hv, hc, hg, hb, cur, hcur, (Array.getElem?_eq_some_iff.1 h2).1⟩
set_option maxRecDepth 100000 in
theorem deleteD_one (m : Int) (v : Value) (w0 w : World) (hB : Below w0.heap.size w0 w) (ho : (Kd.raw 20).R 53 w w0.heap.size (fun _ => True) v [deedL m]) :
    Calls Try.prog 16 #[v, .func (.func 18) #[] #[]] w fun e w' => ∃ A c, e = .returned (.slice A 0 c) ∧ Below w0.heap.size w0 w' := by
  obtain ⟨g, c, rfl, hc, hg, hbase, cur, hcur, hlt⟩ := raw_block ho
  have ID := Aside0.mk (indexDeed_calls m g c w hg)
  have HB := Aside0.mk hB
  have HC := Aside0.mk hcur
  obtain ⟨i0, hi0, hz0⟩ := Option.map_eq_some_iff.1 infoDeedN
  have hcut1 : ∀ W, (Instr.slice 44 (.slice (some ⟨g, 0, none⟩) 1 c) none (some (.int .i64 0)) none).run Try.prog W = .ok (.slice (some ⟨g, 0, none⟩) 0 c) W :=
    cut_to 44 53 .i64 Try.underlying44 hi0 (some ⟨g, 0, none⟩) 1 c 0 (by omega) (by omega) hc
  have hcut2 : ∀ W, (Instr.slice 44 (.slice (some ⟨g, 0, none⟩) 1 c) (some (.int .i64 0)) none none).run Try.prog W = .ok (.slice (some ⟨g, 0, none⟩) 1 c) W := fun W => by
    have h := cut_from 44 53 .i64 (P := Try.prog) Try.underlying44 hi0 20 hz0 (some ⟨g, 0, none⟩) 1 c (0 : Int) (by omega) (by omega) W
    rw [h, if_neg (by omega)]
    simp [Addr.add]
  have HLT := Aside0.mk hlt
  have HBS := Aside0.mk hbase
  clear ho hB hcur hg hi0 hz0 hlt hbase
  clear i0
  go_enter Try.func16, Try.ntmps16
  go_wp2_with fail
  refine ID.out.mono ?_
  rintro en w1 ⟨rfl, hb⟩
  have HB1 := Aside0.mk (below_step HB.out hb)
  have hst := run_storeCells_at (P := Try.prog) g 0 53 deedZ 0 cur w1 (blk_below HC.out hb) (by show 0 + 0 + 20 ≤ cur.size; have := HLT.out; omega) (by simp [deedZ, Value.oneCell'])
  obtain ⟨w2, hw2⟩ : ∃ W, W = (w1.setRow g (cur.toList.take (0 + 0) ++ deedZ ++ cur.toList.drop (0 + 0 + deedZ.length)).toArray) := ⟨_, rfl⟩
  rw [← hw2] at hst
  have hclr := fun ty => deed_clear g c ty w1 w2 hst
  have HB2 := Aside0.mk (show Below w0.heap.size w0 w2 by
    rw [hw2]
    refine ⟨HB1.out.os, HB1.out.tape, HB1.out.output, by simp only [World.setRow, Array.size_modify]; exact HB1.out.size, fun q hq => ?_⟩
    refine Eq.trans ?_ (HB1.out.block q hq)
    have : g ≠ q := by have := HBS.out; omega
    simp only [World.setRow, Array.getElem?_modify, if_neg this])
  clear hst hw2 hb
  go_wp2_with fail
  refine wp_loop_rounds 1 ?_
  rw [rounds_succ]
  go_wp2_with fail
  go_ret
  exact ⟨_, _, rfl, HB2.out⟩
theorem cloneD_one (m : Int) (g c : Nat) (w : World) (hg : w.rangeAt g 0 (deedL m)) :
    Calls Try.prog 17 #[.slice (some ⟨g, 0, none⟩) 1 c] w fun e w' => ∃ v, e = .returned v ∧ (Kd.raw 20).R 53 w' w.heap.size (fun _ => True) v [deedL m] ∧ Below w.heap.size w w' := by
  have HG := Aside0.mk hg
  have q := deeds_someA ⟨g, 0, none⟩ 1 c
  clear hg
  go_enter Try.func17, Try.ntmps17
  go_wp2_with (first
    | ((with_reducible refine gate_dst (N := 5) rfl ?_); refine Kd.R_lit (Kd.raw 20) _ 53 ?hg (N := 5) ?hd (xs := ([] : List (List Value))) (inner := []) (ok := fun _ => True) (okp := fun _ => True) ?hr ?hp (fun _ hk => hk) trivial (Below.refl _ _) (Nat.le_refl _) (by simp) ?_; (case hd => rfl); (case hg => rfl); (case hr => first | (go_simp; done) | (go_simp; rfl)); (case hp => exact Reps.none _ _); intro v5 w5 ho5 hb hg_ hnew_; clear hg_ hnew_; have HO5 := Aside0.mk ho5; have HB := Aside0.mk hb; clear hb ho5)
    | ((with_reducible refine gate_builtin (b := .append) (xs := #[.tmp 5, .tmp 6]) rfl ?_); at_builtin; refine Kd.R_append_rows (Kd.raw 20) (Rr := (Kd.raw 20).K w5) (w0 := w) w.heap.size rfl (.tmp 5) (.tmp 6) 44 53 _ 232 rfl Try.underlying44 infoDeed rfl (by decide) (by decide) v5 ([] : List (List Value)) [deedL m] _ _ _ (fun _ => True) (fun _ => False) rfl rfl ?aO ?aR (fun _ _ h => deedM h) (fun _ h => h.elim) ?aF ?aB ?aS ?aL ?_; (case aR => exact deed_reads (ra_below HG.out HB.out)); (case aB => exact HB.out); (case aF => exact (fun _ _ => trivial)); (case aO => exact HO5.out); (case aS => exact HB.out.size); (case aL => decide); intro v7 w7 ho hb hg hat; rw [List.nil_append] at ho; have HO7 := Aside0.mk ho; have HB7 := Aside0.mk hb; clear ho hb hg hat))
  go_ret
  exact ⟨_, rfl, HO7.out, HB7.out⟩
end Go.Proofs.Ytgnmpfjpcdidjaa.P
