/- What a story's order is. Conditions: how the events lie in memory. -/
import Derived.Test.YtgnmpfjpcdidjaaStQ
set_option linter.unusedVariables false
set_option linter.unusedSimpArgs false
namespace Go.Proofs.Ytgnmpfjpcdidjaa.P
open Go.RowKit Go.Proofs.YtgnmpfjpcdidjaaW.PrintWords Go.Proofs.YtgnmpfjpcdidjaaW.PrintLast Go.Proofs.YtgnmpfjpcdidjaaW.PrintMore

theorem infoPlace : ((Try.prog).info? 55).map (fun i => (i.zero, i.size, i.bytes)) = some (some (.agg #[.int .i64 0, .bool false, .int .i64 0, .int .i64 0]), 4, 32) := by kernel_rfl
theorem infoNum1 : ((Try.prog).info? 3).map (fun i => (i.zero, i.size, i.bytes)) = some (some (.int .i64 0), 1, 8) := by kernel_rfl
theorem order_no (v : Value) (w : World) (D : Calls Try.prog 12 #[v] w fun e w' => e = .returned (.tuple #[.pointer none, .slice none 0 0]) ∧ Below w.heap.size w w') : Calls Try.prog 6 #[v] w fun e w' => e = .returned (.tuple #[.slice none 0 0, .bool false]) ∧ Below w.heap.size w w' := by
  have DC := Aside0.mk D
  clear D
  go_enter Try.func6, Try.ntmps6
  go_wp2_with fail
  refine DC.out.mono ?_
  rintro en w1 ⟨rfl, hb⟩
  have HB := Aside0.mk hb
  clear hb
  go_wp2_with fail
  go_ret2
  exact ⟨rfl, HB.out⟩
set_option maxRecDepth 100000 in
theorem order_empty (v : Value) (w : World) (D : Calls Try.prog 12 #[v] w fun e w' => (∃ jb, e = .returned (.tuple #[.pointer (some ⟨jb, 0, none⟩), .slice none 0 0])) ∧ Below w.heap.size w w') : Calls Try.prog 6 #[v] w fun e w' => e = .returned (.tuple #[.slice none 0 0, .bool true]) ∧ Below w.heap.size w w' := by
  have DC := Aside0.mk D
  clear D
  go_enter Try.func6, Try.ntmps6
  go_wp2_with fail
  refine DC.out.mono ?_
  rintro en w1 ⟨⟨jb, rfl⟩, hb⟩
  have HB := Aside0.mk hb
  clear hb
  go_wp2_with fail
  refine wp_loop_rounds 1 ?_
  rw [rounds_succ]
  go_wp2_with fail
  refine (sortP_calls none 0 0 (Or.inl rfl) _ w1).mono ?_
  rintro en w2 ⟨rfl, rfl⟩
  go_wp2_with fail
  refine wp_loop_rounds 1 ?_
  rw [rounds_succ]
  go_wp2_with fail
  go_ret2
  exact ⟨rfl, HB.out⟩
theorem order_call (g cap : Nat) (c n k i f t s m : Int) (x : ByteArray) (w : World) (hg : w.rangeAt g 0 (evL c false n k i f t s x m)) : Calls Try.prog 6 #[.slice (some ⟨g, 0, none⟩) 1 cap] w fun e w' => e = .returned (.tuple #[.slice none 0 0, .bool (decide (0 ≤ n))]) ∧ Below w.heap.size w w' := by
  by_cases h : 0 ≤ n
  · rw [decide_eq_true h]
    exact order_empty _ w ((look_call g cap c n k i f t s m x w hg).mono fun e w' ⟨h1, _, hb⟩ => ⟨h1 h, hb⟩)
  · rw [decide_eq_false h]
    exact order_no _ w ((look_call g cap c n k i f t s m x w hg).mono fun e w' ⟨_, h2, hb⟩ => ⟨h2 (by omega), hb⟩)
set_option maxRecDepth 100000 in
set_option maxHeartbeats 8000000 in
theorem order_list (g cap : Nat) (w : World) (hg : w.rangeAt g 0 (evA false 0)) (hh : w.rangeAt g 17 (evA true 0)) : Calls Try.prog 6 #[.slice (some ⟨g, 0, none⟩) 2 cap] w fun e w' => ∃ A c, e = .returned (.tuple #[.slice A 1 c, .bool true]) ∧ 1 ≤ c ∧ Kd.C (Kd.int .i64) w' A 1 [1] ∧ Below w.heap.size w w' := by
  have DC := Aside0.mk (look_list g cap 0 w hg hh true rfl)
  have HG := Aside0.mk hg
  clear hg hh
  go_enter Try.func6, Try.ntmps6
  go_wp2_with fail
  refine DC.out.mono ?_
  rintro en w1 ⟨⟨h1, _⟩, hb⟩
  obtain ⟨jb, gv, mb, gd, cd, rfl, hJ, hD⟩ := h1 rfl
  have HB1 := Aside0.mk hb
  have HJ1 := Aside0.mk hJ
  have HD1 := Aside0.mk hD
  have HG1 := Aside0.mk (show w1.rangeAt g 0 (evA false 0) from fun j v hj => pw_cell_below hb (HG.out j v hj))
  clear hb hJ hD h1
  have HE1 := Aside0.mk HD1.out
  have HL := Aside0.mk (ra_last (w := w1) (cs := deedL 0) (t := 53) rfl)
  unfold deedL at HE1 HL
  have HX1 := Aside0.mk (below_alloc (Below.refl w1.heap.size w1) (.cells (deedL 0).toArray 53))
  have WH := Aside0.mk (where_calls 0 0 jb gv mb 2 g cap (w1.alloc (.cells (deedL 0).toArray 53)) (HJ1.out.below HX1.out) (ra_below HG1.out HX1.out))
  unfold deedL at HX1 WH
  go_wp2_with fail
  refine wp_loop_rounds 2 ?_
  rw [rounds_succ]
  go_wp2_with (first
    | (refine wpList_load_mid rfl 53 (.tmp 23) rfl gd 0 rfl _ _ HE1.out Try.underlying53 rfl (by kernel_rfl) ?_)
    | (refine wpList_store_row rfl 53 (.tmp 8) (.tmp 24) rfl w1.heap.size _ rfl rfl 53 _ (blk_last rfl) (by kernel_rfl) rfl (by simp [Value.oneCell']) ?_; rw [row_last rfl])
    | (refine wpList_load_mid rfl 53 (.tmp 8) rfl w1.heap.size 0 rfl _ _ HL.out Try.underlying53 rfl (by kernel_rfl) ?_))
  refine WH.out.mono ?_
  rintro en w2 ⟨rfl, hb⟩
  have HB2 := Aside0.mk (below_step HB1.out (below_step HX1.out hb))
  clear hb
  go_wp2_with (first
    | ((with_reducible refine gate_builtin (b := .append) (xs := #[.tmp 25, .tmp 30]) rfl ?_); at_builtin; refine Kd.R_append (Kd.raw 4) (w0 := w) w.heap.size rfl (.tmp 25) (.tmp 30) 51 55 _ 32 rfl Try.underlying51 infoPlace rfl (by decide) (by decide) (.slice none 0 0) ([] : List (List Value)) [.int .i64 1, .bool false, .int .i64 1, .int .i64 1] [.int .i64 1, .bool false, .int .i64 1, .int .i64 1] (fun _ => True) (fun _ => False) rfl rfl ⟨rfl, rfl, by simp [Value.oneCell']⟩ (fun _ h => h.elim) (fun _ _ => trivial) (Kd.R_nil _ _ _ _ _) HB2.out HB2.out.size (by decide) ?_; intro v3 w3 hR3 hB3 hG3 hA3; have HR3 := Aside0.mk hR3; have HB3 := Aside0.mk hB3; clear hR3 hB3 hG3 hA3))
  obtain ⟨g3, c3, rfl, hc3, hP3, hb3⟩ := raw_one HR3.out
  have HP3 := Aside0.mk hP3
  clear hc3 hP3 hb3 HR3
  rw [rounds_succ]
  go_wp2_with fail
  refine (sortP_calls (some ⟨g3, 0, none⟩) 1 c3 (Or.inr rfl) _ w3).mono ?_
  rintro en w4 ⟨rfl, rfl⟩
  have HB4 := Aside0.mk (below_alloc HB3.out (.cells #[.int .i64 1, .bool false, .int .i64 1, .int .i64 1] 55))
  go_wp2_with fail
  refine wp_loop_rounds 2 ?_
  rw [rounds_succ]
  go_wp2_with (first
    | (refine wpList_load_mid rfl 55 (.tmp 39) rfl g3 0 rfl _ _ HP3.out Try.underlying55 rfl (by kernel_rfl) ?_)
    | (refine wpList_store_row rfl 55 (.tmp 11) (.tmp 40) rfl w4.heap.size _ rfl rfl 55 _ (blk_last rfl) (by kernel_rfl) rfl (by simp [Value.oneCell']) ?_; rw [row_last rfl]; obtain ⟨W5, hW5⟩ : ∃ W, w4.alloc (.cells #[.int .i64 1, .bool false, .int .i64 1, .int .i64 1] 55) = W := ⟨_, rfl⟩; rw [hW5]; have q3 : W5.cell? ⟨w4.heap.size, 3, none⟩ = some (.int .i64 1) := (by rw [← hW5]; exact blk_cell' (blk_last rfl) 3); have HB5' := Aside0.mk (show Below w.heap.size w W5 by rw [← hW5]; exact HB4.out); clear hW5)
    | ((with_reducible refine gate_builtin (b := .append) (xs := #[.tmp 41, .tmp 44]) rfl ?_); at_builtin; refine Kd.R_append (Kd.int .i64) (w0 := w) w.heap.size rfl (.tmp 41) (.tmp 44) 28 3 (.int .i64 0) 8 rfl Try.underlying28 infoNum1 rfl (by decide) (by decide) (.slice none 0 0) ([] : List Int) 1 [.int .i64 1] (fun _ => True) (fun _ => False) rfl rfl rfl (fun _ h => h.elim) (fun _ _ => trivial) (Kd.R_nil _ _ _ _ _) HB5'.out HB5'.out.size (by decide) ?_; intro v5 w5 hR5 hB5 hG5 hA5; have HR5 := Aside0.mk hR5; have HB5 := Aside0.mk hB5; clear hR5 hB5 hG5 hA5 q3))
  obtain ⟨A5, c5, rfl⟩ := Kd.R_slice HR5.out
  have hC := (Kd.R_reads' HR5.out).2
  have HC := Aside0.mk hC
  clear hC
  rw [rounds_succ]
  go_wp2_with fail
  go_ret2
  exact ⟨A5, c5, rfl, HC.out.1, HC.out.2, HB5.out⟩
end Go.Proofs.Ytgnmpfjpcdidjaa.P
