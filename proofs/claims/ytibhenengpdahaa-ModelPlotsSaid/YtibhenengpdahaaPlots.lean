/- The law ModelPlots, walked. Conditions: how the list lies in memory. (Printed by genplots.py.) -/
import Derived.Test.YtibhenengpdahaaPlotsP
set_option linter.unusedVariables false
set_option linter.unusedSimpArgs false
namespace Go.Proofs.Ytibhenengpdahaa.P
open Go.RowKit Go.Proofs.YtibhenengpdahaaW.PrintWords Go.Proofs.YtibhenengpdahaaW.PrintLast Go.Proofs.YtibhenengpdahaaW.PrintMore
attribute [local go_sem] run_store_cx rep_field2 rep_field0

/-- What is known of a region's effects. -/
structure PlotSt where
  v1 : Value
  g3 : Nat
  A4 : Option Addr
  c4 : Nat
  g9 : Nat
def modelPlots.T5 : Bool × List (List Nat × List Nat) := (true, [([], []), ([0], [0]), ([], []), ([2], [2]), ([1, 3, 1], [1, 3]), ([], []), ([4, 5, 4], [4, 5]), ([], []), ([7, 6, 6, 0, 1, 2, 3, 4, 5, 6, 7], [6, 7])])
def modelPlots.B5 : List Nat := [0, 1, 0, 4, 15, 0, 63, 0, 255]
theorem modelPlots.tab5 : rtab .any (opsOf Try.f8 5) = modelPlots.T5 := by kernel_rfl
theorem modelPlots.bits5 : waitsOk modelPlots.T5.2 modelPlots.B5 = true := by kernel_rfl
def modelPlots.T6 : Bool × List (List Nat × List Nat) := (true, [([], []), ([0], [0]), ([], []), ([1, 2], [1, 2]), ([], []), ([3, 4, 3], [3, 4]), ([], []), ([6, 5, 5, 0, 1, 2, 3, 4, 5, 6], [5, 6])])
def modelPlots.B6 : List Nat := [0, 1, 0, 7, 0, 31, 0, 127]
theorem modelPlots.tab6 : rtab .any (opsOf Try.f8 6) = modelPlots.T6 := by kernel_rfl
theorem modelPlots.bits6 : waitsOk modelPlots.T6.2 modelPlots.B6 = true := by kernel_rfl
def modelPlots.T7 : Bool × List (List Nat × List Nat) := (true, [([], []), ([0], [0]), ([1], [1]), ([2], [2]), ([3], [3]), ([4, 3], [3, 4]), ([3], [3]), ([6, 3, 3], [3, 6]), ([5, 7, 3], [3, 5, 7]), ([3, 8], [3, 8]), ([9, 7], [9]), ([10], [10]), ([10], [10]), ([11, 12, 10, 10], [10, 11, 12]), ([10, 13], [10, 13]), ([14, 13], [14]), ([15], [15]), ([15], [15]), ([16, 17, 15, 15], [15, 16, 17]), ([18, 15], [15, 18]), ([19, 15], [15, 19]), ([15, 20], [15, 20]), ([21, 18, 0, 1, 2, 3, 4, 5, 6, 7, 8, 9, 10, 11, 12, 13, 14, 15, 16, 17, 18, 19, 20, 21], [21])])
def modelPlots.B7 : List Nat := [0, 1, 3, 7, 15, 31, 15, 79, 255, 511, 1023, 2047, 2047, 8191, 16383, 32767, 65535, 65535, 262143, 524287, 1048575, 2097151, 4194303]
theorem modelPlots.tab7 : rtab .any (opsOf Try.f8 7) = modelPlots.T7 := by kernel_rfl
theorem modelPlots.bits7 : waitsOk modelPlots.T7.2 modelPlots.B7 = true := by kernel_rfl
set_option maxRecDepth 100000 in
set_option maxHeartbeats 8000000 in
theorem plots_calls (A0 : Option Addr) (c0 : Nat) (l0 : List S42) (a1 : ByteArray) (a2 : Int) (w : World) (hr0 : Kd.C k42 w A0 l0.length l0) (hc0 : l0.length ≤ c0) :
    Calls Try.prog 8 #[.slice A0 l0.length c0, .string a1, .int .i64 a2] w fun e w' => e = .returned (.bool true) ∧ Below w.heap.size w w' := by
  have HR := Aside0.mk hr0
  have HC := Aside0.mk hc0
  have AL := Aside0.mk aliveM_calls
  go_enter Try.func8, Try.ntmps8
  by_cases h1 : 9 < l0.length
  · have t1 : decide ((9 : Int) < (l0.length : Int)) = true := decide_eq_true (by omega)
    go_wp2_with fail
    refine (AL.out _).mono ?_
    rintro en wx ⟨rfl, hb⟩
    have HBx := Aside0.mk hb
    clear hb
    go_wp2_with fail
    go_ret
    exact ⟨rfl, HBx.out⟩
  have t1 : decide ((9 : Int) < (l0.length : Int)) = false := decide_eq_false (by omega)
  by_cases h2 : 40 < a1.size
  · have t2 : decide ((40 : Int) < (a1.size : Int)) = true := decide_eq_true (by omega)
    go_wp2_with fail
    refine (AL.out _).mono ?_
    rintro en wx ⟨rfl, hb⟩
    have HBx := Aside0.mk hb
    clear hb
    go_wp2_with fail
    go_ret
    exact ⟨rfl, HBx.out⟩
  have t2 : decide ((40 : Int) < (a1.size : Int)) = false := decide_eq_false (by omega)
  have MR := Aside0.mk (fun w' (hr : Kd.C k42 w' A0 l0.length l0) => model_Right.calls (2 * l0.length + 2) A0 c0 l0 (modelB l0) w' hr hc0 (modelRight_ok l0 (by omega) _ (Nat.le_refl _)))
  have PL := Aside0.mk (fun w' (hr : Kd.C k42 w' A0 l0.length l0) => scriniumref1_Place.calls (l0.length + 1) A0 c0 l0 a2 (findOf l0 a2) w' hr hc0 (place_find l0 a2 (by omega)))
  go_wp2_with fail
  refine (MR.out _ HR.out).mono ?_
  rintro en w2 ⟨rfl, hb⟩
  have HB2 := Aside0.mk hb
  clear hb
  have RET := Aside0.mk (fun wy (h : Below w.heap.size w wy) => (AL.out wy).mono (fun e w' (q : e = .returned (.bool true) ∧ Below wy.heap.size wy w') => (⟨q.1, below_step h q.2⟩ : e = .returned (.bool true) ∧ Below w.heap.size w w')))
  cases e1 : modelB l0 with
  | false =>
    go_wp2_with fail
    refine (RET.out _ HB2.out).mono ?_
    rintro en wx ⟨rfl, hb⟩
    have HBx := Aside0.mk hb
    clear hb
    go_wp2_with fail
    go_ret
    exact ⟨rfl, HBx.out⟩
  | true =>
    have D0 := (modelB_iff l0).1 e1
    by_cases h3 : a2 < 1
    · have t3 : decide (a2 < 1) = true := decide_eq_true h3
      go_wp2_with fail
      refine (RET.out _ HB2.out).mono ?_
      rintro en wx ⟨rfl, hb⟩
      have HBx := Aside0.mk hb
      clear hb
      go_wp2_with fail
      go_ret
      exact ⟨rfl, HBx.out⟩
    have t3 : decide (a2 < 1) = false := decide_eq_false h3
    by_cases h4 : 65535 < a2
    · have t4 : decide (65535 < a2) = true := decide_eq_true h4
      go_wp2_with fail
      refine (RET.out _ HB2.out).mono ?_
      rintro en wx ⟨rfl, hb⟩
      have HBx := Aside0.mk hb
      clear hb
      go_wp2_with fail
      go_ret
      exact ⟨rfl, HBx.out⟩
    have t4 : decide (65535 < a2) = false := decide_eq_false h4
    go_wp2_with fail
    refine (PL.out _ (Kd.C_below HR.out HB2.out)).mono ?_
    rintro en w3 ⟨rfl, hd⟩
    have HB3 := Aside0.mk (below_step HB2.out hd.below)
    clear hd
    by_cases h5 : 0 ≤ findOf l0 a2
    · have t5 : decide (0 ≤ findOf l0 a2) = true := decide_eq_true h5
      go_wp2_with fail
      refine (RET.out _ HB3.out).mono ?_
      rintro en wx ⟨rfl, hb⟩
      have HBx := Aside0.mk hb
      clear hb
      go_wp2_with fail
      go_ret
      exact ⟨rfl, HBx.out⟩
    have t5 : decide (0 ≤ findOf l0 a2) = false := decide_eq_false h5
    go_wp2_with fail
    refine (RET.out _ HB3.out).mono ?_
    rintro en w4 ⟨rfl, hb⟩
    have HB4 := Aside0.mk hb
    clear hb
    have hno := find_neg (show findOf l0 a2 < 0 by omega)
    have DE := docs_push D0 a2 a1 (by omega) (by omega) hno (by omega)
    have DF := docs_front D0 a2 a1 (by omega) (by omega) hno (by omega)
    have HLEN : Aside0 (l0.length ≤ 9) := ⟨by omega⟩
    obtain ⟨ea, eb, hE, hQ1, hQ2⟩ := end_cx a1 (by omega)
    have HQ := Aside0.mk (And.intro hQ1 hQ2)
    have hlE : (l0 ++ [(⟨a2, a1⟩ : S42)]).length = l0.length + 1 := by rw [List.length_append]; rfl
    have pE := part_whole DE l0.length (by omega) a2 a1 (by simp)
    have pF := part_whole DF 0 (by rw [List.length_cons]; omega) a2 a1 rfl
    have AN1 := Aside0.mk (fun (A : Option Addr) (c : Nat) w' (hr : Kd.C k42 w' A (l0.length + 1) (l0 ++ [⟨a2, a1⟩])) (hc : l0.length + 1 ≤ c) => by
      have h := plot_ok A c (l0 ++ [⟨a2, a1⟩]) a2 (a1.size : Int) a1 ea eb w' (by rw [hlE]; exact hr) (by rw [hlE]; exact hc) (by rw [hlE]; omega) (may_plot DE a2 a1.size (by omega) (by omega) (by omega)) pE hE
      rw [hlE] at h
      exact h)
    have AN2 := Aside0.mk (fun (A : Option Addr) (c : Nat) w' (hr : Kd.C k42 w' A (l0.length + 1) (⟨a2, a1⟩ :: l0)) (hc : l0.length + 1 ≤ c) => plot_ok A c (⟨a2, a1⟩ :: l0) a2 (a1.size : Int) a1 ea eb w' hr hc (by rw [List.length_cons]; omega) (may_plot DF a2 a1.size (by omega) (by omega) (by omega)) pF hE)
    have AN3 := Aside0.mk (fun w' (hr : Kd.C k42 w' A0 l0.length l0) => by
      have h := answer_plot A0 c0 l0 7 a2 0 (a1.size : Int) 0 ⟨#[]⟩ w' hr HC.out (by omega) (may_plot D0 a2 a1.size (by omega) (by omega) (by omega)) rfl
      rw [part_absent l0 a2 0 _ hno, if_neg (show ¬ (4 : Int) = 0 by decide)] at h
      exact h)
    unfold repCells nilS zeroC at AN3
    have RE := Aside0.mk (fun w' => by
      have h := Wk.refEnd_calls a1 (by omega) w'
      rw [show Wk.encP (Wk.pos (bytesOf a1)) = .complex .f64 ea eb from hE] at h
      exact h)
    have SR := Aside0.mk (sameReply_plot 0 ea eb hQ1 hQ2)
    obtain ⟨W3, hW3⟩ : ∃ W, w4.alloc (.cells #[.int .i64 a2, .string a1] 42) = W := ⟨_, rfl⟩
    obtain ⟨W4, hW4⟩ : ∃ W, W3.alloc (.cells #[.int .i64 7, .int .i64 a2, .int .i64 0, .int .i64 a1.size, .int .i64 0, .string ⟨#[]⟩] 29) = W := ⟨_, rfl⟩
    have hb3 : Below w4.heap.size w4 W3 := by rw [← hW3]; exact below_alloc (Below.refl _ _) _
    have hb4 : Below W3.heap.size W3 W4 := by rw [← hW4]; exact below_alloc (Below.refl _ _) _
    have H0 := Aside0.mk (below_step HB4.out (below_step hb3 hb4))
    have KD0 : Aside0 (W4.cell? ⟨w4.heap.size, 0, none⟩ = some (.int .i64 a2)) := ⟨pw_cell_below hb4 (by rw [← hW3]; exact cell_newA w4 _ _ 0 _ rfl)⟩
    have KD1 : Aside0 (W4.cell? ⟨w4.heap.size, 1, none⟩ = some (.string a1)) := ⟨pw_cell_below hb4 (by rw [← hW3]; exact cell_newA w4 _ _ 1 _ rfl)⟩
    have KA0 : Aside0 (W4.cell? ⟨W3.heap.size, 0, none⟩ = some (.int .i64 7)) := ⟨by rw [← hW4]; exact cell_newA W3 _ _ 0 _ rfl⟩
    have KA1 : Aside0 (W4.cell? ⟨W3.heap.size, 1, none⟩ = some (.int .i64 a2)) := ⟨by rw [← hW4]; exact cell_newA W3 _ _ 1 _ rfl⟩
    have KA2 : Aside0 (W4.cell? ⟨W3.heap.size, 2, none⟩ = some (.int .i64 0)) := ⟨by rw [← hW4]; exact cell_newA W3 _ _ 2 _ rfl⟩
    have KA3 : Aside0 (W4.cell? ⟨W3.heap.size, 3, none⟩ = some (.int .i64 a1.size)) := ⟨by rw [← hW4]; exact cell_newA W3 _ _ 3 _ rfl⟩
    have KA4 : Aside0 (W4.cell? ⟨W3.heap.size, 4, none⟩ = some (.int .i64 0)) := ⟨by rw [← hW4]; exact cell_newA W3 _ _ 4 _ rfl⟩
    have KA5 : Aside0 (W4.cell? ⟨W3.heap.size, 5, none⟩ = some (.string ⟨#[]⟩)) := ⟨by rw [← hW4]; exact cell_newA W3 _ _ 5 _ rfl⟩
    have W3E := Aside0.mk hW3
    have W4E := Aside0.mk hW4
    clear hW3 hW4 hb3 hb4 hQ1 hQ2 hE pE pF DE DF hno hlE D0
    go_wp2_with fail
    rw [W3E.out, W4E.out]
    obtain ⟨bd, hbd⟩ : ∃ b, w4.heap.size = b := ⟨_, rfl⟩
    have hsz3 : W3.heap.size = bd + 1 := by rw [← hbd, ← W3E.out]; exact Array.size_push _
    rw [hbd] at KD0 KD1 ⊢
    rw [hsz3] at KA0 KA1 KA2 KA3 KA4 KA5
    clear hbd hsz3
    have kd0 := KD0.out
    have kd1 := KD1.out
    have ka0 := KA0.out
    have ka1 := KA1.out
    have ka2 := KA2.out
    have ka3 := KA3.out
    have ka4 := KA4.out
    have ka5 := KA5.out
    refine start_ (n := 9) (S := fun w' => Below W4.heap.size W4 w') (ds := []) #[false, false, false, false, false, false, false, false, false] (by kernel_rfl) rfl rfl (below_drew1 (Below.refl _ _)) (fun hHeld => ?_)
    refine with_tabW modelPlots.tab5 modelPlots.bits5 (fun HT_ HW_ => ?_)
    refine take_ (i := 0) (N := some 50) (v := ?_) (a' := ?_) #[true, false, false, false, false, false, false, false, false] rfl rfl (take_ofW HT_.out HW_.out (by kernel_rfl)) (fun _ _ _ h => h) (Or.inl ⟨by rfl, ?_⟩) hHeld ?_ ?_
    rotate_left
    · intro w' s
      go_simp
      with_reducible rfl
    rotate_left
    · simp only [putAll, Act.put, List.setIfInBounds_toArray, List.set_cons_zero, List.set_cons_succ, i64_w, i32_w]
      rfl
    refine take_ (i := 2) (N := some 52) (v := ?_) (a' := ?_) #[true, false, true, false, false, false, false, false, false] rfl rfl (take_ofW HT_.out HW_.out (by kernel_rfl)) (fun _ _ _ h => h) (Or.inl ⟨by rfl, ?_⟩) hHeld ?_ ?_
    rotate_left
    · intro w' s
      have s0 := pw_cell_below s kd0
      have s1 := pw_cell_below s kd1
      have s2 := pw_cell_below s ka0
      have s3 := pw_cell_below s ka1
      have s4 := pw_cell_below s ka2
      have s5 := pw_cell_below s ka3
      have s6 := pw_cell_below s ka4
      have s7 := pw_cell_below s ka5
      go_simp
      with_reducible rfl
    rotate_left
    · simp only [putAll, Act.put, List.setIfInBounds_toArray, List.set_cons_zero, List.set_cons_succ, i64_w, i32_w]
      rfl
    refine take_ (i := 5) (N := some 55) (v := ?_) (a' := ?_) #[true, false, true, false, false, true, false, false, false] rfl rfl (take_ofW HT_.out HW_.out (by kernel_rfl)) (fun _ _ _ h => h) (Or.inl ⟨by rfl, ?_⟩) hHeld ?_ ?_
    rotate_left
    · intro w' s
      have s0 := pw_cell_below s kd0
      have s1 := pw_cell_below s kd1
      have s2 := pw_cell_below s ka0
      have s3 := pw_cell_below s ka1
      have s4 := pw_cell_below s ka2
      have s5 := pw_cell_below s ka3
      have s6 := pw_cell_below s ka4
      have s7 := pw_cell_below s ka5
      go_simp
      with_reducible rfl
    rotate_left
    · simp only [putAll, Act.put, List.setIfInBounds_toArray, List.set_cons_zero, List.set_cons_succ, i64_w, i32_w]
      rfl
    refine join_ (σ := PlotSt) 1 #[true, true, true, true, true, true, true, true, false] (fun s => [(51, s.v1), (53, .slice (some ⟨s.g3, 0, none⟩) 1 1), (54, .slice s.A4 (l0.length + 1) s.c4), (56, .agg #[.int .i64 0, .int .i64 0, .int .i64 0, .string ⟨#[]⟩, .slice none 0 0, .slice none 0 0, .slice none 0 0, .complex .f64 ea eb]), (9, .pointer (some ⟨s.g9, 0, none⟩))]) (fun s w' => Below W4.heap.size W4 w' ∧ (w'.heap[s.g9]? = some (.cells #[.int .i64 0, .int .i64 0, .int .i64 0, .string ⟨#[]⟩, .slice none 0 0, .slice none 0 0, .slice none 0 0, .complex .f64 0 0] 34 (0, 0)) ∧ W4.heap.size ≤ s.g9)) ?fin5 ?_
    rotate_left
    intro hj1_3_4_6_7
    refine join_ (σ := PlotSt) 2 #[true, true, true, true, true, true, true, false, false] (fun s => [(51, s.v1), (53, .slice (some ⟨s.g3, 0, none⟩) 1 1), (54, .slice s.A4 (l0.length + 1) s.c4), (56, .agg #[.int .i64 0, .int .i64 0, .int .i64 0, .string ⟨#[]⟩, .slice none 0 0, .slice none 0 0, .slice none 0 0, .complex .f64 ea eb])]) (fun s w' => Below W4.heap.size W4 w') ?_ ?_
    · rintro ⟨v1, g3, A4, c4, g9⟩ w1 hB
      skip
      refine norm_ (a' := ?_) ?_ ?_
      rotate_left
      · simp only [putAll, Act.put, List.setIfInBounds_toArray, List.set_cons_zero, List.set_cons_succ, i64_w, i32_w]
        rfl
      refine one_ (i := 7) (N := some 9) #[true, true, true, true, true, true, true, true, false] rfl rfl (one_of HT_.out (by kernel_rfl)) (by decide) (fun K hK => ?_)
      refine value_ (v := .pointer (some ⟨w1.heap.size, 0, none⟩)) (w1 := w1.alloc (.cells #[.int .i64 0, .int .i64 0, .int .i64 0, .string ⟨#[]⟩, .slice none 0 0, .slice none 0 0, .slice none 0 0, .complex .f64 0 0] 34)) (by rfl) rfl (by first | (go_simp; done) | (go_simp; rfl)) (hK.out _ _ (below_alloc hB _) (fun _ => ?_))
      exact hj1_3_4_6_7 (⟨v1, g3, A4, c4, w1.heap.size⟩ : PlotSt) _ ⟨(below_alloc hB _), ⟨(heap_alloc_new w1 _), hB.size⟩⟩
    intro hj1_3_4_6
    refine join_ (σ := PlotSt) 2 #[true, true, true, true, true, true, false, true, false] (fun s => [(51, s.v1), (53, .slice (some ⟨s.g3, 0, none⟩) 1 1), (54, .slice s.A4 (l0.length + 1) s.c4), (9, .pointer (some ⟨s.g9, 0, none⟩))]) (fun s w' => Below W4.heap.size W4 w' ∧ (Kd.C k42 w' s.A4 (l0.length + 1) (l0 ++ [⟨a2, a1⟩]) ∧ (l0.length + 1) ≤ s.c4) ∧ (w'.heap[s.g9]? = some (.cells #[.int .i64 0, .int .i64 0, .int .i64 0, .string ⟨#[]⟩, .slice none 0 0, .slice none 0 0, .slice none 0 0, .complex .f64 0 0] 34 (0, 0)) ∧ W4.heap.size ≤ s.g9)) ?_ ?_
    · rintro ⟨v1, g3, A4, c4, g9⟩ w1 ⟨hB, ⟨hC, hle⟩, ⟨hZ, hg⟩⟩
      dsimp only at hC hle hZ hg
      refine norm_ (a' := ?_) ?_ ?_
      rotate_left
      · simp only [putAll, Act.put, List.setIfInBounds_toArray, List.set_cons_zero, List.set_cons_succ, i64_w, i32_w]
        rfl
      refine one_ (i := 6) (N := some 56) #[true, true, true, true, true, true, true, true, false] rfl rfl (one_of HT_.out (by kernel_rfl)) (by decide) (fun K hK => ?_)
      refine goes_ Try.func12 (by kernel_rfl) rfl #[.slice A4 (l0.length + 1) c4, .agg #[.int .i64 7, .int .i64 a2, .int .i64 0, .int .i64 a1.size, .int .i64 0, .string ⟨#[]⟩]] (by rfl) rfl rfl (by (try simp only [List.map_toArray, List.map_cons, List.map_nil]); first | done | rfl | (simp only [List.length_drop, List.length_take]; rfl)) ?_
      refine (AN1.out A4 c4 _ hC hle).mono ?_
      rintro en w2 ⟨rfl, hb'⟩
      refine ⟨_, rfl, ?_⟩
      refine hK.out _ _ (below_step hB hb') (fun _ => ?_)
      exact hj1_3_4_6_7 (⟨v1, g3, A4, c4, g9⟩ : PlotSt) _ ⟨(below_step hB hb'), ⟨blk_below hZ hb', hg⟩⟩
    intro hj1_3_4_7
    refine join_ (σ := PlotSt) 3 #[true, true, true, true, true, true, false, false, false] (fun s => [(51, s.v1), (53, .slice (some ⟨s.g3, 0, none⟩) 1 1), (54, .slice s.A4 (l0.length + 1) s.c4)]) (fun s w' => Below W4.heap.size W4 w' ∧ (Kd.C k42 w' s.A4 (l0.length + 1) (l0 ++ [⟨a2, a1⟩]) ∧ (l0.length + 1) ≤ s.c4)) ?_ ?_
    · rintro ⟨v1, g3, A4, c4, g9⟩ w1 ⟨hB, ⟨hC, hle⟩⟩
      dsimp only at hC hle
      refine norm_ (a' := ?_) ?_ ?_
      rotate_left
      · simp only [putAll, Act.put, List.setIfInBounds_toArray, List.set_cons_zero, List.set_cons_succ, i64_w, i32_w]
        rfl
      refine two_ (i := 6) (j := 7) #[true, true, true, true, true, true, true, false, false] #[true, true, true, true, true, true, false, true, false] rfl rfl rfl rfl (two_of HT_.out (by kernel_rfl)) (by decide) (by decide) (fun K hK => ?_) (fun K hK => ?_)
      · refine goes_ Try.func12 (by kernel_rfl) rfl #[.slice A4 (l0.length + 1) c4, .agg #[.int .i64 7, .int .i64 a2, .int .i64 0, .int .i64 a1.size, .int .i64 0, .string ⟨#[]⟩]] (by rfl) rfl rfl (by (try simp only [List.map_toArray, List.map_cons, List.map_nil]); first | done | rfl | (simp only [List.length_drop, List.length_take]; rfl)) ?_
        refine (AN1.out A4 c4 _ hC hle).mono ?_
        rintro en w2 ⟨rfl, hb'⟩
        refine ⟨_, rfl, ?_⟩
        refine hK.out _ _ (below_step hB hb') (fun _ => ?_)
        exact hj1_3_4_6 (⟨v1, g3, A4, c4, g9⟩ : PlotSt) _ (below_step hB hb')
      · refine value_ (v := .pointer (some ⟨w1.heap.size, 0, none⟩)) (w1 := w1.alloc (.cells #[.int .i64 0, .int .i64 0, .int .i64 0, .string ⟨#[]⟩, .slice none 0 0, .slice none 0 0, .slice none 0 0, .complex .f64 0 0] 34)) (by rfl) rfl (by first | (go_simp; done) | (go_simp; rfl)) (hK.out _ _ (below_alloc hB _) (fun _ => ?_))
        exact hj1_3_4_7 (⟨v1, g3, A4, c4, w1.heap.size⟩ : PlotSt) _ ⟨(below_alloc hB _), ⟨Kd.C_below hC (below_alloc (Below.refl w1.heap.size w1) _), hle⟩, ⟨(heap_alloc_new w1 _), hB.size⟩⟩
    intro hj1_3_4
    refine join_ (σ := PlotSt) 3 #[true, true, true, true, false, true, false, true, false] (fun s => [(51, s.v1), (53, .slice (some ⟨s.g3, 0, none⟩) 1 1), (9, .pointer (some ⟨s.g9, 0, none⟩))]) (fun s w' => Below W4.heap.size W4 w' ∧ Kd.R k42 42 w' W4.heap.size (fun _ => True) s.v1 l0 ∧ w'.heap[s.g3]? = some (.cells #[.int .i64 a2, .string a1] 42 (0, 0)) ∧ (w'.heap[s.g9]? = some (.cells #[.int .i64 0, .int .i64 0, .int .i64 0, .string ⟨#[]⟩, .slice none 0 0, .slice none 0 0, .slice none 0 0, .complex .f64 0 0] 34 (0, 0)) ∧ W4.heap.size ≤ s.g9)) ?_ ?_
    · rintro ⟨v1, g3, A4, c4, g9⟩ w1 ⟨hB, hR, hL, ⟨hZ, hg⟩⟩
      dsimp only at hR hL hZ hg
      refine norm_ (a' := ?_) ?_ ?_
      rotate_left
      · simp only [putAll, Act.put, List.setIfInBounds_toArray, List.set_cons_zero, List.set_cons_succ, i64_w, i32_w]
        rfl
      refine one_ (i := 4) (N := some 54) #[true, true, true, true, true, true, false, true, false] rfl rfl (one_of HT_.out (by kernel_rfl)) (by decide) (fun K hK => ?_)
      refine Kd.R_append_rows_step k42 (Rr := k42.K w1) (w0 := W4) W4.heap.size (by rfl) (.tmp 51) (.tmp 53) 22 42 (.agg #[.int .i64 0, .string ⟨#[]⟩]) 24 rfl Try.underlying22 infoDocL rfl (by decide) (by omega) v1 l0 [⟨a2, a1⟩] (some ⟨g3, 0, none⟩) 1 1 (fun _ => True) (fun _ => False) rfl rfl hR (lit_doc hL) (fun _ _ h => docML h) (fun _ h => h.elim) (fun _ _ => trivial) hB hB.size (by have := HLEN.out; (try simp only [List.length_cons, List.length_nil]); omega) ?_
      intro v4 w2 hR' hB' hG' _
      obtain ⟨A4', c4', hv4⟩ := Kd.R_slice hR'
      rw [show (l0 ++ [⟨a2, a1⟩] : List S42).length = (l0.length + 1) from by rw [List.length_append]; rfl] at hv4
      subst hv4
      obtain ⟨_, hle', hC'⟩ := Kd.R_reads' hR'
      rw [show (l0 ++ [⟨a2, a1⟩] : List S42).length = (l0.length + 1) from by rw [List.length_append]; rfl] at hC'
      refine hK.out _ _ hB' (fun _ => ?_)
      exact hj1_3_4_7 (⟨v1, g3, A4', c4', g9⟩ : PlotSt) _ ⟨hB', ⟨hC', hle'⟩, ⟨blk_grown hZ hG' (doc_own_ne hR hZ), hg⟩⟩
    intro hj1_3_7
    refine join_ (σ := PlotSt) 4 #[true, true, true, true, false, true, false, false, false] (fun s => [(51, s.v1), (53, .slice (some ⟨s.g3, 0, none⟩) 1 1)]) (fun s w' => Below W4.heap.size W4 w' ∧ Kd.R k42 42 w' W4.heap.size (fun _ => True) s.v1 l0 ∧ w'.heap[s.g3]? = some (.cells #[.int .i64 a2, .string a1] 42 (0, 0))) ?_ ?_
    · rintro ⟨v1, g3, A4, c4, g9⟩ w1 ⟨hB, hR, hL⟩
      dsimp only at hR hL
      refine norm_ (a' := ?_) ?_ ?_
      rotate_left
      · simp only [putAll, Act.put, List.setIfInBounds_toArray, List.set_cons_zero, List.set_cons_succ, i64_w, i32_w]
        rfl
      refine two_ (i := 4) (j := 7) #[true, true, true, true, true, true, false, false, false] #[true, true, true, true, false, true, false, true, false] rfl rfl rfl rfl (two_of HT_.out (by kernel_rfl)) (by decide) (by decide) (fun K hK => ?_) (fun K hK => ?_)
      · refine Kd.R_append_rows_step k42 (Rr := k42.K w1) (w0 := W4) W4.heap.size (by rfl) (.tmp 51) (.tmp 53) 22 42 (.agg #[.int .i64 0, .string ⟨#[]⟩]) 24 rfl Try.underlying22 infoDocL rfl (by decide) (by omega) v1 l0 [⟨a2, a1⟩] (some ⟨g3, 0, none⟩) 1 1 (fun _ => True) (fun _ => False) rfl rfl hR (lit_doc hL) (fun _ _ h => docML h) (fun _ h => h.elim) (fun _ _ => trivial) hB hB.size (by have := HLEN.out; (try simp only [List.length_cons, List.length_nil]); omega) ?_
        intro v4 w2 hR' hB' hG' _
        obtain ⟨A4', c4', hv4⟩ := Kd.R_slice hR'
        rw [show (l0 ++ [⟨a2, a1⟩] : List S42).length = (l0.length + 1) from by rw [List.length_append]; rfl] at hv4
        subst hv4
        obtain ⟨_, hle', hC'⟩ := Kd.R_reads' hR'
        rw [show (l0 ++ [⟨a2, a1⟩] : List S42).length = (l0.length + 1) from by rw [List.length_append]; rfl] at hC'
        refine hK.out _ _ hB' (fun _ => ?_)
        exact hj1_3_4 (⟨v1, g3, A4', c4', g9⟩ : PlotSt) _ ⟨hB', ⟨hC', hle'⟩⟩
      · refine value_ (v := .pointer (some ⟨w1.heap.size, 0, none⟩)) (w1 := w1.alloc (.cells #[.int .i64 0, .int .i64 0, .int .i64 0, .string ⟨#[]⟩, .slice none 0 0, .slice none 0 0, .slice none 0 0, .complex .f64 0 0] 34)) (by rfl) rfl (by first | (go_simp; done) | (go_simp; rfl)) (hK.out _ _ (below_alloc hB _) (fun _ => ?_))
        exact hj1_3_7 (⟨v1, g3, A4, c4, w1.heap.size⟩ : PlotSt) _ ⟨(below_alloc hB _), (Kd.R_alloc hR _), (blk_below hL (below_alloc (Below.refl w1.heap.size w1) _)), ⟨(heap_alloc_new w1 _), hB.size⟩⟩
    intro hj1_3
    refine join_ (σ := PlotSt) 4 #[true, true, true, false, false, true, false, true, false] (fun s => [(51, s.v1), (9, .pointer (some ⟨s.g9, 0, none⟩))]) (fun s w' => Below W4.heap.size W4 w' ∧ Kd.R k42 42 w' W4.heap.size (fun _ => True) s.v1 l0 ∧ (w'.heap[s.g9]? = some (.cells #[.int .i64 0, .int .i64 0, .int .i64 0, .string ⟨#[]⟩, .slice none 0 0, .slice none 0 0, .slice none 0 0, .complex .f64 0 0] 34 (0, 0)) ∧ W4.heap.size ≤ s.g9)) ?_ ?_
    · rintro ⟨v1, g3, A4, c4, g9⟩ w1 ⟨hB, hR, ⟨hZ, hg⟩⟩
      dsimp only at hR hZ hg
      refine norm_ (a' := ?_) ?_ ?_
      rotate_left
      · simp only [putAll, Act.put, List.setIfInBounds_toArray, List.set_cons_zero, List.set_cons_succ, i64_w, i32_w]
        rfl
      refine one_ (i := 3) (N := some 53) #[true, true, true, true, false, true, false, true, false] rfl rfl (one_of HT_.out (by kernel_rfl)) (by decide) (fun K hK => ?_)
      refine value_ (v := .slice (some ⟨w1.heap.size, 0, none⟩) 1 1) (w1 := w1.alloc (.cells #[.int .i64 a2, .string a1] 42)) (by rfl) rfl (by first | (go_simp; done) | (go_simp; rfl)) (hK.out _ _ (below_alloc hB _) (fun _ => ?_))
      exact hj1_3_7 (⟨v1, w1.heap.size, A4, c4, g9⟩ : PlotSt) _ ⟨(below_alloc hB _), (Kd.R_alloc hR _), (heap_alloc_new w1 _), ⟨blk_below hZ (below_alloc (Below.refl w1.heap.size w1) _), hg⟩⟩
    intro hj1_7
    refine join_ (σ := PlotSt) 4 #[true, false, true, true, false, true, false, true, false] (fun s => [(53, .slice (some ⟨s.g3, 0, none⟩) 1 1), (9, .pointer (some ⟨s.g9, 0, none⟩))]) (fun s w' => Below W4.heap.size W4 w' ∧ w'.heap[s.g3]? = some (.cells #[.int .i64 a2, .string a1] 42 (0, 0)) ∧ (w'.heap[s.g9]? = some (.cells #[.int .i64 0, .int .i64 0, .int .i64 0, .string ⟨#[]⟩, .slice none 0 0, .slice none 0 0, .slice none 0 0, .complex .f64 0 0] 34 (0, 0)) ∧ W4.heap.size ≤ s.g9)) ?_ ?_
    · rintro ⟨v1, g3, A4, c4, g9⟩ w1 ⟨hB, hL, ⟨hZ, hg⟩⟩
      dsimp only at hL hZ hg
      refine norm_ (a' := ?_) ?_ ?_
      rotate_left
      · simp only [putAll, Act.put, List.setIfInBounds_toArray, List.set_cons_zero, List.set_cons_succ, i64_w, i32_w]
        rfl
      refine one_ (i := 1) (N := some 51) #[true, true, true, true, false, true, false, true, false] rfl rfl (one_of HT_.out (by kernel_rfl)) (by decide) (fun K hK => ?_)
      refine Kd.R_append_rows_step k42 (Rr := k42.K w1) (w0 := W4) W4.heap.size (by rfl) (.const (.slice none 0 0)) (.tmp 50) 22 42 (.agg #[.int .i64 0, .string ⟨#[]⟩]) 24 rfl Try.underlying22 infoDocL rfl (by decide) (by omega) (.slice none 0 0) [] l0 A0 l0.length c0 (fun _ => True) (fun _ => False) rfl rfl (Kd.R_nil _ _ _ _ _) (Kd.C_below HR.out (below_step H0.out hB)) (fun _ _ h => docML h) (fun _ h => h.elim) (fun _ _ => trivial) hB hB.size (by have := HLEN.out; rw [List.length_nil]; omega) ?_
      intro v1' w2 hR' hB' hG' _
      rw [List.nil_append] at hR'
      refine hK.out _ _ hB' (fun _ => ?_)
      exact hj1_3_7 (⟨v1', g3, A4, c4, g9⟩ : PlotSt) _ ⟨hB', hR', (blk_grown hL hG' (fun e => by cases e)), ⟨blk_grown hZ hG' (fun e => by cases e), hg⟩⟩
    intro hj3_7
    refine join_ (σ := PlotSt) 5 #[true, true, true, false, false, true, false, false, false] (fun s => [(51, s.v1)]) (fun s w' => Below W4.heap.size W4 w' ∧ Kd.R k42 42 w' W4.heap.size (fun _ => True) s.v1 l0) ?_ ?_
    · rintro ⟨v1, g3, A4, c4, g9⟩ w1 ⟨hB, hR⟩
      dsimp only at hR
      refine norm_ (a' := ?_) ?_ ?_
      rotate_left
      · simp only [putAll, Act.put, List.setIfInBounds_toArray, List.set_cons_zero, List.set_cons_succ, i64_w, i32_w]
        rfl
      refine two_ (i := 3) (j := 7) #[true, true, true, true, false, true, false, false, false] #[true, true, true, false, false, true, false, true, false] rfl rfl rfl rfl (two_of HT_.out (by kernel_rfl)) (by decide) (by decide) (fun K hK => ?_) (fun K hK => ?_)
      · refine value_ (v := .slice (some ⟨w1.heap.size, 0, none⟩) 1 1) (w1 := w1.alloc (.cells #[.int .i64 a2, .string a1] 42)) (by rfl) rfl (by first | (go_simp; done) | (go_simp; rfl)) (hK.out _ _ (below_alloc hB _) (fun _ => ?_))
        exact hj1_3 (⟨v1, w1.heap.size, A4, c4, g9⟩ : PlotSt) _ ⟨(below_alloc hB _), (Kd.R_alloc hR _), (heap_alloc_new w1 _)⟩
      · refine value_ (v := .pointer (some ⟨w1.heap.size, 0, none⟩)) (w1 := w1.alloc (.cells #[.int .i64 0, .int .i64 0, .int .i64 0, .string ⟨#[]⟩, .slice none 0 0, .slice none 0 0, .slice none 0 0, .complex .f64 0 0] 34)) (by rfl) rfl (by first | (go_simp; done) | (go_simp; rfl)) (hK.out _ _ (below_alloc hB _) (fun _ => ?_))
        exact hj1_7 (⟨v1, g3, A4, c4, w1.heap.size⟩ : PlotSt) _ ⟨(below_alloc hB _), (Kd.R_alloc hR _), ⟨(heap_alloc_new w1 _), hB.size⟩⟩
    intro hj1
    refine join_ (σ := PlotSt) 5 #[true, false, true, true, false, true, false, false, false] (fun s => [(53, .slice (some ⟨s.g3, 0, none⟩) 1 1)]) (fun s w' => Below W4.heap.size W4 w' ∧ w'.heap[s.g3]? = some (.cells #[.int .i64 a2, .string a1] 42 (0, 0))) ?_ ?_
    · rintro ⟨v1, g3, A4, c4, g9⟩ w1 ⟨hB, hL⟩
      dsimp only at hL
      refine norm_ (a' := ?_) ?_ ?_
      rotate_left
      · simp only [putAll, Act.put, List.setIfInBounds_toArray, List.set_cons_zero, List.set_cons_succ, i64_w, i32_w]
        rfl
      refine two_ (i := 1) (j := 7) #[true, true, true, true, false, true, false, false, false] #[true, false, true, true, false, true, false, true, false] rfl rfl rfl rfl (two_of HT_.out (by kernel_rfl)) (by decide) (by decide) (fun K hK => ?_) (fun K hK => ?_)
      · refine Kd.R_append_rows_step k42 (Rr := k42.K w1) (w0 := W4) W4.heap.size (by rfl) (.const (.slice none 0 0)) (.tmp 50) 22 42 (.agg #[.int .i64 0, .string ⟨#[]⟩]) 24 rfl Try.underlying22 infoDocL rfl (by decide) (by omega) (.slice none 0 0) [] l0 A0 l0.length c0 (fun _ => True) (fun _ => False) rfl rfl (Kd.R_nil _ _ _ _ _) (Kd.C_below HR.out (below_step H0.out hB)) (fun _ _ h => docML h) (fun _ h => h.elim) (fun _ _ => trivial) hB hB.size (by have := HLEN.out; rw [List.length_nil]; omega) ?_
        intro v1' w2 hR' hB' hG' _
        rw [List.nil_append] at hR'
        refine hK.out _ _ hB' (fun _ => ?_)
        exact hj1_3 (⟨v1', g3, A4, c4, g9⟩ : PlotSt) _ ⟨hB', hR', (blk_grown hL hG' (fun e => by cases e))⟩
      · refine value_ (v := .pointer (some ⟨w1.heap.size, 0, none⟩)) (w1 := w1.alloc (.cells #[.int .i64 0, .int .i64 0, .int .i64 0, .string ⟨#[]⟩, .slice none 0 0, .slice none 0 0, .slice none 0 0, .complex .f64 0 0] 34)) (by rfl) rfl (by first | (go_simp; done) | (go_simp; rfl)) (hK.out _ _ (below_alloc hB _) (fun _ => ?_))
        exact hj3_7 (⟨v1, g3, A4, c4, w1.heap.size⟩ : PlotSt) _ ⟨(below_alloc hB _), (blk_below hL (below_alloc (Below.refl w1.heap.size w1) _)), ⟨(heap_alloc_new w1 _), hB.size⟩⟩
    intro hj3
    refine join_ (σ := PlotSt) 5 #[true, false, true, false, false, true, false, true, false] (fun s => [(9, .pointer (some ⟨s.g9, 0, none⟩))]) (fun s w' => Below W4.heap.size W4 w' ∧ (w'.heap[s.g9]? = some (.cells #[.int .i64 0, .int .i64 0, .int .i64 0, .string ⟨#[]⟩, .slice none 0 0, .slice none 0 0, .slice none 0 0, .complex .f64 0 0] 34 (0, 0)) ∧ W4.heap.size ≤ s.g9)) ?_ ?_
    · rintro ⟨v1, g3, A4, c4, g9⟩ w1 ⟨hB, ⟨hZ, hg⟩⟩
      dsimp only at hZ hg
      refine norm_ (a' := ?_) ?_ ?_
      rotate_left
      · simp only [putAll, Act.put, List.setIfInBounds_toArray, List.set_cons_zero, List.set_cons_succ, i64_w, i32_w]
        rfl
      refine two_ (i := 1) (j := 3) #[true, true, true, false, false, true, false, true, false] #[true, false, true, true, false, true, false, true, false] rfl rfl rfl rfl (two_of HT_.out (by kernel_rfl)) (by decide) (by decide) (fun K hK => ?_) (fun K hK => ?_)
      · refine Kd.R_append_rows_step k42 (Rr := k42.K w1) (w0 := W4) W4.heap.size (by rfl) (.const (.slice none 0 0)) (.tmp 50) 22 42 (.agg #[.int .i64 0, .string ⟨#[]⟩]) 24 rfl Try.underlying22 infoDocL rfl (by decide) (by omega) (.slice none 0 0) [] l0 A0 l0.length c0 (fun _ => True) (fun _ => False) rfl rfl (Kd.R_nil _ _ _ _ _) (Kd.C_below HR.out (below_step H0.out hB)) (fun _ _ h => docML h) (fun _ h => h.elim) (fun _ _ => trivial) hB hB.size (by have := HLEN.out; rw [List.length_nil]; omega) ?_
        intro v1' w2 hR' hB' hG' _
        rw [List.nil_append] at hR'
        refine hK.out _ _ hB' (fun _ => ?_)
        exact hj1_7 (⟨v1', g3, A4, c4, g9⟩ : PlotSt) _ ⟨hB', hR', ⟨blk_grown hZ hG' (fun e => by cases e), hg⟩⟩
      · refine value_ (v := .slice (some ⟨w1.heap.size, 0, none⟩) 1 1) (w1 := w1.alloc (.cells #[.int .i64 a2, .string a1] 42)) (by rfl) rfl (by first | (go_simp; done) | (go_simp; rfl)) (hK.out _ _ (below_alloc hB _) (fun _ => ?_))
        exact hj3_7 (⟨v1, w1.heap.size, A4, c4, g9⟩ : PlotSt) _ ⟨(below_alloc hB _), (heap_alloc_new w1 _), ⟨blk_below hZ (below_alloc (Below.refl w1.heap.size w1) _), hg⟩⟩
    intro hj7
    have hB := hHeld
    obtain ⟨w1, hw1⟩ : ∃ x, W4.drew = x := ⟨_, rfl⟩
    rw [hw1] at hB ⊢
    clear hHeld hw1
    refine three_ (i := 1) (j := 3) (k := 7) #[true, true, true, false, false, true, false, false, false] #[true, false, true, true, false, true, false, false, false] #[true, false, true, false, false, true, false, true, false] rfl rfl rfl rfl rfl rfl (three_of HT_.out (by kernel_rfl)) (by decide) (by decide) (by decide) (fun K hK => ?_) (fun K hK => ?_) (fun K hK => ?_)
    · refine Kd.R_append_rows_step k42 (Rr := k42.K w1) (w0 := W4) W4.heap.size (by rfl) (.const (.slice none 0 0)) (.tmp 50) 22 42 (.agg #[.int .i64 0, .string ⟨#[]⟩]) 24 rfl Try.underlying22 infoDocL rfl (by decide) (by omega) (.slice none 0 0) [] l0 A0 l0.length c0 (fun _ => True) (fun _ => False) rfl rfl (Kd.R_nil _ _ _ _ _) (Kd.C_below HR.out (below_step H0.out hB)) (fun _ _ h => docML h) (fun _ h => h.elim) (fun _ _ => trivial) hB hB.size (by have := HLEN.out; rw [List.length_nil]; omega) ?_
      intro v1' w2 hR' hB' hG' _
      rw [List.nil_append] at hR'
      refine hK.out _ _ hB' (fun _ => ?_)
      exact hj1 (⟨v1', 0, none, 0, 0⟩ : PlotSt) _ ⟨hB', hR'⟩
    · refine value_ (v := .slice (some ⟨w1.heap.size, 0, none⟩) 1 1) (w1 := w1.alloc (.cells #[.int .i64 a2, .string a1] 42)) (by rfl) rfl (by first | (go_simp; done) | (go_simp; rfl)) (hK.out _ _ (below_alloc hB _) (fun _ => ?_))
      exact hj3 (⟨undef, w1.heap.size, none, 0, 0⟩ : PlotSt) _ ⟨(below_alloc hB _), (heap_alloc_new w1 _)⟩
    · refine value_ (v := .pointer (some ⟨w1.heap.size, 0, none⟩)) (w1 := w1.alloc (.cells #[.int .i64 0, .int .i64 0, .int .i64 0, .string ⟨#[]⟩, .slice none 0 0, .slice none 0 0, .slice none 0 0, .complex .f64 0 0] 34)) (by rfl) rfl (by first | (go_simp; done) | (go_simp; rfl)) (hK.out _ _ (below_alloc hB _) (fun _ => ?_))
      exact hj7 (⟨undef, 0, none, 0, w1.heap.size⟩ : PlotSt) _ ⟨(below_alloc hB _), ⟨(heap_alloc_new w1 _), hB.size⟩⟩
    case fin5 =>
    rintro ⟨v1, g3, A4, c4, g9⟩ w1 ⟨hB, ⟨hZ, hg⟩⟩
    dsimp only at hZ hg
    refine norm_ (a' := ?_) ?_ ?_
    rotate_left
    · simp only [putAll, Act.put, List.setIfInBounds_toArray, List.set_cons_zero, List.set_cons_succ, i64_w, i32_w]
      rfl
    obtain ⟨wz, hrs, hz, hbz⟩ := rep_put [.int .i64 0, .int .i64 0, .int .i64 0, .string ⟨#[]⟩, .slice none 0 0, .slice none 0 0, .slice none 0 0, .complex .f64 ea eb] hZ rfl rfl (by simp [Value.oneCell']) W4.heap.size hg
    refine one_ (i := 8) (N := none) #[true, true, true, true, true, true, true, true, true] rfl rfl (one_of HT_.out (by kernel_rfl)) (by decide) (fun K hK => ?_)
    refine skip_ (w1 := wz) (by rfl) rfl (store_runs rfl rfl rfl hrs) (hK.out _ _ (hB.trans hbz) (fun _ => ?_))
    clear hK K
    refine done_ (done_of HT_.out (by kernel_rfl)) ?_
    have HZ5 := Aside0.mk hz
    have HS5 := Aside0.mk (hB.trans hbz)
    clear hrs hz hbz hB hZ hg
    try clear HT_ HW_
    obtain ⟨wp, hwp⟩ : ∃ x, wz = x := ⟨_, rfl⟩
    rw [hwp] at HZ5 HS5 ⊢
    clear kd0 kd1 ka0 ka1 ka2 ka3 ka4 ka5
    have kd0 := pw_cell_below HS5.out KD0.out
    have kd1 := pw_cell_below HS5.out KD1.out
    have ka0 := pw_cell_below HS5.out KA0.out
    have ka1 := pw_cell_below HS5.out KA1.out
    have ka2 := pw_cell_below HS5.out KA2.out
    have ka3 := pw_cell_below HS5.out KA3.out
    have ka4 := pw_cell_below HS5.out KA4.out
    have ka5 := pw_cell_below HS5.out KA5.out
    have H0' := H0
    have H0 := Aside0.mk (below_step H0'.out HS5.out)
    go_wp2_with fail
    refine start_ (n := 8) (S := fun w' => Below wp.heap.size wp w') (ds := []) #[false, false, false, false, false, false, false, false] (by kernel_rfl) rfl rfl (below_drew1 (Below.refl _ _)) (fun hHeld => ?_)
    refine with_tabW modelPlots.tab6 modelPlots.bits6 (fun HT_ HW_ => ?_)
    refine take_ (i := 0) (N := some 57) (v := ?_) (a' := ?_) #[true, false, false, false, false, false, false, false] rfl rfl (take_ofW HT_.out HW_.out (by kernel_rfl)) (fun _ _ _ h => h) (Or.inl ⟨by rfl, ?_⟩) hHeld ?_ ?_
    rotate_left
    · intro w' s
      have s0 := pw_cell_below s kd0
      have s1 := pw_cell_below s kd1
      have s2 := pw_cell_below s ka0
      have s3 := pw_cell_below s ka1
      have s4 := pw_cell_below s ka2
      have s5 := pw_cell_below s ka3
      have s6 := pw_cell_below s ka4
      have s7 := pw_cell_below s ka5
      go_simp
      with_reducible rfl
    rotate_left
    · simp only [putAll, Act.put, List.setIfInBounds_toArray, List.set_cons_zero, List.set_cons_succ, i64_w, i32_w]
      rfl
    refine take_ (i := 2) (N := some 59) (v := ?_) (a' := ?_) #[true, false, true, false, false, false, false, false] rfl rfl (take_ofW HT_.out HW_.out (by kernel_rfl)) (fun _ _ _ h => h) (Or.inl ⟨by rfl, ?_⟩) hHeld ?_ ?_
    rotate_left
    · intro w' s
      go_simp
      with_reducible rfl
    rotate_left
    · simp only [putAll, Act.put, List.setIfInBounds_toArray, List.set_cons_zero, List.set_cons_succ, i64_w, i32_w]
      rfl
    refine take_ (i := 4) (N := some 61) (v := ?_) (a' := ?_) #[true, false, true, false, true, false, false, false] rfl rfl (take_ofW HT_.out HW_.out (by kernel_rfl)) (fun _ _ _ h => h) (Or.inl ⟨by rfl, ?_⟩) hHeld ?_ ?_
    rotate_left
    · intro w' s
      have s0 := pw_cell_below s kd0
      have s1 := pw_cell_below s kd1
      have s2 := pw_cell_below s ka0
      have s3 := pw_cell_below s ka1
      have s4 := pw_cell_below s ka2
      have s5 := pw_cell_below s ka3
      have s6 := pw_cell_below s ka4
      have s7 := pw_cell_below s ka5
      go_simp
      with_reducible rfl
    rotate_left
    · simp only [putAll, Act.put, List.setIfInBounds_toArray, List.set_cons_zero, List.set_cons_succ, i64_w, i32_w]
      rfl
    refine join_ (σ := PlotSt) 1 #[true, true, true, true, true, true, true, false] (fun s => [(58, s.v1), (60, .slice s.A4 (l0.length + 1) s.c4), (62, .agg #[.int .i64 0, .int .i64 0, .int .i64 0, .string ⟨#[]⟩, .slice none 0 0, .slice none 0 0, .slice none 0 0, .complex .f64 ea eb]), (10, .pointer (some ⟨s.g9, 0, none⟩))]) (fun s w' => Below wp.heap.size wp w' ∧ (w'.heap[s.g9]? = some (.cells #[.int .i64 0, .int .i64 0, .int .i64 0, .string ⟨#[]⟩, .slice none 0 0, .slice none 0 0, .slice none 0 0, .complex .f64 0 0] 34 (0, 0)) ∧ wp.heap.size ≤ s.g9)) ?fin6 ?_
    rotate_left
    intro hj1_3_5_6
    refine join_ (σ := PlotSt) 2 #[true, true, true, true, true, true, false, false] (fun s => [(58, s.v1), (60, .slice s.A4 (l0.length + 1) s.c4), (62, .agg #[.int .i64 0, .int .i64 0, .int .i64 0, .string ⟨#[]⟩, .slice none 0 0, .slice none 0 0, .slice none 0 0, .complex .f64 ea eb])]) (fun s w' => Below wp.heap.size wp w') ?_ ?_
    · rintro ⟨v1, g3, A4, c4, g9⟩ w1 hB
      skip
      refine norm_ (a' := ?_) ?_ ?_
      rotate_left
      · simp only [putAll, Act.put, List.setIfInBounds_toArray, List.set_cons_zero, List.set_cons_succ, i64_w, i32_w]
        rfl
      refine one_ (i := 6) (N := some 10) #[true, true, true, true, true, true, true, false] rfl rfl (one_of HT_.out (by kernel_rfl)) (by decide) (fun K hK => ?_)
      refine value_ (v := .pointer (some ⟨w1.heap.size, 0, none⟩)) (w1 := w1.alloc (.cells #[.int .i64 0, .int .i64 0, .int .i64 0, .string ⟨#[]⟩, .slice none 0 0, .slice none 0 0, .slice none 0 0, .complex .f64 0 0] 34)) (by rfl) rfl (by first | (go_simp; done) | (go_simp; rfl)) (hK.out _ _ (below_alloc hB _) (fun _ => ?_))
      exact hj1_3_5_6 (⟨v1, g3, A4, c4, w1.heap.size⟩ : PlotSt) _ ⟨(below_alloc hB _), ⟨(heap_alloc_new w1 _), hB.size⟩⟩
    intro hj1_3_5
    refine join_ (σ := PlotSt) 2 #[true, true, true, true, true, false, true, false] (fun s => [(58, s.v1), (60, .slice s.A4 (l0.length + 1) s.c4), (10, .pointer (some ⟨s.g9, 0, none⟩))]) (fun s w' => Below wp.heap.size wp w' ∧ (Kd.C k42 w' s.A4 (l0.length + 1) (⟨a2, a1⟩ :: l0) ∧ (l0.length + 1) ≤ s.c4) ∧ (w'.heap[s.g9]? = some (.cells #[.int .i64 0, .int .i64 0, .int .i64 0, .string ⟨#[]⟩, .slice none 0 0, .slice none 0 0, .slice none 0 0, .complex .f64 0 0] 34 (0, 0)) ∧ wp.heap.size ≤ s.g9)) ?_ ?_
    · rintro ⟨v1, g3, A4, c4, g9⟩ w1 ⟨hB, ⟨hC, hle⟩, ⟨hZ, hg⟩⟩
      dsimp only at hC hle hZ hg
      refine norm_ (a' := ?_) ?_ ?_
      rotate_left
      · simp only [putAll, Act.put, List.setIfInBounds_toArray, List.set_cons_zero, List.set_cons_succ, i64_w, i32_w]
        rfl
      refine one_ (i := 5) (N := some 62) #[true, true, true, true, true, true, true, false] rfl rfl (one_of HT_.out (by kernel_rfl)) (by decide) (fun K hK => ?_)
      refine goes_ Try.func12 (by kernel_rfl) rfl #[.slice A4 (l0.length + 1) c4, .agg #[.int .i64 7, .int .i64 a2, .int .i64 0, .int .i64 a1.size, .int .i64 0, .string ⟨#[]⟩]] (by rfl) rfl rfl (by (try simp only [List.map_toArray, List.map_cons, List.map_nil]); first | done | rfl | (simp only [List.length_drop, List.length_take]; rfl)) ?_
      refine (AN2.out A4 c4 _ hC hle).mono ?_
      rintro en w2 ⟨rfl, hb'⟩
      refine ⟨_, rfl, ?_⟩
      refine hK.out _ _ (below_step hB hb') (fun _ => ?_)
      exact hj1_3_5_6 (⟨v1, g3, A4, c4, g9⟩ : PlotSt) _ ⟨(below_step hB hb'), ⟨blk_below hZ hb', hg⟩⟩
    intro hj1_3_6
    refine join_ (σ := PlotSt) 3 #[true, true, true, true, true, false, false, false] (fun s => [(58, s.v1), (60, .slice s.A4 (l0.length + 1) s.c4)]) (fun s w' => Below wp.heap.size wp w' ∧ (Kd.C k42 w' s.A4 (l0.length + 1) (⟨a2, a1⟩ :: l0) ∧ (l0.length + 1) ≤ s.c4)) ?_ ?_
    · rintro ⟨v1, g3, A4, c4, g9⟩ w1 ⟨hB, ⟨hC, hle⟩⟩
      dsimp only at hC hle
      refine norm_ (a' := ?_) ?_ ?_
      rotate_left
      · simp only [putAll, Act.put, List.setIfInBounds_toArray, List.set_cons_zero, List.set_cons_succ, i64_w, i32_w]
        rfl
      refine two_ (i := 5) (j := 6) #[true, true, true, true, true, true, false, false] #[true, true, true, true, true, false, true, false] rfl rfl rfl rfl (two_of HT_.out (by kernel_rfl)) (by decide) (by decide) (fun K hK => ?_) (fun K hK => ?_)
      · refine goes_ Try.func12 (by kernel_rfl) rfl #[.slice A4 (l0.length + 1) c4, .agg #[.int .i64 7, .int .i64 a2, .int .i64 0, .int .i64 a1.size, .int .i64 0, .string ⟨#[]⟩]] (by rfl) rfl rfl (by (try simp only [List.map_toArray, List.map_cons, List.map_nil]); first | done | rfl | (simp only [List.length_drop, List.length_take]; rfl)) ?_
        refine (AN2.out A4 c4 _ hC hle).mono ?_
        rintro en w2 ⟨rfl, hb'⟩
        refine ⟨_, rfl, ?_⟩
        refine hK.out _ _ (below_step hB hb') (fun _ => ?_)
        exact hj1_3_5 (⟨v1, g3, A4, c4, g9⟩ : PlotSt) _ (below_step hB hb')
      · refine value_ (v := .pointer (some ⟨w1.heap.size, 0, none⟩)) (w1 := w1.alloc (.cells #[.int .i64 0, .int .i64 0, .int .i64 0, .string ⟨#[]⟩, .slice none 0 0, .slice none 0 0, .slice none 0 0, .complex .f64 0 0] 34)) (by rfl) rfl (by first | (go_simp; done) | (go_simp; rfl)) (hK.out _ _ (below_alloc hB _) (fun _ => ?_))
        exact hj1_3_6 (⟨v1, g3, A4, c4, w1.heap.size⟩ : PlotSt) _ ⟨(below_alloc hB _), ⟨Kd.C_below hC (below_alloc (Below.refl w1.heap.size w1) _), hle⟩, ⟨(heap_alloc_new w1 _), hB.size⟩⟩
    intro hj1_3
    refine join_ (σ := PlotSt) 3 #[true, true, true, false, true, false, true, false] (fun s => [(58, s.v1), (10, .pointer (some ⟨s.g9, 0, none⟩))]) (fun s w' => Below wp.heap.size wp w' ∧ Kd.R k42 42 w' wp.heap.size (fun _ => True) s.v1 [⟨a2, a1⟩] ∧ (w'.heap[s.g9]? = some (.cells #[.int .i64 0, .int .i64 0, .int .i64 0, .string ⟨#[]⟩, .slice none 0 0, .slice none 0 0, .slice none 0 0, .complex .f64 0 0] 34 (0, 0)) ∧ wp.heap.size ≤ s.g9)) ?_ ?_
    · rintro ⟨v1, g3, A4, c4, g9⟩ w1 ⟨hB, hR, ⟨hZ, hg⟩⟩
      dsimp only at hR hZ hg
      refine norm_ (a' := ?_) ?_ ?_
      rotate_left
      · simp only [putAll, Act.put, List.setIfInBounds_toArray, List.set_cons_zero, List.set_cons_succ, i64_w, i32_w]
        rfl
      refine one_ (i := 3) (N := some 60) #[true, true, true, true, true, false, true, false] rfl rfl (one_of HT_.out (by kernel_rfl)) (by decide) (fun K hK => ?_)
      refine Kd.R_append_rows_step k42 (Rr := k42.K w1) (w0 := wp) wp.heap.size (by rfl) (.tmp 58) (.tmp 59) 22 42 (.agg #[.int .i64 0, .string ⟨#[]⟩]) 24 rfl Try.underlying22 infoDocL rfl (by decide) (by omega) v1 [⟨a2, a1⟩] l0 A0 l0.length c0 (fun _ => True) (fun _ => False) rfl rfl hR (Kd.C_below HR.out (below_step H0.out hB)) (fun _ _ h => docML h) (fun _ h => h.elim) (fun _ _ => trivial) hB hB.size (by have := HLEN.out; (try simp only [List.length_cons, List.length_nil]); omega) ?_
      intro v4 w2 hR' hB' hG' _
      obtain ⟨A4', c4', hv4⟩ := Kd.R_slice hR'
      rw [show ([⟨a2, a1⟩] ++ l0 : List S42).length = (l0.length + 1) from by rw [List.length_append]; simp; omega] at hv4
      subst hv4
      obtain ⟨_, hle', hC'⟩ := Kd.R_reads' hR'
      rw [show ([⟨a2, a1⟩] ++ l0 : List S42).length = (l0.length + 1) from by rw [List.length_append]; simp; omega] at hC'
      refine hK.out _ _ hB' (fun _ => ?_)
      exact hj1_3_6 (⟨v1, g3, A4', c4', g9⟩ : PlotSt) _ ⟨hB', ⟨hC', hle'⟩, ⟨blk_grown hZ hG' (doc_own_ne hR hZ), hg⟩⟩
    intro hj1_6
    refine join_ (σ := PlotSt) 4 #[true, true, true, false, true, false, false, false] (fun s => [(58, s.v1)]) (fun s w' => Below wp.heap.size wp w' ∧ Kd.R k42 42 w' wp.heap.size (fun _ => True) s.v1 [⟨a2, a1⟩]) ?_ ?_
    · rintro ⟨v1, g3, A4, c4, g9⟩ w1 ⟨hB, hR⟩
      dsimp only at hR
      refine norm_ (a' := ?_) ?_ ?_
      rotate_left
      · simp only [putAll, Act.put, List.setIfInBounds_toArray, List.set_cons_zero, List.set_cons_succ, i64_w, i32_w]
        rfl
      refine two_ (i := 3) (j := 6) #[true, true, true, true, true, false, false, false] #[true, true, true, false, true, false, true, false] rfl rfl rfl rfl (two_of HT_.out (by kernel_rfl)) (by decide) (by decide) (fun K hK => ?_) (fun K hK => ?_)
      · refine Kd.R_append_rows_step k42 (Rr := k42.K w1) (w0 := wp) wp.heap.size (by rfl) (.tmp 58) (.tmp 59) 22 42 (.agg #[.int .i64 0, .string ⟨#[]⟩]) 24 rfl Try.underlying22 infoDocL rfl (by decide) (by omega) v1 [⟨a2, a1⟩] l0 A0 l0.length c0 (fun _ => True) (fun _ => False) rfl rfl hR (Kd.C_below HR.out (below_step H0.out hB)) (fun _ _ h => docML h) (fun _ h => h.elim) (fun _ _ => trivial) hB hB.size (by have := HLEN.out; (try simp only [List.length_cons, List.length_nil]); omega) ?_
        intro v4 w2 hR' hB' hG' _
        obtain ⟨A4', c4', hv4⟩ := Kd.R_slice hR'
        rw [show ([⟨a2, a1⟩] ++ l0 : List S42).length = (l0.length + 1) from by rw [List.length_append]; simp; omega] at hv4
        subst hv4
        obtain ⟨_, hle', hC'⟩ := Kd.R_reads' hR'
        rw [show ([⟨a2, a1⟩] ++ l0 : List S42).length = (l0.length + 1) from by rw [List.length_append]; simp; omega] at hC'
        refine hK.out _ _ hB' (fun _ => ?_)
        exact hj1_3 (⟨v1, g3, A4', c4', g9⟩ : PlotSt) _ ⟨hB', ⟨hC', hle'⟩⟩
      · refine value_ (v := .pointer (some ⟨w1.heap.size, 0, none⟩)) (w1 := w1.alloc (.cells #[.int .i64 0, .int .i64 0, .int .i64 0, .string ⟨#[]⟩, .slice none 0 0, .slice none 0 0, .slice none 0 0, .complex .f64 0 0] 34)) (by rfl) rfl (by first | (go_simp; done) | (go_simp; rfl)) (hK.out _ _ (below_alloc hB _) (fun _ => ?_))
        exact hj1_6 (⟨v1, g3, A4, c4, w1.heap.size⟩ : PlotSt) _ ⟨(below_alloc hB _), (Kd.R_alloc hR _), ⟨(heap_alloc_new w1 _), hB.size⟩⟩
    intro hj1
    refine join_ (σ := PlotSt) 4 #[true, false, true, false, true, false, true, false] (fun s => [(10, .pointer (some ⟨s.g9, 0, none⟩))]) (fun s w' => Below wp.heap.size wp w' ∧ (w'.heap[s.g9]? = some (.cells #[.int .i64 0, .int .i64 0, .int .i64 0, .string ⟨#[]⟩, .slice none 0 0, .slice none 0 0, .slice none 0 0, .complex .f64 0 0] 34 (0, 0)) ∧ wp.heap.size ≤ s.g9)) ?_ ?_
    · rintro ⟨v1, g3, A4, c4, g9⟩ w1 ⟨hB, ⟨hZ, hg⟩⟩
      dsimp only at hZ hg
      refine norm_ (a' := ?_) ?_ ?_
      rotate_left
      · simp only [putAll, Act.put, List.setIfInBounds_toArray, List.set_cons_zero, List.set_cons_succ, i64_w, i32_w]
        rfl
      refine one_ (i := 1) (N := some 58) #[true, true, true, false, true, false, true, false] rfl rfl (one_of HT_.out (by kernel_rfl)) (by decide) (fun K hK => ?_)
      refine Kd.R_lit_step k42 (w0 := wp) wp.heap.size 42 (by rfl) (N := 58) rfl (xs := [⟨a2, a1⟩]) (inner := [.int .i64 a2, .string a1]) (ok := fun _ => True) (okp := fun _ => True) (by first | (go_simp; done) | (go_simp; rfl)) (reps_doc a2 a1) (fun _ _ => trivial) trivial hB hB.size (by simp) ?_
      intro v1' w2 hR' hB' hG' _
      refine hK.out _ _ hB' (fun _ => ?_)
      exact hj1_6 (⟨v1', g3, A4, c4, g9⟩ : PlotSt) _ ⟨hB', hR', ⟨blk_grown hZ hG' (fun e => by cases e), hg⟩⟩
    intro hj6
    have hB := hHeld
    obtain ⟨w1, hw1⟩ : ∃ x, wp.drew = x := ⟨_, rfl⟩
    rw [hw1] at hB ⊢
    clear hHeld hw1
    refine two_ (i := 1) (j := 6) #[true, true, true, false, true, false, false, false] #[true, false, true, false, true, false, true, false] rfl rfl rfl rfl (two_of HT_.out (by kernel_rfl)) (by decide) (by decide) (fun K hK => ?_) (fun K hK => ?_)
    · refine Kd.R_lit_step k42 (w0 := wp) wp.heap.size 42 (by rfl) (N := 58) rfl (xs := [⟨a2, a1⟩]) (inner := [.int .i64 a2, .string a1]) (ok := fun _ => True) (okp := fun _ => True) (by first | (go_simp; done) | (go_simp; rfl)) (reps_doc a2 a1) (fun _ _ => trivial) trivial hB hB.size (by simp) ?_
      intro v1' w2 hR' hB' hG' _
      refine hK.out _ _ hB' (fun _ => ?_)
      exact hj1 (⟨v1', 0, none, 0, 0⟩ : PlotSt) _ ⟨hB', hR'⟩
    · refine value_ (v := .pointer (some ⟨w1.heap.size, 0, none⟩)) (w1 := w1.alloc (.cells #[.int .i64 0, .int .i64 0, .int .i64 0, .string ⟨#[]⟩, .slice none 0 0, .slice none 0 0, .slice none 0 0, .complex .f64 0 0] 34)) (by rfl) rfl (by first | (go_simp; done) | (go_simp; rfl)) (hK.out _ _ (below_alloc hB _) (fun _ => ?_))
      exact hj6 (⟨undef, 0, none, 0, w1.heap.size⟩ : PlotSt) _ ⟨(below_alloc hB _), ⟨(heap_alloc_new w1 _), hB.size⟩⟩
    case fin6 =>
    rintro ⟨v1, g3, A4, c4, g9⟩ w1 ⟨hB, ⟨hZ, hg⟩⟩
    dsimp only at hZ hg
    refine norm_ (a' := ?_) ?_ ?_
    rotate_left
    · simp only [putAll, Act.put, List.setIfInBounds_toArray, List.set_cons_zero, List.set_cons_succ, i64_w, i32_w]
      rfl
    obtain ⟨wz, hrs, hz, hbz⟩ := rep_put [.int .i64 0, .int .i64 0, .int .i64 0, .string ⟨#[]⟩, .slice none 0 0, .slice none 0 0, .slice none 0 0, .complex .f64 ea eb] hZ rfl rfl (by simp [Value.oneCell']) wp.heap.size hg
    refine one_ (i := 7) (N := none) #[true, true, true, true, true, true, true, true] rfl rfl (one_of HT_.out (by kernel_rfl)) (by decide) (fun K hK => ?_)
    refine skip_ (w1 := wz) (by rfl) rfl (store_runs rfl rfl rfl hrs) (hK.out _ _ (hB.trans hbz) (fun _ => ?_))
    clear hK K
    refine done_ (done_of HT_.out (by kernel_rfl)) ?_
    have HZ6 := Aside0.mk hz
    have HS6 := Aside0.mk (hB.trans hbz)
    clear hrs hz hbz hB hZ hg
    try clear HT_ HW_
    obtain ⟨wq, hwq⟩ : ∃ x, wz = x := ⟨_, rfl⟩
    rw [hwq] at HZ6 HS6 ⊢
    clear kd0 kd1 ka0 ka1 ka2 ka3 ka4 ka5
    have HBq := Aside0.mk (below_step H0.out HS6.out)
    have hz9 := blk_below HZ5.out HS6.out
    have hz10 := HZ6.out
    have kd0 := pw_cell_below HS6.out (pw_cell_below HS5.out KD0.out)
    have kd1 := pw_cell_below HS6.out (pw_cell_below HS5.out KD1.out)
    have ka0 := pw_cell_below HS6.out (pw_cell_below HS5.out KA0.out)
    have ka1 := pw_cell_below HS6.out (pw_cell_below HS5.out KA1.out)
    have ka2 := pw_cell_below HS6.out (pw_cell_below HS5.out KA2.out)
    have ka3 := pw_cell_below HS6.out (pw_cell_below HS5.out KA3.out)
    have ka4 := pw_cell_below HS6.out (pw_cell_below HS5.out KA4.out)
    have ka5 := pw_cell_below HS6.out (pw_cell_below HS5.out KA5.out)
    have p0 := (blk_cell hz9 0).trans (show _ = some (.int .i64 0) from rfl)
    have p1 := (blk_cell hz9 1).trans (show _ = some (.int .i64 0) from rfl)
    have p2 := (blk_cell hz9 2).trans (show _ = some (.int .i64 0) from rfl)
    have p3 := (blk_cell hz9 3).trans (show _ = some (.string ⟨#[]⟩) from rfl)
    have p4 := (blk_cell hz9 4).trans (show _ = some (.slice none 0 0) from rfl)
    have p5 := (blk_cell hz9 5).trans (show _ = some (.slice none 0 0) from rfl)
    have p6 := (blk_cell hz9 6).trans (show _ = some (.slice none 0 0) from rfl)
    have p7 := (blk_cell hz9 7).trans (show _ = some (.complex .f64 ea eb) from rfl)
    have r0_ := (blk_cell hz10 0).trans (show _ = some (.int .i64 0) from rfl)
    have r1_ := (blk_cell hz10 1).trans (show _ = some (.int .i64 0) from rfl)
    have r2_ := (blk_cell hz10 2).trans (show _ = some (.int .i64 0) from rfl)
    have r3_ := (blk_cell hz10 3).trans (show _ = some (.string ⟨#[]⟩) from rfl)
    have r4_ := (blk_cell hz10 4).trans (show _ = some (.slice none 0 0) from rfl)
    have r5_ := (blk_cell hz10 5).trans (show _ = some (.slice none 0 0) from rfl)
    have r6_ := (blk_cell hz10 6).trans (show _ = some (.slice none 0 0) from rfl)
    have r7_ := (blk_cell hz10 7).trans (show _ = some (.complex .f64 ea eb) from rfl)
    clear hz9 hz10
    obtain ⟨hQ1, hQ2⟩ := HQ.out
    go_wp2_with fail
    refine start_ (n := 23) (S := fun w' => Below wq.heap.size wq w') (ds := []) #[false, false, false, false, false, false, false, false, false, false, false, false, false, false, false, false, false, false, false, false, false, false, false] (by kernel_rfl) rfl rfl (below_drew1 (Below.refl _ _)) (fun hHeld => ?_)
    refine with_tabW modelPlots.tab7 modelPlots.bits7 (fun HT_ HW_ => ?_)
    refine take_ (i := 0) (N := some 63) (v := ?_) (a' := ?_) #[true, false, false, false, false, false, false, false, false, false, false, false, false, false, false, false, false, false, false, false, false, false, false] rfl rfl (take_ofW HT_.out HW_.out (by kernel_rfl)) (fun _ _ _ h => h) (Or.inl ⟨by rfl, ?_⟩) hHeld ?_ ?_
    rotate_left
    · intro w' s
      go_simp
      with_reducible rfl
    rotate_left
    · simp only [Act.put, List.setIfInBounds_toArray, List.set_cons_zero, List.set_cons_succ, i64_w, i32_w]
      rfl
    refine take_ (i := 1) (N := some 64) (v := ?_) (a' := ?_) #[true, true, false, false, false, false, false, false, false, false, false, false, false, false, false, false, false, false, false, false, false, false, false] rfl rfl (take_ofW HT_.out HW_.out (by kernel_rfl)) (fun _ _ _ h => h) (Or.inl ⟨by rfl, ?_⟩) hHeld ?_ ?_
    rotate_left
    · intro w' s
      have s0 := pw_cell_below s kd0
      have s1 := pw_cell_below s kd1
      have s2 := pw_cell_below s ka0
      have s3 := pw_cell_below s ka1
      have s4 := pw_cell_below s ka2
      have s5 := pw_cell_below s ka3
      have s6 := pw_cell_below s ka4
      have s7 := pw_cell_below s ka5
      have q0 := pw_cell_below s p0
      have q1 := pw_cell_below s p1
      have q2 := pw_cell_below s p2
      have q3 := pw_cell_below s p3
      have q4 := pw_cell_below s p4
      have q5 := pw_cell_below s p5
      have q6 := pw_cell_below s p6
      have q7 := pw_cell_below s p7
      have r0 := pw_cell_below s r0_
      have r1 := pw_cell_below s r1_
      have r2 := pw_cell_below s r2_
      have r3 := pw_cell_below s r3_
      have r4 := pw_cell_below s r4_
      have r5 := pw_cell_below s r5_
      have r6 := pw_cell_below s r6_
      have r7 := pw_cell_below s r7_
      go_simp
      with_reducible rfl
    rotate_left
    · simp only [Act.put, List.setIfInBounds_toArray, List.set_cons_zero, List.set_cons_succ, i64_w, i32_w]
      rfl
    refine take_ (i := 2) (N := some 65) (v := ?_) (a' := ?_) #[true, true, true, false, false, false, false, false, false, false, false, false, false, false, false, false, false, false, false, false, false, false, false] rfl rfl (take_ofW HT_.out HW_.out (by kernel_rfl)) (fun _ _ _ h => h) (Or.inl ⟨by rfl, ?_⟩) hHeld ?_ ?_
    rotate_left
    · intro w' s
      go_simp
      with_reducible rfl
    rotate_left
    · simp only [Act.put, List.setIfInBounds_toArray, List.set_cons_zero, List.set_cons_succ, i64_w, i32_w]
      rfl
    refine take_ (i := 3) (N := some 66) (v := ?_) (a' := ?_) #[true, true, true, true, false, false, false, false, false, false, false, false, false, false, false, false, false, false, false, false, false, false, false] rfl rfl (take_ofW HT_.out HW_.out (by kernel_rfl)) (fun _ _ _ h => h) (Or.inl ⟨by rfl, ?_⟩) hHeld ?_ ?_
    rotate_left
    · intro w' s
      go_simp
      with_reducible rfl
    rotate_left
    · simp only [Act.put, List.setIfInBounds_toArray, List.set_cons_zero, List.set_cons_succ, i64_w, i32_w]
      rfl
    refine take_ (i := 4) (N := some 67) (v := ?_) (a' := ?_) #[true, true, true, true, true, false, false, false, false, false, false, false, false, false, false, false, false, false, false, false, false, false, false] rfl rfl (take_ofW HT_.out HW_.out (by kernel_rfl)) (fun _ _ _ h => h) (Or.inl ⟨by rfl, ?_⟩) hHeld ?_ ?_
    rotate_left
    · intro w' s
      go_simp
      with_reducible rfl
    rotate_left
    · simp only [Act.put, List.setIfInBounds_toArray, List.set_cons_zero, List.set_cons_succ, i64_w, i32_w]
      rfl
    refine take_ (i := 5) (N := some 68) (v := ?_) (a' := ?_) #[true, true, true, true, true, true, false, false, false, false, false, false, false, false, false, false, false, false, false, false, false, false, false] rfl rfl (take_ofW HT_.out HW_.out (by kernel_rfl)) (fun _ _ _ h => h) (Or.inl ⟨by rfl, ?_⟩) hHeld ?_ ?_
    rotate_left
    · intro w' s
      have s0 := pw_cell_below s kd0
      have s1 := pw_cell_below s kd1
      have s2 := pw_cell_below s ka0
      have s3 := pw_cell_below s ka1
      have s4 := pw_cell_below s ka2
      have s5 := pw_cell_below s ka3
      have s6 := pw_cell_below s ka4
      have s7 := pw_cell_below s ka5
      have q0 := pw_cell_below s p0
      have q1 := pw_cell_below s p1
      have q2 := pw_cell_below s p2
      have q3 := pw_cell_below s p3
      have q4 := pw_cell_below s p4
      have q5 := pw_cell_below s p5
      have q6 := pw_cell_below s p6
      have q7 := pw_cell_below s p7
      have r0 := pw_cell_below s r0_
      have r1 := pw_cell_below s r1_
      have r2 := pw_cell_below s r2_
      have r3 := pw_cell_below s r3_
      have r4 := pw_cell_below s r4_
      have r5 := pw_cell_below s r5_
      have r6 := pw_cell_below s r6_
      have r7 := pw_cell_below s r7_
      go_simp
      with_reducible rfl
    rotate_left
    · simp only [Act.put, List.setIfInBounds_toArray, List.set_cons_zero, List.set_cons_succ, i64_w, i32_w]
      rfl
    refine take_ (i := 6) (N := some 69) (v := ?_) (a' := ?_) #[true, true, true, true, true, true, true, false, false, false, false, false, false, false, false, false, false, false, false, false, false, false, false] rfl rfl (take_ofW HT_.out HW_.out (by kernel_rfl)) (fun _ _ _ h => h) (Or.inl ⟨by rfl, ?_⟩) hHeld ?_ ?_
    rotate_left
    · intro w' s
      go_simp
      with_reducible rfl
    rotate_left
    · simp only [Act.put, List.setIfInBounds_toArray, List.set_cons_zero, List.set_cons_succ, i64_w, i32_w]
      rfl
    refine one_ (i := 7) (N := some 70) #[true, true, true, true, true, true, true, true, false, false, false, false, false, false, false, false, false, false, false, false, false, false, false] rfl rfl (one_of HT_.out (by kernel_rfl)) (by decide) (fun K hK => ?_)
    refine goes_ Try.func15 (by kernel_rfl) rfl #[.string a1] (by rfl) rfl rfl (by (try simp only [List.map_toArray, List.map_cons, List.map_nil]); first | done | rfl | (simp only [List.length_drop, List.length_take]; rfl)) ?_
    refine (RE.out _).mono ?_
    rintro en w8 ⟨rfl, hb⟩
    refine ⟨_, rfl, ?_⟩
    have hS8 := below_step hHeld hb
    refine hK.out _ _ hS8 (fun hHeld => ?_)
    clear hK K
    refine norm_ (a' := ?_) ?_ ?_
    rotate_left
    · show Act.put _ (some 70) _ = _
      simp only [Act.put, List.setIfInBounds_toArray, List.set_cons_zero, List.set_cons_succ, i64_w, i32_w]
      rfl
    refine take_ (i := 8) (N := some 71) (v := ?_) (a' := ?_) #[true, true, true, true, true, true, true, true, true, false, false, false, false, false, false, false, false, false, false, false, false, false, false] rfl rfl (take_ofW HT_.out HW_.out (by kernel_rfl)) (fun _ _ _ h => h) (Or.inl ⟨by rfl, ?_⟩) hHeld ?_ ?_
    rotate_left
    · intro w' s
      go_simp
      with_reducible rfl
    rotate_left
    · simp only [Act.put, List.setIfInBounds_toArray, List.set_cons_zero, List.set_cons_succ, i64_w, i32_w]
      rfl
    refine take_ (i := 9) (N := some 72) (v := ?_) (a' := ?_) #[true, true, true, true, true, true, true, true, true, true, false, false, false, false, false, false, false, false, false, false, false, false, false] rfl rfl (take_ofW HT_.out HW_.out (by kernel_rfl)) (fun _ _ _ h => h) (Or.inl ⟨by rfl, ?_⟩) hHeld ?_ ?_
    rotate_left
    · intro w' s
      go_simp
      with_reducible rfl
    rotate_left
    · simp only [Act.put, List.setIfInBounds_toArray, List.set_cons_zero, List.set_cons_succ, i64_w, i32_w]
      rfl
    refine take_ (i := 10) (N := some 73) (v := ?_) (a' := ?_) #[true, true, true, true, true, true, true, true, true, true, true, false, false, false, false, false, false, false, false, false, false, false, false] rfl rfl (take_ofW HT_.out HW_.out (by kernel_rfl)) (fun _ _ _ h => h) (Or.inl ⟨by rfl, ?_⟩) hHeld ?_ ?_
    rotate_left
    · intro w' s
      go_simp
      with_reducible rfl
    rotate_left
    · simp only [Act.put, List.setIfInBounds_toArray, List.set_cons_zero, List.set_cons_succ, i64_w, i32_w]
      rfl
    refine take_ (i := 11) (N := some 74) (v := ?_) (a' := ?_) #[true, true, true, true, true, true, true, true, true, true, true, true, false, false, false, false, false, false, false, false, false, false, false] rfl rfl (take_ofW HT_.out HW_.out (by kernel_rfl)) (fun _ _ _ h => h) (Or.inl ⟨by rfl, ?_⟩) hHeld ?_ ?_
    rotate_left
    · intro w' s
      have s0 := pw_cell_below s kd0
      have s1 := pw_cell_below s kd1
      have s2 := pw_cell_below s ka0
      have s3 := pw_cell_below s ka1
      have s4 := pw_cell_below s ka2
      have s5 := pw_cell_below s ka3
      have s6 := pw_cell_below s ka4
      have s7 := pw_cell_below s ka5
      have q0 := pw_cell_below s p0
      have q1 := pw_cell_below s p1
      have q2 := pw_cell_below s p2
      have q3 := pw_cell_below s p3
      have q4 := pw_cell_below s p4
      have q5 := pw_cell_below s p5
      have q6 := pw_cell_below s p6
      have q7 := pw_cell_below s p7
      have r0 := pw_cell_below s r0_
      have r1 := pw_cell_below s r1_
      have r2 := pw_cell_below s r2_
      have r3 := pw_cell_below s r3_
      have r4 := pw_cell_below s r4_
      have r5 := pw_cell_below s r5_
      have r6 := pw_cell_below s r6_
      have r7 := pw_cell_below s r7_
      go_simp
      with_reducible rfl
    rotate_left
    · simp only [Act.put, List.setIfInBounds_toArray, List.set_cons_zero, List.set_cons_succ, i64_w, i32_w]
      rfl
    refine take_ (i := 12) (N := some 75) (v := ?_) (a' := ?_) #[true, true, true, true, true, true, true, true, true, true, true, true, true, false, false, false, false, false, false, false, false, false, false] rfl rfl (take_ofW HT_.out HW_.out (by kernel_rfl)) (fun _ _ _ h => h) (Or.inl ⟨by rfl, ?_⟩) hHeld ?_ ?_
    rotate_left
    · intro w' s
      have s0 := pw_cell_below s kd0
      have s1 := pw_cell_below s kd1
      have s2 := pw_cell_below s ka0
      have s3 := pw_cell_below s ka1
      have s4 := pw_cell_below s ka2
      have s5 := pw_cell_below s ka3
      have s6 := pw_cell_below s ka4
      have s7 := pw_cell_below s ka5
      have q0 := pw_cell_below s p0
      have q1 := pw_cell_below s p1
      have q2 := pw_cell_below s p2
      have q3 := pw_cell_below s p3
      have q4 := pw_cell_below s p4
      have q5 := pw_cell_below s p5
      have q6 := pw_cell_below s p6
      have q7 := pw_cell_below s p7
      have r0 := pw_cell_below s r0_
      have r1 := pw_cell_below s r1_
      have r2 := pw_cell_below s r2_
      have r3 := pw_cell_below s r3_
      have r4 := pw_cell_below s r4_
      have r5 := pw_cell_below s r5_
      have r6 := pw_cell_below s r6_
      have r7 := pw_cell_below s r7_
      go_simp
      with_reducible rfl
    rotate_left
    · simp only [Act.put, List.setIfInBounds_toArray, List.set_cons_zero, List.set_cons_succ, i64_w, i32_w]
      rfl
    refine one_ (i := 13) (N := some 76) #[true, true, true, true, true, true, true, true, true, true, true, true, true, true, false, false, false, false, false, false, false, false, false] rfl rfl (one_of HT_.out (by kernel_rfl)) (by decide) (fun K hK => ?_)
    refine goes_ Try.func17 (by kernel_rfl) rfl #[.agg #[.int .i64 0, .int .i64 0, .int .i64 0, .string ⟨#[]⟩, .slice none 0 0, .slice none 0 0, .slice none 0 0, .complex .f64 ea eb], .agg #[.int .i64 0, .int .i64 0, .int .i64 0, .string ⟨#[]⟩, .slice none 0 0, .slice none 0 0, .slice none 0 0, .complex .f64 ea eb]] (by rfl) rfl rfl (by (try simp only [List.map_toArray, List.map_cons, List.map_nil]); first | done | rfl | (simp only [List.length_drop, List.length_take]; rfl)) ?_
    refine (SR.out _).mono ?_
    rintro en w9 ⟨rfl, hb⟩
    refine ⟨_, rfl, ?_⟩
    have hS9 := below_step hHeld hb
    refine hK.out _ _ hS9 (fun hHeld => ?_)
    clear hK K
    refine norm_ (a' := ?_) ?_ ?_
    rotate_left
    · show Act.put _ (some 76) _ = _
      simp only [Act.put, List.setIfInBounds_toArray, List.set_cons_zero, List.set_cons_succ, i64_w, i32_w]
      rfl
    refine take_ (i := 14) (N := some 77) (v := ?_) (a' := ?_) #[true, true, true, true, true, true, true, true, true, true, true, true, true, true, true, false, false, false, false, false, false, false, false] rfl rfl (take_ofW HT_.out HW_.out (by kernel_rfl)) (fun _ _ _ h => h) (Or.inl ⟨by rfl, ?_⟩) hHeld ?_ ?_
    rotate_left
    · intro w' s
      go_simp
      with_reducible rfl
    rotate_left
    · simp only [Act.put, List.setIfInBounds_toArray, List.set_cons_zero, List.set_cons_succ, i64_w, i32_w]
      rfl
    refine take_ (i := 15) (N := some 78) (v := ?_) (a' := ?_) #[true, true, true, true, true, true, true, true, true, true, true, true, true, true, true, true, false, false, false, false, false, false, false] rfl rfl (take_ofW HT_.out HW_.out (by kernel_rfl)) (fun _ _ _ h => h) (Or.inl ⟨by rfl, ?_⟩) hHeld ?_ ?_
    rotate_left
    · intro w' s
      go_simp
      with_reducible rfl
    rotate_left
    · simp only [Act.put, List.setIfInBounds_toArray, List.set_cons_zero, List.set_cons_succ, i64_w, i32_w]
      rfl
    refine take_ (i := 16) (N := some 79) (v := ?_) (a' := ?_) #[true, true, true, true, true, true, true, true, true, true, true, true, true, true, true, true, true, false, false, false, false, false, false] rfl rfl (take_ofW HT_.out HW_.out (by kernel_rfl)) (fun _ _ _ h => h) (Or.inl ⟨by rfl, ?_⟩) hHeld ?_ ?_
    rotate_left
    · intro w' s
      go_simp
      with_reducible rfl
    rotate_left
    · simp only [Act.put, List.setIfInBounds_toArray, List.set_cons_zero, List.set_cons_succ, i64_w, i32_w]
      rfl
    refine take_ (i := 17) (N := some 80) (v := ?_) (a' := ?_) #[true, true, true, true, true, true, true, true, true, true, true, true, true, true, true, true, true, true, false, false, false, false, false] rfl rfl (take_ofW HT_.out HW_.out (by kernel_rfl)) (fun _ _ _ h => h) (Or.inl ⟨by rfl, ?_⟩) hHeld ?_ ?_
    rotate_left
    · intro w' s
      have s0 := pw_cell_below s kd0
      have s1 := pw_cell_below s kd1
      have s2 := pw_cell_below s ka0
      have s3 := pw_cell_below s ka1
      have s4 := pw_cell_below s ka2
      have s5 := pw_cell_below s ka3
      have s6 := pw_cell_below s ka4
      have s7 := pw_cell_below s ka5
      have q0 := pw_cell_below s p0
      have q1 := pw_cell_below s p1
      have q2 := pw_cell_below s p2
      have q3 := pw_cell_below s p3
      have q4 := pw_cell_below s p4
      have q5 := pw_cell_below s p5
      have q6 := pw_cell_below s p6
      have q7 := pw_cell_below s p7
      have r0 := pw_cell_below s r0_
      have r1 := pw_cell_below s r1_
      have r2 := pw_cell_below s r2_
      have r3 := pw_cell_below s r3_
      have r4 := pw_cell_below s r4_
      have r5 := pw_cell_below s r5_
      have r6 := pw_cell_below s r6_
      have r7 := pw_cell_below s r7_
      go_simp
      with_reducible rfl
    rotate_left
    · simp only [Act.put, List.setIfInBounds_toArray, List.set_cons_zero, List.set_cons_succ, i64_w, i32_w]
      rfl
    refine one_ (i := 18) (N := some 81) #[true, true, true, true, true, true, true, true, true, true, true, true, true, true, true, true, true, true, true, false, false, false, false] rfl rfl (one_of HT_.out (by kernel_rfl)) (by decide) (fun K hK => ?_)
    refine goes_ Try.func12 (by kernel_rfl) rfl #[.slice A0 l0.length c0, .agg #[.int .i64 7, .int .i64 a2, .int .i64 0, .int .i64 a1.size, .int .i64 0, .string ⟨#[]⟩]] (by rfl) rfl rfl (by (try simp only [List.map_toArray, List.map_cons, List.map_nil]); first | done | rfl | (simp only [List.length_drop, List.length_take]; rfl)) ?_
    refine (AN3.out _ (Kd.C_below HR.out (below_step HBq.out hHeld))).mono ?_
    rintro en w10 ⟨rfl, hb⟩
    refine ⟨_, rfl, ?_⟩
    have hS10 := below_step hHeld hb
    refine hK.out _ _ hS10 (fun hHeld => ?_)
    clear hK K
    refine norm_ (a' := ?_) ?_ ?_
    rotate_left
    · show Act.put _ (some 81) _ = _
      simp only [Act.put, List.setIfInBounds_toArray, List.set_cons_zero, List.set_cons_succ, i64_w, i32_w]
      rfl
    refine take_ (i := 19) (N := some 82) (v := ?_) (a' := ?_) #[true, true, true, true, true, true, true, true, true, true, true, true, true, true, true, true, true, true, true, true, false, false, false] rfl rfl (take_ofW HT_.out HW_.out (by kernel_rfl)) (fun _ _ _ h => h) (Or.inl ⟨by rfl, ?_⟩) hHeld ?_ ?_
    rotate_left
    · intro w' s
      go_simp
      with_reducible rfl
    rotate_left
    · simp only [Act.put, List.setIfInBounds_toArray, List.set_cons_zero, List.set_cons_succ, i64_w, i32_w]
      rfl
    refine take_ (i := 20) (N := some 83) (v := ?_) (a' := ?_) #[true, true, true, true, true, true, true, true, true, true, true, true, true, true, true, true, true, true, true, true, true, false, false] rfl rfl (take_ofW HT_.out HW_.out (by kernel_rfl)) (fun _ _ _ h => h) (Or.inl ⟨by rfl, ?_⟩) hHeld ?_ ?_
    rotate_left
    · intro w' s
      go_simp
      with_reducible rfl
    rotate_left
    · simp only [Act.put, List.setIfInBounds_toArray, List.set_cons_zero, List.set_cons_succ, i64_w, i32_w]
      rfl
    refine take_ (i := 21) (N := some 84) (v := ?_) (a' := ?_) #[true, true, true, true, true, true, true, true, true, true, true, true, true, true, true, true, true, true, true, true, true, true, false] rfl rfl (take_ofW HT_.out HW_.out (by kernel_rfl)) (fun _ _ _ h => h) (Or.inl ⟨by rfl, ?_⟩) hHeld ?_ ?_
    rotate_left
    · intro w' s
      go_simp
      with_reducible rfl
    rotate_left
    · simp only [Act.put, List.setIfInBounds_toArray, List.set_cons_zero, List.set_cons_succ, i64_w, i32_w]
      rfl
    refine take_ (i := 22) (N := some 6) (v := ?_) (a' := ?_) #[true, true, true, true, true, true, true, true, true, true, true, true, true, true, true, true, true, true, true, true, true, true, true] rfl rfl (take_ofW HT_.out HW_.out (by kernel_rfl)) (fun _ _ _ h => h) (Or.inl ⟨by rfl, ?_⟩) hHeld ?_ ?_
    rotate_left
    · intro w' s
      go_simp
      with_reducible rfl
    rotate_left
    · simp only [Act.put, List.setIfInBounds_toArray, List.set_cons_zero, List.set_cons_succ, i64_w, i32_w]
      rfl
    refine done_ (done_of HT_.out (by kernel_rfl)) ?_
    have HBn := Aside0.mk (below_step HBq.out hHeld)
    clear hHeld kd0 kd1 ka0 ka1 ka2 ka3 ka4 ka5 p0 p1 p2 p3 p4 p5 p6 p7 r0_ r1_ r2_ r3_ r4_ r5_ r6_ r7_ hQ1 hQ2
    go_wp2_with fail
    go_ret
    exact ⟨rfl, HBn.out⟩
/-- The same, in the row's form. -/
theorem ModelPlots_all (A0 : Option Addr) (c0 : Nat) (l0 : List S42) (a1 : ByteArray) (a2 : Int) (w : World) (hr0 : Kd.C k42 w A0 l0.length l0) (hc0 : l0.length ≤ c0) (hs : ∀ x ∈ l0, (Lit.int .i64 x.f0).wf = true ∧ x.f1.size ≤ 9223372036854775807) (hl : l0.length * 24 ≤ 140737488351232) (w1 : a1.size ≤ 140737488351232) (w2 : (Lit.int .i64 a2).wf = true) :
    Calls Try.prog 8 #[.slice A0 l0.length c0, .string a1, .int .i64 a2] w fun e w' => e = .returned (.bool true) ∧ Below w.heap.size w w' := plots_calls A0 c0 l0 a1 a2 w hr0 hc0
end Go.Proofs.Ytibhenengpdahaa.P
