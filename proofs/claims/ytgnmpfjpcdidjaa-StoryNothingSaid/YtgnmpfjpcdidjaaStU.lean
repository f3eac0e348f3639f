/- The statement StoryNothing: its walk. Conditions: the row's. -/
import Derived.Test.YtgnmpfjpcdidjaaStT
set_option linter.unusedVariables false
set_option linter.unusedSimpArgs false
namespace Go.Proofs.Ytgnmpfjpcdidjaa.P
open Go.RowKit Go.Proofs.YtgnmpfjpcdidjaaW.PrintWords Go.Proofs.YtgnmpfjpcdidjaaW.PrintLast Go.Proofs.YtgnmpfjpcdidjaaW.PrintMore

set_option maxRecDepth 100000 in
set_option maxHeartbeats 8000000 in
theorem nothing_calls (k i f t s : Int) (x : ByteArray) (c n : Int) (w : World) : Calls Try.prog 3 #[.agg #[.int .i64 k, .int .i64 i, .int .i64 f, .int .i64 t, .int .i64 s, .string x], .int .i64 c, .int .i64 n] w fun e w' => e = .returned (.bool true) ∧ Below w.heap.size w w' := by
  obtain ⟨X, hX⟩ : ∃ X, w.alloc (.cells #[.int .i64 k, .int .i64 i, .int .i64 f, .int .i64 t, .int .i64 s, .string x] 23) = X := ⟨_, rfl⟩
  have HB := Aside0.mk (show Below w.heap.size w X by rw [← hX]; exact below_alloc (Below.refl _ _) _)
  have HA := Aside0.mk (show X.rangeAt w.heap.size 0 [.int .i64 k, .int .i64 i, .int .i64 f, .int .i64 t, .int .i64 s, .string x] by rw [← hX]; exact ra_last rfl)
  have HX := Aside0.mk hX
  clear hX
  by_cases h60 : (60 : Int) < (x.size : Int)
  · have c0 : decide ((60 : Int) < (x.size : Int)) = true := decide_eq_true h60
    have c1 : ((60 : Int) < (x.size : Int)) = True := eq_true h60
    clear h60
    go_enter Try.func3, Try.ntmps3
    go_wp2_with fail
    rw [HX.out]
    refine (alive_calls X).mono ?_
    rintro en w1 ⟨rfl, hb⟩
    have HB1 := Aside0.mk (below_step HB.out hb)
    clear hb
    go_wp2_with fail
    go_ret
    exact ⟨rfl, HB1.out⟩
  · have c0 : decide ((60 : Int) < (x.size : Int)) = false := decide_eq_false h60
    have c1 : ((60 : Int) < (x.size : Int)) = False := eq_false h60
    clear h60
    go_enter Try.func3, Try.ntmps3
    go_wp2_with fail
    rw [HX.out]
    refine (alive_calls X).mono ?_
    rintro en w1 ⟨rfl, hb⟩
    have HB1 := Aside0.mk (below_step HB.out hb)
    have HA1 := Aside0.mk (ra_below HA.out hb)
    have k0 : w1.cell? ⟨w.heap.size, 0, none⟩ = some (.int .i64 k) := HA1.out 0 _ rfl
    have k1 : w1.cell? ⟨w.heap.size, 1, none⟩ = some (.int .i64 i) := HA1.out 1 _ rfl
    have k2 : w1.cell? ⟨w.heap.size, 2, none⟩ = some (.int .i64 f) := HA1.out 2 _ rfl
    have k3 : w1.cell? ⟨w.heap.size, 3, none⟩ = some (.int .i64 t) := HA1.out 3 _ rfl
    have k4 : w1.cell? ⟨w.heap.size, 4, none⟩ = some (.int .i64 s) := HA1.out 4 _ rfl
    have k5 : w1.cell? ⟨w.heap.size, 5, none⟩ = some (.string x) := HA1.out 5 _ rfl
    clear hb c0 c1
    go_wp2_with (first
      | (refine store_ev 7 25 _ rfl rfl rfl rfl rfl rfl rfl ?_; obtain ⟨W2, hW2⟩ : ∃ W, w1.alloc (.cells #[.int .i64 c, .bool false, .int .i64 n, .int .i64 k, .int .i64 i, .int .i64 f, .int .i64 t, .int .i64 s, .string x, .int .i64 0, .int .i64 0, .int .i64 0, .string ⟨#[]⟩, .slice none 0 0, .slice none 0 0, .slice none 0 0, .complex .f64 0 0] 33) = W := ⟨_, rfl⟩; rw [hW2]; have hb2 : Below w1.heap.size w1 W2 := (by rw [← hW2]; exact below_alloc (Below.refl _ _) _); have HE2 := Aside0.mk (show W2.rangeAt w1.heap.size 0 (evL c false n k i f t s x 0) by rw [← hW2]; exact ra_last rfl); have HB2 := Aside0.mk (below_step HB1.out hb2); replace k0 := pw_cell_below hb2 k0; replace k1 := pw_cell_below hb2 k1; replace k2 := pw_cell_below hb2 k2; replace k3 := pw_cell_below hb2 k3; replace k4 := pw_cell_below hb2 k4; replace k5 := pw_cell_below hb2 k5; clear hW2 hb2)
      | (refine store_ev 8 29 _ rfl rfl rfl rfl rfl rfl rfl ?_; obtain ⟨W3, hW3⟩ : ∃ W, W2.alloc (.cells #[.int .i64 c, .bool true, .int .i64 n, .int .i64 k, .int .i64 i, .int .i64 f, .int .i64 t, .int .i64 s, .string x, .int .i64 0, .int .i64 0, .int .i64 0, .string ⟨#[]⟩, .slice none 0 0, .slice none 0 0, .slice none 0 0, .complex .f64 0 0] 33) = W := ⟨_, rfl⟩; rw [hW3]; have hb3 : Below W2.heap.size W2 W3 := (by rw [← hW3]; exact below_alloc (Below.refl _ _) _); have HR3 := Aside0.mk (show W3.rangeAt W2.heap.size 0 (evL c true n k i f t s x 0) by rw [← hW3]; exact ra_last rfl); have HE3 := Aside0.mk (ra_below HE2.out hb3); have HB3 := Aside0.mk (below_step HB2.out hb3); clear hW3 hb3 k0 k1 k2 k3 k4 k5))
    refine (versionsAll_none W3).mono ?_
    rintro en w4 ⟨gv, rfl, hv, hb⟩
    have HB4 := Aside0.mk (below_step HB3.out hb)
    have HE4 := Aside0.mk (ra_below HE3.out hb)
    have HR4 := Aside0.mk (ra_below HR3.out hb)
    have HV4 := Aside0.mk hv.1
    clear hb hv
    have HL4 := Aside0.mk HE4.out
    unfold evL at HL4
    have OC := Aside0.mk (order_call w4.heap.size 1 c n k i f t s 0 x (w4.alloc (.cells #[.int .i64 c, .bool false, .int .i64 n, .int .i64 k, .int .i64 i, .int .i64 f, .int .i64 t, .int .i64 s, .string x, .int .i64 0, .int .i64 0, .int .i64 0, .string ⟨#[]⟩, .slice none 0 0, .slice none 0 0, .slice none 0 0, .complex .f64 0 0] 33)) (ra_last rfl))
    go_wp2_with (first | (refine load_ev 7 rfl rfl rfl HL4.out ?_))
    refine OC.out.mono ?_
    rintro en w5 ⟨rfl, hb⟩
    have h5 := below_step (below_alloc (Below.refl w4.heap.size w4) _) hb
    have HB5 := Aside0.mk (below_step HB4.out h5)
    have HE5 := Aside0.mk (ra_below HE4.out h5)
    have HR5 := Aside0.mk (ra_below HR4.out h5)
    have HV5 := Aside0.mk (pw_cell_below h5 HV4.out)
    clear hb h5 OC
    go_wp2_with fail
    refine (check_none w5).mono ?_
    rintro en w6 ⟨rfl, hb⟩
    have HB6 := Aside0.mk (below_step HB5.out hb)
    have HE6 := Aside0.mk (ra_below HE5.out hb)
    have HR6 := Aside0.mk (ra_below HR5.out hb)
    have v6 := pw_cell_below hb HV5.out
    clear hb
    have HL6 := Aside0.mk HE6.out
    unfold evL at HL6
    have CC := Aside0.mk (check_call w6.heap.size 1 c n k i f t s 0 x (w6.alloc (.cells #[.int .i64 c, .bool false, .int .i64 n, .int .i64 k, .int .i64 i, .int .i64 f, .int .i64 t, .int .i64 s, .string x, .int .i64 0, .int .i64 0, .int .i64 0, .string ⟨#[]⟩, .slice none 0 0, .slice none 0 0, .slice none 0 0, .complex .f64 0 0] 33)) (ra_last rfl))
    go_wp2_with (first | ((try (refine gate_guard (by rfl) ?_; dsimp only)); refine load_ev 7 rfl rfl rfl HL6.out ?_))
    refine CC.out.mono ?_
    rintro en w7 ⟨rfl, hb⟩
    have h7 := below_step (below_alloc (Below.refl w6.heap.size w6) _) hb
    have HB7 := Aside0.mk (below_step HB6.out h7)
    have HE7 := Aside0.mk (ra_below HE6.out h7)
    have HR7 := Aside0.mk (ra_below HR6.out h7)
    clear hb h7 CC v6
    have HL7 := Aside0.mk HR7.out
    unfold evL at HL7
    have CR := Aside0.mk (check_ret w7.heap.size 1 c n k i f t s 0 x (w7.alloc (.cells #[.int .i64 c, .bool true, .int .i64 n, .int .i64 k, .int .i64 i, .int .i64 f, .int .i64 t, .int .i64 s, .string x, .int .i64 0, .int .i64 0, .int .i64 0, .string ⟨#[]⟩, .slice none 0 0, .slice none 0 0, .slice none 0 0, .complex .f64 0 0] 33)) (ra_last rfl))
    go_wp2_with (first | ((try (refine gate_guard (by rfl) ?_; dsimp only)); refine load_ev 8 rfl rfl rfl HL7.out ?_))
    refine CR.out.mono ?_
    rintro en w8 ⟨rfl, hb⟩
    have h8 := below_step (below_alloc (Below.refl w7.heap.size w7) _) hb
    have HB8 := Aside0.mk (below_step HB7.out h8)
    have HE8 := Aside0.mk (ra_below HE7.out h8)
    clear hb h8 CR
    have HL8 := Aside0.mk HE8.out
    unfold evL at HL8
    have r2 := ra_two (a := evL c false n k i f t s x 0) (b := evL c false n k i f t s x 0) (k := 17) (show (w8.alloc (.cells #[.int .i64 c, .bool false, .int .i64 n, .int .i64 k, .int .i64 i, .int .i64 f, .int .i64 t, .int .i64 s, .string x, .int .i64 0, .int .i64 0, .int .i64 0, .string ⟨#[]⟩, .slice none 0 0, .slice none 0 0, .slice none 0 0, .complex .f64 0 0, .int .i64 c, .bool false, .int .i64 n, .int .i64 k, .int .i64 i, .int .i64 f, .int .i64 t, .int .i64 s, .string x, .int .i64 0, .int .i64 0, .int .i64 0, .string ⟨#[]⟩, .slice none 0 0, .slice none 0 0, .slice none 0 0, .complex .f64 0 0] 33)).heap[w8.heap.size]? = some _ from blk_last rfl) rfl rfl
    have C2 := Aside0.mk (check_calls2 w8.heap.size 2 c n k i f t s 0 0 x _ r2.1 r2.2)
    clear r2
    go_wp2_with (first | ((try (refine gate_guard (by rfl) ?_; dsimp only)); refine load_ev 7 rfl rfl rfl HL8.out ?_))
    refine C2.out.mono ?_
    rintro en w9 ⟨rfl, hb⟩
    have HB9 := Aside0.mk (below_step (below_alloc HB8.out _) hb)
    clear hb C2
    go_wp2_with fail
    go_ret
    exact ⟨rfl, HB9.out⟩
/-- The same, in the row's form. -/
theorem StoryNothing_all (kind id fr tt snap : Int) (text : ByteArray) (a1 a2 : Int) (w : World)
    (ws : (Lit.int .i64 kind).wf = true ∧ (Lit.int .i64 id).wf = true ∧ (Lit.int .i64 fr).wf = true ∧ (Lit.int .i64 tt).wf = true ∧ (Lit.int .i64 snap).wf = true) (wt : text.size ≤ 9223372036854775807) (w1 : (Lit.int .i64 a1).wf = true) (w2 : (Lit.int .i64 a2).wf = true) :
    Calls Try.prog 3 #[.agg #[.int .i64 kind, .int .i64 id, .int .i64 fr, .int .i64 tt, .int .i64 snap, .string text], .int .i64 a1, .int .i64 a2] w fun e w' => e = .returned (.bool true) ∧ Below w.heap.size w w' := nothing_calls kind id fr tt snap text a1 a2 w
end Go.Proofs.Ytgnmpfjpcdidjaa.P
