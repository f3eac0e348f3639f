/- The law ModelParts, walked. Conditions: how the list lies in memory. (Printed by genparts.py.) -/
import Derived.Test.YtibhenengpdahaaOrder
import Derived.Test.YtibhenengpdahaaAnsI
import Derived.Test.YtibhenengpdahaaAnswerP
import Derived.Test.YtibhenengpdahaaThere
import Derived.Test.YtibhenengpdahaaRefEnd
set_option linter.unusedVariables false
set_option linter.unusedSimpArgs false
namespace Go.Proofs.Ytibhenengpdahaa.P
open Go.RowKit Go.Proofs.YtibhenengpdahaaW.PrintWords Go.Proofs.YtibhenengpdahaaW.PrintLast Go.Proofs.YtibhenengpdahaaW.PrintMore
/-- Two fields of a reply. -/
theorem rep_field2 (w : World) (e v n : Int) (v3 v4 v5 v6 v7 : Value) : (Instr.field 34 (.agg #[.int .i64 e, .int .i64 v, .int .i64 n, v3, v4, v5, v6, v7]) 2).run Try.prog w = .ok (.int .i64 n) w := by
  unfold Instr.field
  go_simp
  rfl
theorem rep_field0 (w : World) (e v n : Int) (v3 v4 v5 v6 v7 : Value) : (Instr.field 34 (.agg #[.int .i64 e, .int .i64 v, .int .i64 n, v3, v4, v5, v6, v7]) 0).run Try.prog w = .ok (.int .i64 e) w := by
  unfold Instr.field
  go_simp
  rfl
attribute [local go_sem] run_store_cx rep_field2 rep_field0

theorem end_cx (s : ByteArray) (hs : s.size ≤ 100000) : ∃ ea eb, endOf s = .complex .f64 ea eb ∧ (FloatKind.f64.format.order ea ea == some .eq) = true ∧ (FloatKind.f64.format.order eb eb == some .eq) = true := by
  have h := Wk.pos_bd (bytesOf s)
  have hl := bytesOf_length s
  have ha : Fpx.small (Wk.pos (bytesOf s)).1 := Fpx.small_of (by omega) (by omega)
  have hb : Fpx.small (Wk.pos (bytesOf s)).2 := Fpx.small_of (by omega) (by omega)
  exact ⟨_, _, rfl, by rw [Fpx.fmt, Fpx.eq_val (Fpx.Val_fz _ ha) (Fpx.Val_fz _ ha)]; exact decide_eq_true rfl, by rw [Fpx.fmt, Fpx.eq_val (Fpx.Val_fz _ hb) (Fpx.Val_fz _ hb)]; exact decide_eq_true rfl⟩
theorem part_in {l : List S42} (h : Docs0 l) (k : Nat) (hk : k < l.length) (a b : Nat) (h1 : a ≤ b) (h2 : b ≤ l[k].f1.size) : partOf l l[k].f0 (a : Int) (b : Int) = (l[k].f1.extract a b, 0) := by
  unfold partOf
  rw [find_self h k hk, if_neg (by omega), rd_doc_get l k hk, if_neg (by omega), Int.toNat_natCast, Int.toNat_natCast]
theorem part_out {l : List S42} (h : Docs0 l) (k : Nat) (hk : k < l.length) (b : Nat) (h2 : l[k].f1.size < b) : partOf l l[k].f0 0 (b : Int) = (⟨#[]⟩, 3) := by
  unfold partOf
  rw [find_self h k hk, if_neg (by omega), rd_doc_get l k hk, if_pos (by omega)]
theorem plot_ok (A0 : Option Addr) (c0 : Nat) (l0 : List S42) (id tt : Int) (s : ByteArray) (ea eb : Nat) (w : World) (hr0 : Kd.C k42 w A0 l0.length l0) (hc0 : l0.length ≤ c0) (hl : l0.length ≤ 1000000) (hmay : mayB l0 7 id 0 tt 0 ⟨#[]⟩ = true) (hp : partOf l0 id 0 tt = (s, 0)) (he : endOf s = .complex .f64 ea eb) :
    Calls Try.prog 12 #[.slice A0 l0.length c0, .agg #[.int .i64 7, .int .i64 id, .int .i64 0, .int .i64 tt, .int .i64 0, .string ⟨#[]⟩]] w fun e w' =>
      e = .returned (.agg #[.int .i64 0, .int .i64 0, .int .i64 0, .string ⟨#[]⟩, .slice none 0 0, .slice none 0 0, .slice none 0 0, .complex .f64 ea eb]) ∧ Below w.heap.size w w' := by
  refine (answer_plot A0 c0 l0 7 id 0 tt 0 ⟨#[]⟩ w hr0 hc0 hl hmay rfl).mono ?_
  rintro e w' ⟨rfl, hw⟩
  rw [hp, if_pos rfl, he]
  exact ⟨rfl, hw⟩
theorem extract_ok (A0 : Option Addr) (c0 : Nat) (l0 : List S42) (id fr tt : Int) (s : ByteArray) (er : Int) (w : World) (hr0 : Kd.C k42 w A0 l0.length l0) (hc0 : l0.length ≤ c0) (hl : l0.length ≤ 1000000) (hmay : mayB l0 5 id fr tt 0 ⟨#[]⟩ = true) (hp : partOf l0 id fr tt = (s, er)) :
    Calls Try.prog 12 #[.slice A0 l0.length c0, .agg #[.int .i64 5, .int .i64 id, .int .i64 fr, .int .i64 tt, .int .i64 0, .string ⟨#[]⟩]] w fun e w' =>
      e = .returned (.agg #[.int .i64 er, .int .i64 0, .int .i64 0, .string s, .slice none 0 0, .slice none 0 0, .slice none 0 0, .complex .f64 0 0]) ∧ Below w.heap.size w w' := by
  refine (answer_extract A0 c0 l0 5 id fr tt 0 ⟨#[]⟩ w hr0 hc0 hl hmay rfl).mono ?_
  rintro e w' ⟨rfl, hw⟩
  rw [hp]
  exact ⟨rfl, hw⟩
theorem may_extract {l : List S42} (h : Docs0 l) (id : Int) (fr tt : Nat) (h1 : 0 ≤ id) (h2 : id ≤ 65535) (h3 : fr ≤ 65535) (h4 : tt ≤ 65535) : mayB l 5 id (fr : Int) (tt : Int) 0 ⟨#[]⟩ = true := by
  unfold mayB
  rw [(modelB_iff l).2 h, ask_extract, decide_eq_true h1, decide_eq_true h2, decide_eq_true (show (0 : Int) ≤ (fr : Int) by omega), decide_eq_true (show (fr : Int) ≤ 65535 by omega), decide_eq_true (show (0 : Int) ≤ (tt : Int) by omega), decide_eq_true (show (tt : Int) ≤ 65535 by omega)]
  rfl
theorem may_plot {l : List S42} (h : Docs0 l) (id : Int) (tt : Nat) (h1 : 0 ≤ id) (h2 : id ≤ 65535) (h4 : tt ≤ 65535) : mayB l 7 id 0 (tt : Int) 0 ⟨#[]⟩ = true := by
  unfold mayB
  rw [(modelB_iff l).2 h, ask_plot, decide_eq_true h1, decide_eq_true h2, decide_eq_true (show (0 : Int) ≤ (tt : Int) by omega), decide_eq_true (show (tt : Int) ≤ 65535 by omega)]
  rfl
theorem may_list {l : List S42} (h : Docs0 l) : mayB l 6 0 0 0 0 ⟨#[]⟩ = true := by
  unfold mayB
  rw [(modelB_iff l).2 h, ask_list]
  rfl
theorem extract_next (s : ByteArray) (k : Nat) (h : k < s.size) : s.extract 0 k ++ s.extract k (k + 1) = s.extract 0 (k + 1) := by
  rw [← ByteArray.extract_eq_extract_append_extract k (Nat.zero_le _) (Nat.le_succ _)]
def modelParts.T12 : Bool × List (List Nat × List Nat) := (true, [([], []), ([0], [0]), ([1], [1]), ([2], [2]), ([3], [3]), ([4, 3], [3, 4]), ([5, 3], [3, 5]), ([3, 6], [3, 6]), ([7, 3], [7]), ([8], [8]), ([9, 8], [8, 9]), ([8], [8]), ([11, 8], [8, 11]), ([8], [8]), ([12, 13, 8], [8, 12, 13]), ([14, 8, 8], [8, 14]), ([10, 15, 8], [8, 10, 15]), ([8, 16], [8, 16])])
def modelParts.B12 : List Nat := [0, 1, 3, 7, 15, 31, 63, 127, 255, 511, 1023, 511, 2559, 511, 14847, 31231, 65535, 131071]
theorem modelParts.tab12 : rtab .any (opsOf Try.f5 12) = modelParts.T12 := by kernel_rfl
theorem modelParts.bits12 : waitsOk modelParts.T12.2 modelParts.B12 = true := by kernel_rfl
set_option maxRecDepth 100000 in
set_option maxHeartbeats 8000000 in
theorem parts_calls (A0 : Option Addr) (c0 : Nat) (l0 : List S42) (a1 : Int) (w : World) (hr0 : Kd.C k42 w A0 l0.length l0) (hc0 : l0.length ≤ c0) :
    Calls Try.prog 5 #[.slice A0 l0.length c0, .int .i64 a1] w fun e w' => e = .returned (.bool true) ∧ Below w.heap.size w w' := by
  have HR := Aside0.mk hr0
  have HC := Aside0.mk hc0
  have AL := Aside0.mk aliveM_calls
  go_enter Try.func5, Try.ntmps5
  by_cases h0 : l0.length < 1
  · have t0 : decide ((l0.length : Int) < 1) = true := decide_eq_true (by omega)
    go_wp2_with fail
    refine (AL.out _).mono ?_
    rintro en w2 ⟨rfl, hb⟩
    have HB2 := Aside0.mk hb
    clear hb
    go_wp2_with fail
    go_ret
    exact ⟨rfl, HB2.out⟩
  have t0 : decide ((l0.length : Int) < 1) = false := decide_eq_false (by omega)
  by_cases h1 : 14 < l0.length
  · have t1 : decide ((14 : Int) < (l0.length : Int)) = true := decide_eq_true (by omega)
    go_wp2_with fail
    refine (AL.out _).mono ?_
    rintro en w2 ⟨rfl, hb⟩
    have HB2 := Aside0.mk hb
    clear hb
    go_wp2_with fail
    go_ret
    exact ⟨rfl, HB2.out⟩
  have t1 : decide ((14 : Int) < (l0.length : Int)) = false := decide_eq_false (by omega)
  have MR := Aside0.mk (fun w' (hr : Kd.C k42 w' A0 l0.length l0) => model_Right.calls (2 * l0.length + 2) A0 c0 l0 (modelB l0) w' hr hc0 (modelRight_ok l0 (by omega) _ (Nat.le_refl _)))
  go_wp2_with fail
  refine (MR.out _ HR.out).mono ?_
  rintro en w2 ⟨rfl, hb⟩
  have HB2 := Aside0.mk hb
  clear hb
  cases e1 : modelB l0 with
  | false =>
    go_wp2_with fail
    refine (AL.out _).mono ?_
    rintro en w3 ⟨rfl, hb⟩
    have HB3 := Aside0.mk (below_step HB2.out hb)
    clear hb
    go_wp2_with fail
    go_ret
    exact ⟨rfl, HB3.out⟩
  | true =>
    have D0 := (modelB_iff l0).1 e1
    go_wp2_with fail
    refine (AL.out _).mono ?_
    rintro en w3 ⟨rfl, hb⟩
    have HB3 := Aside0.mk (below_step HB2.out hb)
    clear hb
    have HD := Aside0.mk D0
    obtain ⟨k, hk, hke⟩ := turn_ok a1 l0.length (by omega) (by omega)
    have HK := Aside0.mk hk
    obtain ⟨ad, hA, x0, x1⟩ := at_T42 (Kd.C_below HR.out HB3.out) (k : Int) (by omega) (by omega)
    rw [rd_doc_get l0 k hk, Int.toNat_natCast] at x0 x1
    have hpos := D0.pos _ (List.getElem_mem hk)
    have hsz := D0.short _ (List.getElem_mem hk)
    have PI := Aside0.mk (fun a b => part_in D0 k hk a b)
    have PO := Aside0.mk (fun b => part_out D0 k hk b)
    obtain ⟨id, hid⟩ : ∃ id, l0[k].f0 = id := ⟨_, rfl⟩
    obtain ⟨tx, htx⟩ : ∃ tx, l0[k].f1 = tx := ⟨_, rfl⟩
    rw [hid] at x0 hpos PI PO
    rw [htx] at x1 hsz PI PO
    have HPOS := Aside0.mk hpos
    have HSZ := Aside0.mk hsz
    have v4 : (0 ≤ (k : Int)) = True := eq_true (by omega)
    have v5 : ((k : Int) < (l0.length : Int)) = True := eq_true (by omega)
    subst hA
    clear D0 hid htx hpos hsz
    obtain ⟨W3, hW3⟩ : ∃ W, w3.alloc (.cells #[.int .i64 id, .string tx] 42) = W := ⟨_, rfl⟩
    obtain ⟨bD, hbD⟩ : ∃ b, w3.heap.size = b := ⟨_, rfl⟩
    have hb3 : Below w3.heap.size w3 W3 := by rw [← hW3]; exact below_alloc (Below.refl _ _) _
    have HX0 : Aside0 (W3.cell? ⟨bD, 0, none⟩ = some (.int .i64 id)) := ⟨by rw [← hW3, ← hbD]; exact cell_newA w3 _ _ 0 _ rfl⟩
    have HX1 : Aside0 (W3.cell? ⟨bD, 1, none⟩ = some (.string tx)) := ⟨by rw [← hW3, ← hbD]; exact cell_newA w3 _ _ 1 _ rfl⟩
    have HB4 := Aside0.mk (below_step HB3.out hb3)
    have W3E := Aside0.mk hW3
    have BDE := Aside0.mk hbD
    clear hb3 hW3 hbD
    by_cases h3 : 65535 < id
    · have t3 : decide (65535 < id) = true := decide_eq_true h3
      go_wp2_with fail
      go_ret
      rw [W3E.out]
      exact ⟨rfl, HB4.out⟩
    have t3 : decide (65535 < id) = false := decide_eq_false h3
    go_wp2_with fail
    rw [W3E.out, BDE.out]
    go_loopw [6, 7] (fun sv iv wr => ∃ j : Nat, j ≤ tx.size ∧ sv = .string (tx.extract 0 j) ∧ iv = .int .i64 j ∧ Aside0 (Below W3.heap.size W3 wr)) (fun _ iv _ => tx.size - (intOf iv).toNat)
    case atStart => exact ⟨0, Nat.zero_le _, by rw [ByteArray.extract_same]; rfl, rfl, ⟨Below.refl _ _⟩⟩
    case round =>
    obtain ⟨j, hj, rfl, rfl, HBr⟩ := hrel
    have HRw := Aside0.mk (Kd.C_below (Kd.C_below HR.out HB4.out) HBr.out)
    have g0 := pw_cell_below HBr.out HX0.out
    have g1 := pw_cell_below HBr.out HX1.out
    have HG0 := Aside0.mk g0
    have HG1 := Aside0.mk g1
    by_cases hlt : j < tx.size
    · have c1 : decide ((j : Int) < (tx.size : Int)) = true := decide_eq_true (by omega)
      have c2 : decide (j < tx.size) = true := decide_eq_true hlt
      have v6 : IntKind.i64.wrap ((j : Int) + 1) = (j : Int) + 1 := IntWalk.i64_in _ (by have := HSZ.out; omega)
      obtain ⟨ea, eb, hE, hQ1, hQ2⟩ := end_cx (tx.extract 0 j) (by rw [ByteArray.size_extract]; have := HSZ.out; omega)
      have EX := Aside0.mk (extract_ok (some ad) c0 l0 id (j : Int) ((j : Int) + 1) (tx.extract j (j + 1)) 0 wr HRw.out HC.out (by omega) (may_extract HD.out id j (j + 1) (by have := HPOS.out; omega) (by omega) (by have := HSZ.out; omega) (by have := HSZ.out; omega)) (PI.out j (j + 1) (by omega) (by omega)))
      have PL := Aside0.mk (fun w' (hr : Kd.C k42 w' (some ad) l0.length l0) => plot_ok (some ad) c0 l0 id (j : Int) (tx.extract 0 j) ea eb w' hr HC.out (by omega) (may_plot HD.out id j (by have := HPOS.out; omega) (by omega) (by have := HSZ.out; omega)) (PI.out 0 j (by omega) (by omega)) hE)
      have RE := Aside0.mk (fun w' => by
        have h := Wk.refEnd_calls (tx.extract 0 j) (by rw [ByteArray.size_extract]; have := HSZ.out; omega) w'
        rw [show Wk.encP (Wk.pos (bytesOf (tx.extract 0 j))) = .complex .f64 ea eb from hE] at h
        exact h)
      have HEN := Aside0.mk (extract_next tx j hlt)
      have HEQ := Aside0.mk (And.intro hQ1 hQ2)
      clear hE hQ1 hQ2
      go_wp2_with fail
      refine EX.out.mono ?_
      rintro en w5 ⟨rfl, hb⟩
      obtain ⟨W5, hW5, hb5, hc5⟩ := rep_alloc w5 #[.int .i64 0, .int .i64 0, .int .i64 0, .string (tx.extract j (j + 1)), .slice none 0 0, .slice none 0 0, .slice none 0 0, .complex .f64 0 0]
      have HW5 := Aside0.mk hW5
      have HBr5 := Aside0.mk (below_step hb hb5)
      have HP0 := Aside0.mk (hc5 0 _ rfl)
      have HP3 := Aside0.mk (hc5 3 _ rfl)
      have g0 := pw_cell_below HBr5.out HG0.out
      subst hW5
      clear hb hb5 hc5
      go_wp2_with fail
      refine (PL.out _ (Kd.C_below HRw.out HBr5.out)).mono ?_
      rintro en w6 ⟨rfl, hb⟩
      obtain ⟨W6, hW6, hb6, hc6⟩ := rep_alloc w6 #[.int .i64 0, .int .i64 0, .int .i64 0, .string ⟨#[]⟩, .slice none 0 0, .slice none 0 0, .slice none 0 0, .complex .f64 ea eb]
      have hb56 := below_step hb hb6
      have HBr6 := Aside0.mk (below_step HBr5.out hb56)
      have k0 := pw_cell_below hb56 HP0.out
      have k3p := pw_cell_below hb56 HP3.out
      have k1 := hc6 0 _ rfl
      have k2 := hc6 7 _ rfl
      have k3 := pw_cell_below HBr6.out HG1.out
      have HW6 := Aside0.mk hW6
      have HK3P := Aside0.mk k3p
      clear hW6 hb hb6 hc6 hb56 g0 g1 k3p
      go_wp2_with fail
      rw [HW6.out]
      have hcut : (tx.extract 0 j).size = j := by rw [ByteArray.size_extract]; omega
      have hjs : (j ≤ tx.size) = True := eq_true hj
      obtain ⟨hQ1, hQ2⟩ := HEQ.out
      refine start_ (n := 18) (S := fun w' => Below W6.heap.size W6 w') (ds := []) #[false, false, false, false, false, false, false, false, false, false, false, false, false, false, false, false, false, false] (by kernel_rfl) rfl rfl (below_drew1 (Below.refl _ _)) (fun hHeld => ?_)
      refine with_tabW modelParts.tab12 modelParts.bits12 (fun HT_ HW_ => ?_)
      refine take_ (i := 0) (N := some 66) (v := ?_) (a' := ?_) #[true, false, false, false, false, false, false, false, false, false, false, false, false, false, false, false, false, false] rfl rfl (take_ofW HT_.out HW_.out (by kernel_rfl)) (fun _ _ _ h => h) (Or.inl ⟨by rfl, ?_⟩) hHeld ?_ ?_
      rotate_left
      · intro w' s
        go_simp
        with_reducible rfl
      rotate_left
      · simp only [Act.put, List.setIfInBounds_toArray, List.set_cons_zero, List.set_cons_succ, i64_w, i32_w]
        rfl
      refine take_ (i := 1) (N := some 67) (v := ?_) (a' := ?_) #[true, true, false, false, false, false, false, false, false, false, false, false, false, false, false, false, false, false] rfl rfl (take_ofW HT_.out HW_.out (by kernel_rfl)) (fun _ _ _ h => h) (Or.inl ⟨by rfl, ?_⟩) hHeld ?_ ?_
      rotate_left
      · intro w' s
        have s0 := pw_cell_below s k0
        have s1 := pw_cell_below s k1
        have s2 := pw_cell_below s k2
        have s3 := pw_cell_below s k3
        go_simp
        with_reducible rfl
      rotate_left
      · simp only [Act.put, List.setIfInBounds_toArray, List.set_cons_zero, List.set_cons_succ, i64_w, i32_w]
        rfl
      refine take_ (i := 2) (N := some 68) (v := ?_) (a' := ?_) #[true, true, true, false, false, false, false, false, false, false, false, false, false, false, false, false, false, false] rfl rfl (take_ofW HT_.out HW_.out (by kernel_rfl)) (fun _ _ _ h => h) (Or.inl ⟨by rfl, ?_⟩) hHeld ?_ ?_
      rotate_left
      · intro w' s
        go_simp
        with_reducible rfl
      rotate_left
      · simp only [Act.put, List.setIfInBounds_toArray, List.set_cons_zero, List.set_cons_succ, i64_w, i32_w]
        rfl
      refine take_ (i := 3) (N := some 69) (v := ?_) (a' := ?_) #[true, true, true, true, false, false, false, false, false, false, false, false, false, false, false, false, false, false] rfl rfl (take_ofW HT_.out HW_.out (by kernel_rfl)) (fun _ _ _ h => h) (Or.inl ⟨by rfl, ?_⟩) hHeld ?_ ?_
      rotate_left
      · intro w' s
        go_simp
        with_reducible rfl
      rotate_left
      · simp only [Act.put, List.setIfInBounds_toArray, List.set_cons_zero, List.set_cons_succ, i64_w, i32_w]
        rfl
      refine take_ (i := 4) (N := some 70) (v := ?_) (a' := ?_) #[true, true, true, true, true, false, false, false, false, false, false, false, false, false, false, false, false, false] rfl rfl (take_ofW HT_.out HW_.out (by kernel_rfl)) (fun _ _ _ h => h) (Or.inl ⟨by rfl, ?_⟩) hHeld ?_ ?_
      rotate_left
      · intro w' s
        go_simp
        with_reducible rfl
      rotate_left
      · simp only [Act.put, List.setIfInBounds_toArray, List.set_cons_zero, List.set_cons_succ, i64_w, i32_w]
        rfl
      refine take_ (i := 5) (N := some 71) (v := ?_) (a' := ?_) #[true, true, true, true, true, true, false, false, false, false, false, false, false, false, false, false, false, false] rfl rfl (take_ofW HT_.out HW_.out (by kernel_rfl)) (fun _ _ _ h => h) (Or.inl ⟨by rfl, ?_⟩) hHeld ?_ ?_
      rotate_left
      · intro w' s
        have s0 := pw_cell_below s k0
        have s1 := pw_cell_below s k1
        have s2 := pw_cell_below s k2
        have s3 := pw_cell_below s k3
        go_simp
        with_reducible rfl
      rotate_left
      · simp only [Act.put, List.setIfInBounds_toArray, List.set_cons_zero, List.set_cons_succ, i64_w, i32_w]
        rfl
      refine take_ (i := 6) (N := some 72) (v := ?_) (a' := ?_) #[true, true, true, true, true, true, true, false, false, false, false, false, false, false, false, false, false, false] rfl rfl (take_ofW HT_.out HW_.out (by kernel_rfl)) (fun _ _ _ h => h) (Or.inl ⟨by rfl, ?_⟩) hHeld ?_ ?_
      rotate_left
      · intro w' s
        go_simp
        with_reducible rfl
      rotate_left
      · simp only [Act.put, List.setIfInBounds_toArray, List.set_cons_zero, List.set_cons_succ, i64_w, i32_w]
        rfl
      refine take_ (i := 7) (N := some 73) (v := ?_) (a' := ?_) #[true, true, true, true, true, true, true, true, false, false, false, false, false, false, false, false, false, false] rfl rfl (take_ofW HT_.out HW_.out (by kernel_rfl)) (fun _ _ _ h => h) (Or.inl ⟨by rfl, ?_⟩) hHeld ?_ ?_
      rotate_left
      · intro w' s
        go_simp
        with_reducible rfl
      rotate_left
      · simp only [Act.put, List.setIfInBounds_toArray, List.set_cons_zero, List.set_cons_succ, i64_w, i32_w]
        rfl
      refine take_ (i := 8) (N := some 74) (v := ?_) (a' := ?_) #[true, true, true, true, true, true, true, true, true, false, false, false, false, false, false, false, false, false] rfl rfl (take_ofW HT_.out HW_.out (by kernel_rfl)) (fun _ _ _ h => h) (Or.inl ⟨by rfl, ?_⟩) hHeld ?_ ?_
      rotate_left
      · intro w' s
        go_simp
        with_reducible rfl
      rotate_left
      · simp only [Act.put, List.setIfInBounds_toArray, List.set_cons_zero, List.set_cons_succ, i64_w, i32_w]
        rfl
      refine take_ (i := 9) (N := some 75) (v := ?_) (a' := ?_) #[true, true, true, true, true, true, true, true, true, true, false, false, false, false, false, false, false, false] rfl rfl (take_ofW HT_.out HW_.out (by kernel_rfl)) (fun _ _ _ h => h) (Or.inl ⟨by rfl, ?_⟩) hHeld ?_ ?_
      rotate_left
      · intro w' s
        go_simp
        with_reducible rfl
      rotate_left
      · simp only [Act.put, List.setIfInBounds_toArray, List.set_cons_zero, List.set_cons_succ, i64_w, i32_w]
        rfl
      refine take_ (i := 10) (N := some 76) (v := ?_) (a' := ?_) #[true, true, true, true, true, true, true, true, true, true, true, false, false, false, false, false, false, false] rfl rfl (take_ofW HT_.out HW_.out (by kernel_rfl)) (fun _ _ _ h => h) (Or.inl ⟨by rfl, ?_⟩) hHeld ?_ ?_
      rotate_left
      · intro w' s
        have s0 := pw_cell_below s k0
        have s1 := pw_cell_below s k1
        have s2 := pw_cell_below s k2
        have s3 := pw_cell_below s k3
        go_simp
        with_reducible rfl
      rotate_left
      · simp only [Act.put, List.setIfInBounds_toArray, List.set_cons_zero, List.set_cons_succ, i64_w, i32_w]
        rfl
      refine take_ (i := 11) (N := some 77) (v := ?_) (a' := ?_) #[true, true, true, true, true, true, true, true, true, true, true, true, false, false, false, false, false, false] rfl rfl (take_ofW HT_.out HW_.out (by kernel_rfl)) (fun _ _ _ h => h) (Or.inl ⟨by rfl, ?_⟩) hHeld ?_ ?_
      rotate_left
      · intro w' s
        go_simp
        with_reducible rfl
      rotate_left
      · simp only [Act.put, List.setIfInBounds_toArray, List.set_cons_zero, List.set_cons_succ, i64_w, i32_w]
        rfl
      refine take_ (i := 12) (N := some 78) (v := ?_) (a' := ?_) #[true, true, true, true, true, true, true, true, true, true, true, true, true, false, false, false, false, false] rfl rfl (take_ofW HT_.out HW_.out (by kernel_rfl)) (fun _ _ _ h => h) (Or.inl ⟨by rfl, ?_⟩) hHeld ?_ ?_
      rotate_left
      · intro w' s
        have s0 := pw_cell_below s k0
        have s1 := pw_cell_below s k1
        have s2 := pw_cell_below s k2
        have s3 := pw_cell_below s k3
        go_simp
        with_reducible rfl
      rotate_left
      · simp only [Act.put, List.setIfInBounds_toArray, List.set_cons_zero, List.set_cons_succ, i64_w, i32_w]
        rfl
      refine take_ (i := 13) (N := some 79) (v := ?_) (a' := ?_) #[true, true, true, true, true, true, true, true, true, true, true, true, true, true, false, false, false, false] rfl rfl (take_ofW HT_.out HW_.out (by kernel_rfl)) (fun _ _ _ h => h) (Or.inl ⟨by rfl, ?_⟩) hHeld ?_ ?_
      rotate_left
      · intro w' s
        go_simp
        with_reducible rfl
      rotate_left
      · simp only [Act.put, List.setIfInBounds_toArray, List.set_cons_zero, List.set_cons_succ, i64_w, i32_w]
        rfl
      refine take_ (i := 14) (N := some 80) (v := ?_) (a' := ?_) #[true, true, true, true, true, true, true, true, true, true, true, true, true, true, true, false, false, false] rfl rfl (take_ofW HT_.out HW_.out (by kernel_rfl)) (fun _ _ _ h => h) (Or.inl ⟨by rfl, ?_⟩) hHeld ?_ ?_
      rotate_left
      · intro w' s
        go_simp
        with_reducible rfl
      rotate_left
      · simp only [Act.put, List.setIfInBounds_toArray, List.set_cons_zero, List.set_cons_succ, i64_w, i32_w]
        rfl
      refine one_ (i := 15) (N := some 81) #[true, true, true, true, true, true, true, true, true, true, true, true, true, true, true, true, false, false] rfl rfl (one_of HT_.out (by kernel_rfl)) (by decide) (fun K hK => ?_)
      refine goes_ Try.func15 (by kernel_rfl) rfl #[.string (tx.extract 0 j)] (by rfl) rfl rfl (by (try simp only [List.map_toArray, List.map_cons, List.map_nil]); first | done | rfl | (simp only [List.length_drop, List.length_take]; rfl)) ?_
      refine (RE.out _).mono ?_
      rintro en w8 ⟨rfl, hb⟩
      refine ⟨_, rfl, ?_⟩
      have hS8 := below_step hHeld hb
      refine hK.out _ _ hS8 (fun hHeld => ?_)
      clear hK K
      refine norm_ (a' := ?_) ?_ ?_
      rotate_left
      · show Act.put _ (some 81) _ = _
        simp only [Act.put, List.setIfInBounds_toArray, List.set_cons_zero, List.set_cons_succ, i64_w, i32_w]
        rfl
      refine take_ (i := 16) (N := some 82) (v := ?_) (a' := ?_) #[true, true, true, true, true, true, true, true, true, true, true, true, true, true, true, true, true, false] rfl rfl (take_ofW HT_.out HW_.out (by kernel_rfl)) (fun _ _ _ h => h) (Or.inl ⟨by rfl, ?_⟩) hHeld ?_ ?_
      rotate_left
      · intro w' s
        go_simp
        with_reducible rfl
      rotate_left
      · simp only [Act.put, List.setIfInBounds_toArray, List.set_cons_zero, List.set_cons_succ, i64_w, i32_w]
        rfl
      refine take_ (i := 17) (N := some 83) (v := ?_) (a' := ?_) #[true, true, true, true, true, true, true, true, true, true, true, true, true, true, true, true, true, true] rfl rfl (take_ofW HT_.out HW_.out (by kernel_rfl)) (fun _ _ _ h => h) (Or.inl ⟨by rfl, ?_⟩) hHeld ?_ ?_
      rotate_left
      · intro w' s
        go_simp
        with_reducible rfl
      rotate_left
      · simp only [Act.put, List.setIfInBounds_toArray, List.set_cons_zero, List.set_cons_succ, i64_w, i32_w]
        rfl
      refine done_ (done_of HT_.out (by kernel_rfl)) ?_
      have HB68 := Aside0.mk hHeld
      have z3 := pw_cell_below hHeld HK3P.out
      clear hHeld k0 k1 k2 k3 hQ1 hQ2 hjs hcut
      have hno : ¬ 9223372036854775807 < j + (min (j + 1) tx.size - j) := by have := HSZ.out; omega
      go_wp2_with fail
      go_roundw
      case rel => exact ⟨j + 1, by omega, rfl, by go_num, ⟨below_step HBr.out (below_step HBr6.out HB68.out)⟩⟩
      case measure => simp [intOf]; omega
    · obtain rfl : j = tx.size := by omega
      have c1 : decide ((tx.size : Int) < (tx.size : Int)) = false := decide_eq_false (by omega)
      have c2 : decide (tx.size < tx.size) = false := decide_eq_false (by omega)
      have v6 : IntKind.i64.wrap ((tx.size : Int) + 1) = (tx.size : Int) + 1 := IntWalk.i64_in _ (by have := HSZ.out; omega)
      have EX := Aside0.mk (extract_ok (some ad) c0 l0 id 0 ((tx.size : Int) + 1) ⟨#[]⟩ 3 wr HRw.out HC.out (by omega) (may_extract HD.out id 0 (tx.size + 1) (by have := HPOS.out; omega) (by omega) (by omega) (by have := HSZ.out; omega)) (PO.out (tx.size + 1) (by omega)))
      have AI := Aside0.mk (fun w' (hr : Kd.C k42 w' (some ad) l0.length l0) => answer_list (some ad) c0 l0 6 0 0 0 0 ⟨#[]⟩ w' hr HC.out (by omega) (may_list HD.out) rfl)
      unfold repCells nilS zeroC at AI
      have hall : tx.extract 0 tx.size = tx := ByteArray.extract_zero_size
      rw [hall]
      go_wp2_with fail
      refine EX.out.mono ?_
      rintro en w5 ⟨rfl, hb⟩
      obtain ⟨W5, hW5, hb5, hc5⟩ := rep_alloc w5 #[.int .i64 3, .int .i64 0, .int .i64 0, .string ⟨#[]⟩, .slice none 0 0, .slice none 0 0, .slice none 0 0, .complex .f64 0 0]
      have HBr5 := Aside0.mk (below_step hb hb5)
      have k0 := hc5 0 _ rfl
      have k1 := pw_cell_below HBr5.out HG1.out
      subst hW5
      clear hb hb5 hc5 g0 g1
      go_wp2_with fail
      refine (AI.out _ (Kd.C_below HRw.out HBr5.out)).mono ?_
      rintro en w6 ⟨A1, c1', A2, c2', rfl, _, _, hb⟩
      have HB6 := Aside0.mk (below_step HB4.out (below_step HBr.out (below_step HBr5.out hb)))
      clear hb k0 k1
      go_wp2_with fail
      go_ret
      exact ⟨rfl, HB6.out⟩
/-- The same, in the row's form. -/
theorem ModelParts_all (A0 : Option Addr) (c0 : Nat) (l0 : List S42) (a1 : Int) (w : World) (hr0 : Kd.C k42 w A0 l0.length l0) (hc0 : l0.length ≤ c0) (hs : ∀ x ∈ l0, (Lit.int .i64 x.f0).wf = true ∧ x.f1.size ≤ 9223372036854775807) (hl : l0.length * 24 ≤ 140737488351232) (w1 : (Lit.int .i64 a1).wf = true) :
    Calls Try.prog 5 #[.slice A0 l0.length c0, .int .i64 a1] w fun e w' => e = .returned (.bool true) ∧ Below w.heap.size w w' := parts_calls A0 c0 l0 a1 w hr0 hc0
end Go.Proofs.Ytibhenengpdahaa.P
