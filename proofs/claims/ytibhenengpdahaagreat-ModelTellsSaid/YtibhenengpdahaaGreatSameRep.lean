/- The function SameReply, of two replies that tell the same. Conditions: how their lists lie in memory, and their lengths; the place's parts are equal to themselves. (Printed by gensame.py.) -/
import Derived.Test.YtibhenengpdahaaGreatJJ
set_option linter.unusedVariables false
set_option linter.unusedSimpArgs false
namespace Go.Proofs.YtibhenengpdahaaGreat.P
open Go.RowKit Go.Proofs.YtibhenengpdahaaGreatW.PrintWords Go.Proofs.YtibhenengpdahaaGreatW.PrintLast Go.Proofs.YtibhenengpdahaaGreatW.PrintMore
attribute [local go_sem] run_store_cx
attribute [local go_sem high] eqA27 eqA61

theorem rep_alloc (w : World) (cs : Array Value) : ∃ W, w.alloc (.cells cs 34) = W ∧ Below w.heap.size w W ∧ ∀ i v, cs[i]? = some v → W.cell? ⟨w.heap.size, i, none⟩ = some v :=
 ⟨_, rfl, below_alloc (Below.refl _ _) _, fun i v h => cell_newA w cs _ i v h⟩
def sameRep.T6 : Bool × List (List Nat × List Nat) := (true, [([], []), ([0], [0]), ([], []), ([1, 2], [1, 2]), ([3], [3]), ([], []), ([5], [5]), ([], []), ([6, 7], [6, 7]), ([8], [8]), ([4, 9], [4, 9])])
def sameRep.B6 : List Nat := [0, 1, 0, 7, 15, 0, 32, 0, 224, 480, 1023]
theorem sameRep.tab6 : rtab .any (opsOf Tryz.f13 6) = sameRep.T6 := by kernel_rfl
theorem sameRep.bits6 : waitsOk sameRep.T6.2 sameRep.B6 = true := by kernel_rfl
def sameRep.T11 : Bool × List (List Nat × List Nat) := (true, [([], []), ([0], [0]), ([], []), ([1, 2], [1, 2]), ([3], [3]), ([], []), ([5], [5]), ([], []), ([6, 7], [6, 7]), ([8], [8]), ([4, 9], [4, 9])])
def sameRep.B11 : List Nat := [0, 1, 0, 7, 15, 0, 32, 0, 224, 480, 1023]
theorem sameRep.tab11 : rtab .any (opsOf Tryz.f13 11) = sameRep.T11 := by kernel_rfl
theorem sameRep.bits11 : waitsOk sameRep.T11.2 sameRep.B11 = true := by kernel_rfl
def sameRep.T16 : Bool × List (List Nat × List Nat) := (true, [([], []), ([0], [0]), ([], []), ([1, 2], [1, 2]), ([3], [3]), ([], []), ([5], [5]), ([], []), ([6, 7], [6, 7]), ([8], [8]), ([4, 9], [4, 9])])
def sameRep.B16 : List Nat := [0, 1, 0, 7, 15, 0, 32, 0, 224, 480, 1023]
theorem sameRep.tab16 : rtab .any (opsOf Tryz.f13 16) = sameRep.T16 := by kernel_rfl
theorem sameRep.bits16 : waitsOk sameRep.T16.2 sameRep.B16 = true := by kernel_rfl
set_option maxRecDepth 100000 in
set_option maxHeartbeats 8000000 in
theorem sameRep_calls (er n : Int) (tx : ByteArray) (sp : List S61) (dc : List S27) (ln : List Int) (ea eb : Nat) (hQ1 : (FloatKind.f64.format.order ea ea == some .eq) = true) (hQ2 : (FloatKind.f64.format.order eb eb == some .eq) = true)
  (A1 : Option Addr) (c1 : Nat) (A2 : Option Addr) (c2 : Nat) (A3 : Option Addr) (c3 : Nat) (B1 : Option Addr) (d1 : Nat) (B2 : Option Addr) (d2 : Nat) (B3 : Option Addr) (d3 : Nat) (w : World)
  (hA1 : Kd.C k61 w A1 sp.length sp) (hA2 : Kd.C k27 w A2 dc.length dc) (hA3 : Kd.C (Kd.int .i64) w A3 ln.length ln) (hB1 : Kd.C k61 w B1 sp.length sp) (hB2 : Kd.C k27 w B2 dc.length dc) (hB3 : Kd.C (Kd.int .i64) w B3 ln.length ln)
  (hs1 : sp.length ≤ 1000000) (hs2 : dc.length ≤ 1000000) (hs3 : ln.length ≤ 1000000) :
  Calls Tryz.prog 13 #[.agg #[.int .i64 er, .int .i64 0, .int .i64 n, .string tx, .slice A1 sp.length c1, .slice A2 dc.length c2, .slice A3 ln.length c3, .complex .f64 ea eb], .agg #[.int .i64 er, .int .i64 0, .int .i64 n, .string tx, .slice B1 sp.length d1, .slice B2 dc.length d2, .slice B3 ln.length d3, .complex .f64 ea eb]] w fun e w' => e = .returned (.bool true) ∧ Below w.heap.size w w' := by
 obtain ⟨W1, hW1, hb1, hc1⟩ := rep_alloc w #[.int .i64 er, .int .i64 0, .int .i64 n, .string tx, .slice A1 sp.length c1, .slice A2 dc.length c2, .slice A3 ln.length c3, .complex .f64 ea eb]
 obtain ⟨W2, hW2, hb2, hc2⟩ := rep_alloc W1 #[.int .i64 er, .int .i64 0, .int .i64 n, .string tx, .slice B1 sp.length d1, .slice B2 dc.length d2, .slice B3 ln.length d3, .complex .f64 ea eb]
 have hB := below_step hb1 hb2
 have HB := Aside0.mk hB
 have x0 := pw_cell_below hb2 (hc1 0 _ rfl)
 have x1 := pw_cell_below hb2 (hc1 1 _ rfl)
 have x2 := pw_cell_below hb2 (hc1 2 _ rfl)
 have x3 := pw_cell_below hb2 (hc1 3 _ rfl)
 have x4 := pw_cell_below hb2 (hc1 4 _ rfl)
 have x5 := pw_cell_below hb2 (hc1 5 _ rfl)
 have x6 := pw_cell_below hb2 (hc1 6 _ rfl)
 have x7 := pw_cell_below hb2 (hc1 7 _ rfl)
 have y0 := hc2 0 _ rfl
 have y1 := hc2 1 _ rfl
 have y2 := hc2 2 _ rfl
 have y3 := hc2 3 _ rfl
 have y4 := hc2 4 _ rfl
 have y5 := hc2 5 _ rfl
 have y6 := hc2 6 _ rfl
 have y7 := hc2 7 _ rfl
 have HA1 := Aside0.mk (Kd.C_below hA1 hB)
 have HB1 := Aside0.mk (Kd.C_below hB1 hB)
 have HS1 := Aside0.mk hs1
 have HA2 := Aside0.mk (Kd.C_below hA2 hB)
 have HB2 := Aside0.mk (Kd.C_below hB2 hB)
 have HS2 := Aside0.mk hs2
 have HA3 := Aside0.mk (Kd.C_below hA3 hB)
 have HB3 := Aside0.mk (Kd.C_below hB3 hB)
 have HS3 := Aside0.mk hs3
 have hsz : W1.heap.size = w.heap.size + 1 := by rw [← hW1]; exact Array.size_push _
 rw [hsz] at y0 y1 y2 y3 y4 y5 y6 y7
 have W1E := Aside0.mk hW1
 have W2E := Aside0.mk hW2
 clear hb1 hc1 hb2 hc2 hB hA1 hA2 hA3 hB1 hB2 hB3 hs1 hs2 hs3 hW1 hW2 hsz
 go_enter Tryz.func13, Tryz.ntmps13
 go_wp2_with fail
 rw [W1E.out]
 go_wp2_with fail
 rw [W2E.out]
 go_wp2_with fail
 clear hQ1 hQ2
 go_loopw [5] (fun iv wr1 => ∃ k : Nat, k ≤ sp.length ∧ iv = .int .i64 k ∧ Aside0 (Below W2.heap.size W2 wr1)) (fun iv _ => sp.length - (intOf iv).toNat)
 case atStart => exact ⟨0, Nat.zero_le _, rfl, ⟨Below.refl _ _⟩⟩
 case round =>
  obtain ⟨wr1, hwr⟩ : ∃ x, x = wr := ⟨_, rfl⟩
  subst hwr
  obtain ⟨k1, hk, rfl, HBr1⟩ := hrel
  have gx1 := pw_cell_below HBr1.out x4
  have gy1 := pw_cell_below HBr1.out y4
  by_cases hlt : k1 < sp.length
  ·obtain ⟨ada, rfl, z0, z1⟩ := at_T61 (Kd.C_below HA1.out HBr1.out) (k1 : Int) (by omega) (by omega)
   obtain ⟨adb, rfl, u0, u1⟩ := at_T61 (Kd.C_below HB1.out HBr1.out) (k1 : Int) (by omega) (by omega)
   obtain ⟨p, hp⟩ : ∃ p, rd_T61 sp (k1 : Int) = p := ⟨_, rfl⟩
   rw [hp, Int.toNat_natCast] at z0 z1 u0 u1
   obtain ⟨p0, p1⟩ := p
   dsimp only at z0 z1 u0 u1
   clear hp
   have c1 : decide ((k1 : Int) < (sp.length : Int)) = true := decide_eq_true (by omega)
   have c2 : decide (k1 < sp.length) = true := decide_eq_true hlt
   have v1 : (0 ≤ (k1 : Int)) = True := eq_true (by omega)
   have v2 : ((k1 : Int) < (sp.length : Int)) = True := eq_true (by omega)
   have v3 : IntKind.i64.wrap ((k1 : Int) + 1) = (k1 : Int) + 1 := IntWalk.i64_in _ (by have := HS1.out; omega)
   go_wp2_with fail
   refine start_ (n := 11) (S := fun w' => Below wr1.heap.size wr1 w') (ds := []) (bs 11 0) (by kernel_rfl) rfl rfl (below_drew1 (Below.refl _ _)) (fun hHeld => ?_)
   refine with_tabW sameRep.tab6 sameRep.bits6 (fun HT_ HW_ => ?_)
   refine take_ (i := 0) (N := some 75) (v := ?_) (a' := ?_) (bs 11 1) rfl rfl (take_ofW HT_.out HW_.out (by kernel_rfl)) (fun _ _ _ h => h) (Or.inl ⟨by rfl, ?_⟩) hHeld ?_ ?_
   rotate_left
   ·intro w' s
    go_simp
    with_reducible rfl
   rotate_left
   ·simp only [Act.put, List.setIfInBounds_toArray, List.set_cons_zero, List.set_cons_succ, i64_w, i32_w]
    rfl
   refine take_ (i := 1) (N := some 76) (v := ?_) (a' := ?_) (bs 11 3) rfl rfl (take_ofW HT_.out HW_.out (by kernel_rfl)) (fun _ _ _ h => h) (Or.inl ⟨by rfl, ?_⟩) hHeld ?_ ?_
   rotate_left
   ·intro w' s
    have s0 := pw_cell_below s gx1
    have s1 := pw_cell_below s gy1
    have s2 := pw_cell_below s z0
    have s3 := pw_cell_below s u0
    have s4 := pw_cell_below s z1
    have s5 := pw_cell_below s u1
    go_simp
    with_reducible rfl
   rotate_left
   ·simp only [Act.put, List.setIfInBounds_toArray, List.set_cons_zero, List.set_cons_succ, i64_w, i32_w]
    rfl
   iterate 2
    refine tk_ (N := some _) (v := ?_) (a' := ?_) rfl rfl (take_ofW HT_.out HW_.out (by kernel_rfl)) (fun _ _ _ h => h) (Or.inl ⟨by rfl, ?_⟩) hHeld ?_ ?_
    rotate_left
    ·intro w' s
     go_simp
     with_reducible rfl
    rotate_left
    ·simp only [Act.put, List.setIfInBounds_toArray, List.set_cons_zero, List.set_cons_succ, i64_w, i32_w]
     rfl
   refine take_ (i := 4) (N := some 79) (v := ?_) (a' := ?_) (bs 11 31) rfl rfl (take_ofW HT_.out HW_.out (by kernel_rfl)) (fun _ _ _ h => h) (Or.inl ⟨by rfl, ?_⟩) hHeld ?_ ?_
   rotate_left
   ·intro w' s
    have s0 := pw_cell_below s gx1
    have s1 := pw_cell_below s gy1
    have s2 := pw_cell_below s z0
    have s3 := pw_cell_below s u0
    have s4 := pw_cell_below s z1
    have s5 := pw_cell_below s u1
    go_simp
    with_reducible rfl
   rotate_left
   ·simp only [Act.put, List.setIfInBounds_toArray, List.set_cons_zero, List.set_cons_succ, i64_w, i32_w]
    rfl
   refine take_ (i := 5) (N := some 80) (v := ?_) (a' := ?_) (bs 11 63) rfl rfl (take_ofW HT_.out HW_.out (by kernel_rfl)) (fun _ _ _ h => h) (Or.inl ⟨by rfl, ?_⟩) hHeld ?_ ?_
   rotate_left
   ·intro w' s
    go_simp
    with_reducible rfl
   rotate_left
   ·simp only [Act.put, List.setIfInBounds_toArray, List.set_cons_zero, List.set_cons_succ, i64_w, i32_w]
    rfl
   refine take_ (i := 6) (N := some 81) (v := ?_) (a' := ?_) (bs 11 127) rfl rfl (take_ofW HT_.out HW_.out (by kernel_rfl)) (fun _ _ _ h => h) (Or.inl ⟨by rfl, ?_⟩) hHeld ?_ ?_
   rotate_left
   ·intro w' s
    have s0 := pw_cell_below s gx1
    have s1 := pw_cell_below s gy1
    have s2 := pw_cell_below s z0
    have s3 := pw_cell_below s u0
    have s4 := pw_cell_below s z1
    have s5 := pw_cell_below s u1
    go_simp
    with_reducible rfl
   rotate_left
   ·simp only [Act.put, List.setIfInBounds_toArray, List.set_cons_zero, List.set_cons_succ, i64_w, i32_w]
    rfl
   iterate 2
    refine tk_ (N := some _) (v := ?_) (a' := ?_) rfl rfl (take_ofW HT_.out HW_.out (by kernel_rfl)) (fun _ _ _ h => h) (Or.inl ⟨by rfl, ?_⟩) hHeld ?_ ?_
    rotate_left
    ·intro w' s
     go_simp
     with_reducible rfl
    rotate_left
    ·simp only [Act.put, List.setIfInBounds_toArray, List.set_cons_zero, List.set_cons_succ, i64_w, i32_w]
     rfl
   refine take_ (i := 9) (N := some 84) (v := ?_) (a' := ?_) (bs 11 1023) rfl rfl (take_ofW HT_.out HW_.out (by kernel_rfl)) (fun _ _ _ h => h) (Or.inl ⟨by rfl, ?_⟩) hHeld ?_ ?_
   rotate_left
   ·intro w' s
    have s0 := pw_cell_below s gx1
    have s1 := pw_cell_below s gy1
    have s2 := pw_cell_below s z0
    have s3 := pw_cell_below s u0
    have s4 := pw_cell_below s z1
    have s5 := pw_cell_below s u1
    go_simp
    with_reducible rfl
   rotate_left
   ·simp only [Act.put, List.setIfInBounds_toArray, List.set_cons_zero, List.set_cons_succ, i64_w, i32_w]
    rfl
   refine take_ (i := 10) (N := some 85) (v := ?_) (a' := ?_) (bs 11 2047) rfl rfl (take_ofW HT_.out HW_.out (by kernel_rfl)) (fun _ _ _ h => h) (Or.inl ⟨by rfl, ?_⟩) hHeld ?_ ?_
   rotate_left
   ·intro w' s
    go_simp
    with_reducible rfl
   rotate_left
   ·simp only [Act.put, List.setIfInBounds_toArray, List.set_cons_zero, List.set_cons_succ, i64_w, i32_w]
    rfl
   refine done_ (done_of HT_.out (by kernel_rfl)) ?_
   have HBn := Aside0.mk (below_step HBr1.out hHeld)
   clear hHeld
   go_wp2_with fail
   go_roundw
   case rel => exact ⟨k1 + 1, by omega, by go_num, HBn⟩
   case measure => simp [intOf]; omega
  ·obtain rfl : k1 = sp.length := by omega
   have c1 : decide ((sp.length : Int) < (sp.length : Int)) = false := decide_eq_false (by omega)
   have c2 : decide (sp.length < sp.length) = false := decide_eq_false (by omega)
   go_wp2_with fail
   clear c1 c2
   go_loopw [6] (fun iv wr2 => ∃ k : Nat, k ≤ dc.length ∧ iv = .int .i64 k ∧ Aside0 (Below W2.heap.size W2 wr2)) (fun iv _ => dc.length - (intOf iv).toNat)
   case atStart => exact ⟨0, Nat.zero_le _, rfl, HBr1⟩
   case round =>
    obtain ⟨wr2, hwr⟩ : ∃ x, x = wr := ⟨_, rfl⟩
    subst hwr
    obtain ⟨k2, hk, rfl, HBr2⟩ := hrel
    have gx2 := pw_cell_below HBr2.out x5
    have gy2 := pw_cell_below HBr2.out y5
    by_cases hlt : k2 < dc.length
    ·obtain ⟨ada, rfl, z0, z1⟩ := at_T27 (Kd.C_below HA2.out HBr2.out) (k2 : Int) (by omega) (by omega)
     obtain ⟨adb, rfl, u0, u1⟩ := at_T27 (Kd.C_below HB2.out HBr2.out) (k2 : Int) (by omega) (by omega)
     obtain ⟨p, hp⟩ : ∃ p, rd_T27 dc (k2 : Int) = p := ⟨_, rfl⟩
     rw [hp, Int.toNat_natCast] at z0 z1 u0 u1
     obtain ⟨p0, p1⟩ := p
     dsimp only at z0 z1 u0 u1
     clear hp
     have c1 : decide ((k2 : Int) < (dc.length : Int)) = true := decide_eq_true (by omega)
     have c2 : decide (k2 < dc.length) = true := decide_eq_true hlt
     have v1 : (0 ≤ (k2 : Int)) = True := eq_true (by omega)
     have v2 : ((k2 : Int) < (dc.length : Int)) = True := eq_true (by omega)
     have v3 : IntKind.i64.wrap ((k2 : Int) + 1) = (k2 : Int) + 1 := IntWalk.i64_in _ (by have := HS2.out; omega)
     go_wp2_with fail
     refine start_ (n := 11) (S := fun w' => Below wr2.heap.size wr2 w') (ds := []) (bs 11 0) (by kernel_rfl) rfl rfl (below_drew1 (Below.refl _ _)) (fun hHeld => ?_)
     refine with_tabW sameRep.tab11 sameRep.bits11 (fun HT_ HW_ => ?_)
     refine take_ (i := 0) (N := some 93) (v := ?_) (a' := ?_) (bs 11 1) rfl rfl (take_ofW HT_.out HW_.out (by kernel_rfl)) (fun _ _ _ h => h) (Or.inl ⟨by rfl, ?_⟩) hHeld ?_ ?_
     rotate_left
     ·intro w' s
      go_simp
      with_reducible rfl
     rotate_left
     ·simp only [Act.put, List.setIfInBounds_toArray, List.set_cons_zero, List.set_cons_succ, i64_w, i32_w]
      rfl
     refine take_ (i := 1) (N := some 94) (v := ?_) (a' := ?_) (bs 11 3) rfl rfl (take_ofW HT_.out HW_.out (by kernel_rfl)) (fun _ _ _ h => h) (Or.inl ⟨by rfl, ?_⟩) hHeld ?_ ?_
     rotate_left
     ·intro w' s
      have s0 := pw_cell_below s gx2
      have s1 := pw_cell_below s gy2
      have s2 := pw_cell_below s z0
      have s3 := pw_cell_below s u0
      have s4 := pw_cell_below s z1
      have s5 := pw_cell_below s u1
      go_simp
      with_reducible rfl
     rotate_left
     ·simp only [Act.put, List.setIfInBounds_toArray, List.set_cons_zero, List.set_cons_succ, i64_w, i32_w]
      rfl
     iterate 2
      refine tk_ (N := some _) (v := ?_) (a' := ?_) rfl rfl (take_ofW HT_.out HW_.out (by kernel_rfl)) (fun _ _ _ h => h) (Or.inl ⟨by rfl, ?_⟩) hHeld ?_ ?_
      rotate_left
      ·intro w' s
       go_simp
       with_reducible rfl
      rotate_left
      ·simp only [Act.put, List.setIfInBounds_toArray, List.set_cons_zero, List.set_cons_succ, i64_w, i32_w]
       rfl
     refine take_ (i := 4) (N := some 97) (v := ?_) (a' := ?_) (bs 11 31) rfl rfl (take_ofW HT_.out HW_.out (by kernel_rfl)) (fun _ _ _ h => h) (Or.inl ⟨by rfl, ?_⟩) hHeld ?_ ?_
     rotate_left
     ·intro w' s
      have s0 := pw_cell_below s gx2
      have s1 := pw_cell_below s gy2
      have s2 := pw_cell_below s z0
      have s3 := pw_cell_below s u0
      have s4 := pw_cell_below s z1
      have s5 := pw_cell_below s u1
      go_simp
      with_reducible rfl
     rotate_left
     ·simp only [Act.put, List.setIfInBounds_toArray, List.set_cons_zero, List.set_cons_succ, i64_w, i32_w]
      rfl
     refine take_ (i := 5) (N := some 98) (v := ?_) (a' := ?_) (bs 11 63) rfl rfl (take_ofW HT_.out HW_.out (by kernel_rfl)) (fun _ _ _ h => h) (Or.inl ⟨by rfl, ?_⟩) hHeld ?_ ?_
     rotate_left
     ·intro w' s
      go_simp
      with_reducible rfl
     rotate_left
     ·simp only [Act.put, List.setIfInBounds_toArray, List.set_cons_zero, List.set_cons_succ, i64_w, i32_w]
      rfl
     refine take_ (i := 6) (N := some 99) (v := ?_) (a' := ?_) (bs 11 127) rfl rfl (take_ofW HT_.out HW_.out (by kernel_rfl)) (fun _ _ _ h => h) (Or.inl ⟨by rfl, ?_⟩) hHeld ?_ ?_
     rotate_left
     ·intro w' s
      have s0 := pw_cell_below s gx2
      have s1 := pw_cell_below s gy2
      have s2 := pw_cell_below s z0
      have s3 := pw_cell_below s u0
      have s4 := pw_cell_below s z1
      have s5 := pw_cell_below s u1
      go_simp
      with_reducible rfl
     rotate_left
     ·simp only [Act.put, List.setIfInBounds_toArray, List.set_cons_zero, List.set_cons_succ, i64_w, i32_w]
      rfl
     iterate 2
      refine tk_ (N := some _) (v := ?_) (a' := ?_) rfl rfl (take_ofW HT_.out HW_.out (by kernel_rfl)) (fun _ _ _ h => h) (Or.inl ⟨by rfl, ?_⟩) hHeld ?_ ?_
      rotate_left
      ·intro w' s
       go_simp
       with_reducible rfl
      rotate_left
      ·simp only [Act.put, List.setIfInBounds_toArray, List.set_cons_zero, List.set_cons_succ, i64_w, i32_w]
       rfl
     refine take_ (i := 9) (N := some 102) (v := ?_) (a' := ?_) (bs 11 1023) rfl rfl (take_ofW HT_.out HW_.out (by kernel_rfl)) (fun _ _ _ h => h) (Or.inl ⟨by rfl, ?_⟩) hHeld ?_ ?_
     rotate_left
     ·intro w' s
      have s0 := pw_cell_below s gx2
      have s1 := pw_cell_below s gy2
      have s2 := pw_cell_below s z0
      have s3 := pw_cell_below s u0
      have s4 := pw_cell_below s z1
      have s5 := pw_cell_below s u1
      go_simp
      with_reducible rfl
     rotate_left
     ·simp only [Act.put, List.setIfInBounds_toArray, List.set_cons_zero, List.set_cons_succ, i64_w, i32_w]
      rfl
     refine take_ (i := 10) (N := some 103) (v := ?_) (a' := ?_) (bs 11 2047) rfl rfl (take_ofW HT_.out HW_.out (by kernel_rfl)) (fun _ _ _ h => h) (Or.inl ⟨by rfl, ?_⟩) hHeld ?_ ?_
     rotate_left
     ·intro w' s
      go_simp
      with_reducible rfl
     rotate_left
     ·simp only [Act.put, List.setIfInBounds_toArray, List.set_cons_zero, List.set_cons_succ, i64_w, i32_w]
      rfl
     refine done_ (done_of HT_.out (by kernel_rfl)) ?_
     have HBn := Aside0.mk (below_step HBr2.out hHeld)
     clear hHeld
     go_wp2_with fail
     go_roundw
     case rel => exact ⟨k2 + 1, by omega, by go_num, HBn⟩
     case measure => simp [intOf]; omega
    ·obtain rfl : k2 = dc.length := by omega
     have c1 : decide ((dc.length : Int) < (dc.length : Int)) = false := decide_eq_false (by omega)
     have c2 : decide (dc.length < dc.length) = false := decide_eq_false (by omega)
     go_wp2_with fail
     clear c1 c2
     go_loopw [7] (fun iv wr3 => ∃ k : Nat, k ≤ ln.length ∧ iv = .int .i64 k ∧ Aside0 (Below W2.heap.size W2 wr3)) (fun iv _ => ln.length - (intOf iv).toNat)
     case atStart => exact ⟨0, Nat.zero_le _, rfl, HBr2⟩
     case round =>
      obtain ⟨wr3, hwr⟩ : ∃ x, x = wr := ⟨_, rfl⟩
      subst hwr
      obtain ⟨k3, hk, rfl, HBr3⟩ := hrel
      have gx3 := pw_cell_below HBr3.out x6
      have gy3 := pw_cell_below HBr3.out y6
      by_cases hlt : k3 < ln.length
      ·obtain ⟨ada, rfl, z0⟩ := Kd.at_int (Kd.C_below HA3.out HBr3.out) (k3 : Int) (by omega) (by omega)
       obtain ⟨adb, rfl, u0⟩ := Kd.at_int (Kd.C_below HB3.out HBr3.out) (k3 : Int) (by omega) (by omega)
       obtain ⟨p0, hp⟩ : ∃ p, rd ln (k3 : Int) = p := ⟨_, rfl⟩
       rw [hp, Int.toNat_natCast] at z0 u0
       clear hp
       have c1 : decide ((k3 : Int) < (ln.length : Int)) = true := decide_eq_true (by omega)
       have c2 : decide (k3 < ln.length) = true := decide_eq_true hlt
       have v1 : (0 ≤ (k3 : Int)) = True := eq_true (by omega)
       have v2 : ((k3 : Int) < (ln.length : Int)) = True := eq_true (by omega)
       have v3 : IntKind.i64.wrap ((k3 : Int) + 1) = (k3 : Int) + 1 := IntWalk.i64_in _ (by have := HS3.out; omega)
       go_wp2_with fail
       refine start_ (n := 11) (S := fun w' => Below wr3.heap.size wr3 w') (ds := []) (bs 11 0) (by kernel_rfl) rfl rfl (below_drew1 (Below.refl _ _)) (fun hHeld => ?_)
       refine with_tabW sameRep.tab16 sameRep.bits16 (fun HT_ HW_ => ?_)
       refine take_ (i := 0) (N := some 111) (v := ?_) (a' := ?_) (bs 11 1) rfl rfl (take_ofW HT_.out HW_.out (by kernel_rfl)) (fun _ _ _ h => h) (Or.inl ⟨by rfl, ?_⟩) hHeld ?_ ?_
       rotate_left
       ·intro w' s
        go_simp
        with_reducible rfl
       rotate_left
       ·simp only [Act.put, List.setIfInBounds_toArray, List.set_cons_zero, List.set_cons_succ, i64_w, i32_w]
        rfl
       refine take_ (i := 1) (N := some 112) (v := ?_) (a' := ?_) (bs 11 3) rfl rfl (take_ofW HT_.out HW_.out (by kernel_rfl)) (fun _ _ _ h => h) (Or.inl ⟨by rfl, ?_⟩) hHeld ?_ ?_
       rotate_left
       ·intro w' s
        have s0 := pw_cell_below s gx3
        have s1 := pw_cell_below s gy3
        have s2 := pw_cell_below s z0
        have s3 := pw_cell_below s u0
        go_simp
        with_reducible rfl
       rotate_left
       ·simp only [Act.put, List.setIfInBounds_toArray, List.set_cons_zero, List.set_cons_succ, i64_w, i32_w]
        rfl
       iterate 2
        refine tk_ (N := some _) (v := ?_) (a' := ?_) rfl rfl (take_ofW HT_.out HW_.out (by kernel_rfl)) (fun _ _ _ h => h) (Or.inl ⟨by rfl, ?_⟩) hHeld ?_ ?_
        rotate_left
        ·intro w' s
         go_simp
         with_reducible rfl
        rotate_left
        ·simp only [Act.put, List.setIfInBounds_toArray, List.set_cons_zero, List.set_cons_succ, i64_w, i32_w]
         rfl
       refine take_ (i := 4) (N := some 115) (v := ?_) (a' := ?_) (bs 11 31) rfl rfl (take_ofW HT_.out HW_.out (by kernel_rfl)) (fun _ _ _ h => h) (Or.inl ⟨by rfl, ?_⟩) hHeld ?_ ?_
       rotate_left
       ·intro w' s
        have s0 := pw_cell_below s gx3
        have s1 := pw_cell_below s gy3
        have s2 := pw_cell_below s z0
        have s3 := pw_cell_below s u0
        go_simp
        with_reducible rfl
       rotate_left
       ·simp only [Act.put, List.setIfInBounds_toArray, List.set_cons_zero, List.set_cons_succ, i64_w, i32_w]
        rfl
       refine take_ (i := 5) (N := some 116) (v := ?_) (a' := ?_) (bs 11 63) rfl rfl (take_ofW HT_.out HW_.out (by kernel_rfl)) (fun _ _ _ h => h) (Or.inl ⟨by rfl, ?_⟩) hHeld ?_ ?_
       rotate_left
       ·intro w' s
        go_simp
        with_reducible rfl
       rotate_left
       ·simp only [Act.put, List.setIfInBounds_toArray, List.set_cons_zero, List.set_cons_succ, i64_w, i32_w]
        rfl
       refine take_ (i := 6) (N := some 117) (v := ?_) (a' := ?_) (bs 11 127) rfl rfl (take_ofW HT_.out HW_.out (by kernel_rfl)) (fun _ _ _ h => h) (Or.inl ⟨by rfl, ?_⟩) hHeld ?_ ?_
       rotate_left
       ·intro w' s
        have s0 := pw_cell_below s gx3
        have s1 := pw_cell_below s gy3
        have s2 := pw_cell_below s z0
        have s3 := pw_cell_below s u0
        go_simp
        with_reducible rfl
       rotate_left
       ·simp only [Act.put, List.setIfInBounds_toArray, List.set_cons_zero, List.set_cons_succ, i64_w, i32_w]
        rfl
       iterate 2
        refine tk_ (N := some _) (v := ?_) (a' := ?_) rfl rfl (take_ofW HT_.out HW_.out (by kernel_rfl)) (fun _ _ _ h => h) (Or.inl ⟨by rfl, ?_⟩) hHeld ?_ ?_
        rotate_left
        ·intro w' s
         go_simp
         with_reducible rfl
        rotate_left
        ·simp only [Act.put, List.setIfInBounds_toArray, List.set_cons_zero, List.set_cons_succ, i64_w, i32_w]
         rfl
       refine take_ (i := 9) (N := some 120) (v := ?_) (a' := ?_) (bs 11 1023) rfl rfl (take_ofW HT_.out HW_.out (by kernel_rfl)) (fun _ _ _ h => h) (Or.inl ⟨by rfl, ?_⟩) hHeld ?_ ?_
       rotate_left
       ·intro w' s
        have s0 := pw_cell_below s gx3
        have s1 := pw_cell_below s gy3
        have s2 := pw_cell_below s z0
        have s3 := pw_cell_below s u0
        go_simp
        with_reducible rfl
       rotate_left
       ·simp only [Act.put, List.setIfInBounds_toArray, List.set_cons_zero, List.set_cons_succ, i64_w, i32_w]
        rfl
       refine take_ (i := 10) (N := some 121) (v := ?_) (a' := ?_) (bs 11 2047) rfl rfl (take_ofW HT_.out HW_.out (by kernel_rfl)) (fun _ _ _ h => h) (Or.inl ⟨by rfl, ?_⟩) hHeld ?_ ?_
       rotate_left
       ·intro w' s
        go_simp
        with_reducible rfl
       rotate_left
       ·simp only [Act.put, List.setIfInBounds_toArray, List.set_cons_zero, List.set_cons_succ, i64_w, i32_w]
        rfl
       refine done_ (done_of HT_.out (by kernel_rfl)) ?_
       have HBn := Aside0.mk (below_step HBr3.out hHeld)
       clear hHeld
       go_wp2_with fail
       go_roundw
       case rel => exact ⟨k3 + 1, by omega, by go_num, HBn⟩
       case measure => simp [intOf]; omega
      ·obtain rfl : k3 = ln.length := by omega
       have c1 : decide ((ln.length : Int) < (ln.length : Int)) = false := decide_eq_false (by omega)
       have c2 : decide (ln.length < ln.length) = false := decide_eq_false (by omega)
       go_wp2_with fail
       clear c1 c2
       go_ret
       exact ⟨rfl, below_step HB.out HBr3.out⟩
end Go.Proofs.YtibhenengpdahaaGreat.P
