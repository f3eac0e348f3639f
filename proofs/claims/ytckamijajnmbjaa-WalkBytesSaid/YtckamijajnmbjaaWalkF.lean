/- The law WalkBytes returns true. Conditions: none beyond the given statement's. -/
import Derived.Test.YtckamijajnmbjaaWalkC
set_option linter.unusedVariables false
set_option linter.unusedSimpArgs false
namespace Go.Proofs.Ytckamijajnmbjaa.Wk
open Go.RowKit Go.Proofs.YtckamijajnmbjaaW.PrintWords Go.Proofs.YtckamijajnmbjaaW.PrintLast Go.Proofs.YtckamijajnmbjaaW.PrintMore Go.Proofs.Ytckamijajnmbjaa.Fpx

theorem bytesOf_nums (xs : List Int) (h : ∀ x ∈ xs, 0 ≤ x ∧ x ≤ 255) : bytesOf (strOfNums xs) = xs := by
  unfold bytesOf strOfNums
  rw [List.toList_toArray, List.map_map]
  conv => rhs; rw [← List.map_id xs]
  apply List.map_congr_left
  intro x hx
  have := h x hx
  simp only [Function.comp, id]
  have e : (UInt8.ofNat x.toNat).toNat = x.toNat := by
    rw [UInt8.toNat_ofNat']
    omega
  rw [e]
  omega
theorem run_mulc {P : Program} (t : TypeId) (r : Nat × Nat) (a b c d : Nat) (h : cMulBits a b c d = some (r.1, r.2)) (w : World) :
    (binOp .mul t (.complex .f64 a b) (.complex .f64 c d)).run P w = .ok (.complex .f64 r.1 r.2) w := run_complex_mul w t a b c d r.1 r.2 h

/-- The four products of a step by itself. -/
def mulTab (a b c d : Nat) : Nat × Nat := (cMulBits a b c d).getD (0, 0)
theorem mulTab_ok : ∀ q : Fin 4, 
    let a := fz (tx (q.val : Int) 1 0); let b := fz (ty (q.val : Int) 1 0)
    let m := mulTab a b a b; let n := mulTab m.1 m.2 a b; let o := mulTab n.1 n.2 a b
    cMulBits a b a b = some (m.1, m.2) ∧ cMulBits m.1 m.2 a b = some (n.1, n.2) ∧ cMulBits n.1 n.2 a b = some (o.1, o.2) ∧
      (FloatKind.f64.format.order o.1 4607182418800017408 == some .eq) = true ∧ (FloatKind.f64.format.order o.2 0 == some .eq) = true := by
  decide +kernel
theorem wrapu8 (n : Int) : IntKind.u8.wrap n = n % 256 := IntKind.wrap_u8 n

theorem cell_news (W : World) (nd : Nat) (cs : Array Value) (t : TypeId) (i : Nat) (v : Value) (h : cs[i]? = some v) : ((W.drewN nd).alloc (.cells cs t)).cell? ⟨W.heap.size, 0 + i, none⟩ = some v := by
  have hb : ((W.drewN nd).alloc (.cells cs t)).heap[W.heap.size]? = some (.cells cs t (0, 0)) := heap_alloc_new (W.drewN nd) _
  rw [Nat.zero_add]
  unfold World.cell?
  dsimp only
  rw [hb]
  exact h

theorem conv_str (xs : List Int) (W : World) (nd : Nat) :
    (convert 38 9 (.slice (some ⟨W.heap.size, 0, none⟩) xs.length xs.length)).run Try.prog ((W.drewN nd).alloc (.cells (xs.map (Value.int .u8)).toArray 5)) = .ok (.string (strOfNums xs)) ((W.drewN nd).alloc (.cells (xs.map (Value.int .u8)).toArray 5)) :=
  run_convert_bytes_arg _ 38 5 Try.underlying38 Try.underlying5 W.heap.size 0 xs.length xs.length xs rfl (fun i hi => by
    refine cell_news W nd _ _ i _ ?_
    simp [List.getD_eq_getElem?_getD, List.getElem?_eq_getElem hi]) 9 Try.underlying9

set_option maxRecDepth 100000 in
set_option maxHeartbeats 2000000 in
theorem WalkBytes_all (b : Int) (w : World) (hw : (Lit.int .u8 b).wf = true) :
    Calls Try.prog 8 #[.int .u8 b] w fun e w' => e = .returned (.bool true) ∧ Below w.heap.size w w' := by
  have hb0 : 0 ≤ b ∧ b ≤ 255 := by
    simp only [Lit.wf, Bool.and_eq_true, decide_eq_true_eq] at hw
    have e0 : IntKind.u8.min = 0 := rfl
    have e1 : IntKind.u8.max = 255 := rfl
    omega
  clear hw
  obtain ⟨a, ha⟩ : ∃ a, sx b = a := ⟨_, rfl⟩
  obtain ⟨c, hc⟩ : ∃ c, sy b = c := ⟨_, rfl⟩
  have B1 := Aside0.mk (Step_calls b hb0.1 hb0.2)
  have e1 : sx ((b + 1) % 256) = -c ∧ sy ((b + 1) % 256) = a := by
    have h := sx_eq b; have h2 := sy_eq b; have h3 := sx_eq ((b + 1) % 256); have h4 := sy_eq ((b + 1) % 256)
    have : (b + 1) % 256 % 4 = (b % 4 + 1) % 4 := by omega
    have : b % 4 = 0 ∨ b % 4 = 1 ∨ b % 4 = 2 ∨ b % 4 = 3 := by omega
    rw [ha] at h; rw [hc] at h2
    rcases this with q | q | q | q <;> simp_all
  have e2 : sx ((b - 1) % 256) = c ∧ sy ((b - 1) % 256) = -a := by
    have h := sx_eq b; have h2 := sy_eq b; have h3 := sx_eq ((b - 1) % 256); have h4 := sy_eq ((b - 1) % 256)
    have : (b - 1) % 256 % 4 = (b % 4 + 3) % 4 := by omega
    have : b % 4 = 0 ∨ b % 4 = 1 ∨ b % 4 = 2 ∨ b % 4 = 3 := by omega
    rw [ha] at h; rw [hc] at h2
    rcases this with q | q | q | q <;> simp_all
  have e3 : sx ((b + 2) % 256) = -a ∧ sy ((b + 2) % 256) = -c := by
    have h := sx_eq b; have h2 := sy_eq b; have h3 := sx_eq ((b + 2) % 256); have h4 := sy_eq ((b + 2) % 256)
    have : (b + 2) % 256 % 4 = (b % 4 + 2) % 4 := by omega
    have : b % 4 = 0 ∨ b % 4 = 1 ∨ b % 4 = 2 ∨ b % 4 = 3 := by omega
    rw [ha] at h; rw [hc] at h2
    rcases this with q | q | q | q <;> simp_all
  have e4 : sx ((b + 3) % 256) = c ∧ sy ((b + 3) % 256) = -a := by
    have h := sx_eq b; have h2 := sy_eq b; have h3 := sx_eq ((b + 3) % 256); have h4 := sy_eq ((b + 3) % 256)
    have : (b + 3) % 256 % 4 = (b % 4 + 3) % 4 := by omega
    have : b % 4 = 0 ∨ b % 4 = 1 ∨ b % 4 = 2 ∨ b % 4 = 3 := by omega
    rw [ha] at h; rw [hc] at h2
    rcases this with q | q | q | q <;> simp_all
  have ac : -1 ≤ a ∧ a ≤ 1 ∧ -1 ≤ c ∧ c ≤ 1 := by have := step_bd b; rw [ha, hc] at this; exact this
  have one : (a.natAbs : Int) + (c.natAbs : Int) = 1 := by
    have h := sx_eq b; have h2 := sy_eq b
    have : b % 4 = 0 ∨ b % 4 = 1 ∨ b % 4 = 2 ∨ b % 4 = 3 := by omega
    rw [ha] at h; rw [hc] at h2
    rcases this with q | q | q | q <;> simp [q] at h h2 <;> subst h h2 <;> decide
  have S2 := Aside0.mk (Step_calls ((b + 1) % 256) (by omega) (by omega))
  have S3 := Aside0.mk (Step_calls ((b - 1) % 256) (by omega) (by omega))
  rw [ha, hc] at B1
  rw [e1.1, e1.2] at S2
  rw [e2.1, e2.2] at S3
  have T1 := Aside0.mk (Turn_calls (fz a) (fz c) a c 1 (Near_fz _) (Near_fz _) (small100 (by omega) (by omega)) (small100 (by omega) (by omega)))
  have T2 := Aside0.mk (Turn_calls (fz a) (fz c) a c (-1) (Near_fz _) (Near_fz _) (small100 (by omega) (by omega)) (small100 (by omega) (by omega)))
  have t1 : tx (1 % 4) a c = -c ∧ ty (1 % 4) a c = a := by simp [tx, ty]
  have t2 : tx ((-1) % 4) a c = c ∧ ty ((-1) % 4) a c = -a := by simp [tx, ty]
  rw [t1.1, t1.2] at T1
  rw [t2.1, t2.2] at T2
  have D1 := Aside0.mk (Apart_at 0 0 a c (nigh_mk (by omega) (by omega) (by omega) (by omega)) (nigh_mk (by omega) (by omega) (by omega) (by omega)))
  have d1 : farI 0 0 a c = 1 := by unfold farI; omega
  rw [d1, fz_zero] at D1
  have b1 := bytesOf_nums [b, (b + 1) % 256, (b + 2) % 256, (b + 3) % 256] (by simp; omega)
  have b2 := bytesOf_nums [b, (b + 2) % 256] (by simp; omega)
  have C1 := Aside0.mk (End_at (strOfNums [b, (b + 1) % 256, (b + 2) % 256, (b + 3) % 256]) 0 0 (by
    rw [b1]; simp only [pos, e1, e3, e4, ha, hc, Prod.mk.injEq]; omega) (by rw [strOfNums_size]; simp))
  have C2 := Aside0.mk (End_at (strOfNums [b, (b + 2) % 256]) 0 0 (by
    rw [b2]; simp only [pos, e3, ha, hc, Prod.mk.injEq]; omega) (by rw [strOfNums_size]; simp))
  rw [fz_zero] at C1 C2
  have hmul := mulTab_ok ⟨(b % 4).toNat, by omega⟩
  have hq : (((b % 4).toNat : Nat) : Int) = b % 4 := by omega
  simp only [hq] at hmul
  have hsx : tx (b % 4) 1 0 = a := ha
  have hsy : ty (b % 4) 1 0 = c := hc
  rw [hsx, hsy] at hmul
  obtain ⟨h1, h2, h3, h4, h5⟩ := hmul
  generalize mulTab (fz a) (fz c) (fz a) (fz c) = m at *
  generalize mulTab m.1 m.2 (fz a) (fz c) = n at *
  generalize mulTab n.1 n.2 (fz a) (fz c) = o at *
  have m1 := fun t w => run_mulc (P := Try.prog) t m _ _ _ _ h1 w
  have m2 := fun t w => run_mulc (P := Try.prog) t n _ _ _ _ h2 w
  have m3 := fun t w => run_mulc (P := Try.prog) t o _ _ _ _ h3 w
  have cv4 := conv_str [b, (b + 1) % 256, (b + 2) % 256, (b + 3) % 256]
  have cv2 := conv_str [b, (b + 2) % 256]
  simp only [List.length_cons, List.length_nil, List.map_cons, List.map_nil] at cv4 cv2
  have AL := Aside0.mk alive_calls
  have HB : Aside0 (Below w.heap.size w w) := ⟨Below.refl _ _⟩
  have b00 := hb0.1
  have b01 := hb0.2
  clear ha hc e1 e2 e3 e4 ac one t1 t2 d1 b1 b2 hq hsx hsy h1 h2 h3 hb0
  go_enter Try.func8, Try.ntmps8
  go_wp2_with (first
    | (go_at_call 11; (with_reducible refine (AL.out _).mono ?_); rintro e w' ⟨rfl, hb⟩; have n0_ := Aside0.mk (below_step (by repeat (first | (with_reducible first | exact HB.out | apply below_alloc | apply pw_below_drewN | apply below_drew1) | exact HB.out)) hb); clear HB; have HB := n0_; clear n0_ hb)
    | (go_at_call 17; (first | (with_reducible refine (C1.out _).mono ?_) | (with_reducible refine (C2.out _).mono ?_)); rintro e w' ⟨rfl, hb⟩; have n0_ := Aside0.mk (below_step (by repeat (first | (with_reducible first | exact HB.out | apply below_alloc | apply pw_below_drewN | apply below_drew1) | exact HB.out)) hb); clear HB; have HB := n0_; clear n0_ hb)
    | (go_at_call 12; (first | (with_reducible refine (T1.out _).mono ?_) | (with_reducible refine (T2.out _).mono ?_)); rintro e w' ⟨rfl, ⟨nd, rfl⟩⟩)
    | (go_at_call 19; (first | (with_reducible refine (B1.out _).mono ?_) | (with_reducible refine (S2.out _).mono ?_) | (with_reducible refine (S3.out _).mono ?_)); rintro e w' ⟨rfl, ⟨nd, rfl⟩⟩)
    | (go_at_call 13; (with_reducible refine (exact_yes _ _ _).mono ?_); rintro e w' ⟨rfl, ⟨nd, rfl⟩⟩)
    | (go_at_call 18; (first | (with_reducible refine (D1.out _).mono ?_)); rintro e w' ⟨rfl, ⟨nd, rfl⟩⟩))
  go_ret
  refine ⟨?_, by repeat (first | (with_reducible first | exact HB.out | apply below_alloc | apply pw_below_drewN | apply below_drew1) | exact HB.out)⟩
  rfl

end Go.Proofs.Ytckamijajnmbjaa.Wk
