/- The law WalkBoxes returns true. Conditions: none beyond the given statement's. -/
import Derived.Test.YtckamijajnmbjaaWalkC
set_option linter.unusedVariables false
set_option linter.unusedSimpArgs false
namespace Go.Proofs.Ytckamijajnmbjaa.Wk
open Go.RowKit Go.Proofs.YtckamijajnmbjaaW.PrintWords Go.Proofs.YtckamijajnmbjaaW.PrintLast Go.Proofs.YtckamijajnmbjaaW.PrintMore Go.Proofs.Ytckamijajnmbjaa.Fpx

def hit (f : Nat → Int) (c : Int) : Nat → Bool
  | 0 => false
  | k + 1 => hit f c k || decide (f k = c)
theorem hit_at (f : Nat → Int) (c : Int) (k i : Nat) (h : i < k) (e : f i = c) : hit f c k = true := by
  induction k with
  | zero => omega
  | succ k ih =>
    simp only [hit, Bool.or_eq_true, decide_eq_true_eq]
    by_cases hi : i = k
    · subst hi; exact .inr e
    · exact .inl (ih (by omega))
theorem lo_ex (f : Nat → Int) (k : Nat) : lo f k = 0 ∨ ∃ i, i < k ∧ f i = lo f k := by
  induction k with
  | zero => exact .inl rfl
  | succ k ih =>
    by_cases h : lo f k ≤ f k
    · have e : lo f (k + 1) = lo f k := by simp only [lo]; omega
      rw [e]
      rcases ih with h0 | ⟨i, hi, he⟩
      · exact .inl h0
      · exact .inr ⟨i, by omega, he⟩
    · have e : lo f (k + 1) = f k := by simp only [lo]; omega
      exact .inr ⟨k, by omega, e.symm⟩
theorem hi_ex (f : Nat → Int) (k : Nat) : hi f k = 0 ∨ ∃ i, i < k ∧ f i = hi f k := by
  induction k with
  | zero => exact .inl rfl
  | succ k ih =>
    by_cases h : f k ≤ hi f k
    · have e : hi f (k + 1) = hi f k := by simp only [hi]; omega
      rw [e]
      rcases ih with h0 | ⟨i, hi, he⟩
      · exact .inl h0
      · exact .inr ⟨i, by omega, he⟩
    · have e : hi f (k + 1) = f k := by simp only [hi]; omega
      exact .inr ⟨k, by omega, e.symm⟩
theorem hit_lo (f : Nat → Int) (k : Nat) (h0 : f 0 = 0) (hk : 0 < k) : hit f (lo f k) k = true := by
  rcases lo_ex f k with h | ⟨i, hi, he⟩
  · exact hit_at f _ k 0 hk (by rw [h0, h])
  · exact hit_at f _ k i hi he
theorem hit_hi (f : Nat → Int) (k : Nat) (h0 : f 0 = 0) (hk : 0 < k) : hit f (hi f k) k = true := by
  rcases hi_ex f k with h | ⟨i, hi, he⟩
  · exact hit_at f _ k 0 hk (by rw [h0, h])
  · exact hit_at f _ k i hi he
theorem lo_le (f : Nat → Int) (k i : Nat) (h : i < k) : lo f k ≤ f i := by
  induction k with
  | zero => omega
  | succ k ih =>
    simp only [lo]
    by_cases hi : i = k
    · subst hi; omega
    · have := ih (by omega); omega
theorem hi_ge (f : Nat → Int) (k i : Nat) (h : i < k) : f i ≤ hi f k := by
  induction k with
  | zero => omega
  | succ k ih =>
    simp only [hi]
    by_cases hi : i = k
    · subst hi; omega
    · have := ih (by omega); omega
theorem lo_more (f g : Nat → Int) (k : Nat) (h : ∀ i, i < k → g i = f i) : ∀ n, lo g (k + n) ≤ lo f k
  | 0 => by
    have : ∀ j, j ≤ k → lo g j = lo f j := by
      intro j
      induction j with
      | zero => intro _; rfl
      | succ j ih => intro hj; simp only [lo]; rw [ih (by omega), h j (by omega)]
    rw [Nat.add_zero, this k (Nat.le_refl _)]
    exact Int.le_refl _
  | n + 1 => by
    have := lo_more f g k h n
    show lo g (k + n + 1) ≤ _
    simp only [lo]
    omega
theorem hi_more (f g : Nat → Int) (k : Nat) (h : ∀ i, i < k → g i = f i) : ∀ n, hi f k ≤ hi g (k + n)
  | 0 => by
    have : ∀ j, j ≤ k → hi g j = hi f j := by
      intro j
      induction j with
      | zero => intro _; rfl
      | succ j ih => intro hj; simp only [hi]; rw [ih (by omega), h j (by omega)]
    rw [Nat.add_zero, this k (Nat.le_refl _)]
    exact Int.le_refl _
  | n + 1 => by
    have := hi_more f g k h n
    show _ ≤ hi g (k + n + 1)
    simp only [hi]
    omega

theorem ltf (a b : Int) (ha : small a) (hb : small b) : (FloatKind.f64.format.order (fz a) (fz b) == some .lt) = decide (a < b) := by rw [fmt]; exact lt_val (Val_fz a ha) (Val_fz b hb)
theorem gtf (a b : Int) (ha : small a) (hb : small b) : (FloatKind.f64.format.order (fz a) (fz b) == some .gt) = decide (b < a) := by rw [fmt]; exact gt_val (Val_fz a ha) (Val_fz b hb)

set_option maxRecDepth 100000 in
set_option maxHeartbeats 4000000 in
theorem WalkBoxes_main (s t : ByteArray) (hs : s.size ≤ 150) (ht : t.size ≤ 150) (w : World) :
    Calls Try.prog 4 #[.string s, .string t] w fun e w' => e = .returned (.bool true) ∧ Below w.heap.size w w' := by
  have hls := bytesOf_length s
  have hlt' := bytesOf_length t
  have hst : (s ++ t).size = s.size + t.size := ByteArray.size_append
  have hlst := bytesOf_length (s ++ t)
  have FS := fx_bd (bytesOf s) (by omega)
  have FT := fx_bd (bytesOf (s ++ t)) (by omega)
  have P1 := Aside0.mk (Path_calls s (by omega))
  have X1 := Aside0.mk (Box_calls s (by omega))
  have X2 := Aside0.mk (Box_calls (s ++ t) (by omega))
  have hx0 : fx (bytesOf s) 0 = 0 := rfl
  have hy0 : fy (bytesOf s) 0 = 0 := rfl
  have tk : ∀ i, i < s.size + 1 → (bytesOf (s ++ t)).take i = (bytesOf s).take i := by
    intro i hi
    rw [bytesOf_append, List.take_append_of_le_length (by omega)]
  have ex : ∀ i, i < s.size + 1 → fx (bytesOf (s ++ t)) i = fx (bytesOf s) i := fun i hi => by unfold fx; rw [tk i hi]
  have ey : ∀ i, i < s.size + 1 → fy (bytesOf (s ++ t)) i = fy (bytesOf s) i := fun i hi => by unfold fy; rw [tk i hi]
  have eN : (s ++ t).size + 1 = s.size + 1 + t.size := by omega
  have l1 := lo_more _ _ (s.size + 1) ex t.size
  have l2 := lo_more _ _ (s.size + 1) ey t.size
  have l3 := hi_more _ _ (s.size + 1) ex t.size
  have l4 := hi_more _ _ (s.size + 1) ey t.size
  have H1 := Aside0.mk (hit_lo _ (s.size + 1) hx0 (by omega))
  have H2 := Aside0.mk (hit_hi _ (s.size + 1) hx0 (by omega))
  have H3 := Aside0.mk (hit_lo _ (s.size + 1) hy0 (by omega))
  have H4 := Aside0.mk (hit_hi _ (s.size + 1) hy0 (by omega))
  have bl1 := lo_bd (fx (bytesOf s)) 100000 (by omega) (s.size + 1) (fun i _ => ⟨(FS i).1, (FS i).2.1⟩)
  have bl2 := lo_bd (fy (bytesOf s)) 100000 (by omega) (s.size + 1) (fun i _ => ⟨(FS i).2.2.1, (FS i).2.2.2⟩)
  have bh1 := hi_bd (fx (bytesOf s)) 100000 (by omega) (s.size + 1) (fun i _ => ⟨(FS i).1, (FS i).2.1⟩)
  have bh2 := hi_bd (fy (bytesOf s)) 100000 (by omega) (s.size + 1) (fun i _ => ⟨(FS i).2.2.1, (FS i).2.2.2⟩)
  have cl1 := lo_bd (fx (bytesOf (s ++ t))) 100000 (by omega) (s.size + 1 + t.size) (fun i _ => ⟨(FT i).1, (FT i).2.1⟩)
  have cl2 := lo_bd (fy (bytesOf (s ++ t))) 100000 (by omega) (s.size + 1 + t.size) (fun i _ => ⟨(FT i).2.2.1, (FT i).2.2.2⟩)
  have ch1 := hi_bd (fx (bytesOf (s ++ t))) 100000 (by omega) (s.size + 1 + t.size) (fun i _ => ⟨(FT i).1, (FT i).2.1⟩)
  have ch2 := hi_bd (fy (bytesOf (s ++ t))) 100000 (by omega) (s.size + 1 + t.size) (fun i _ => ⟨(FT i).2.2.1, (FT i).2.2.2⟩)
  have KF : Aside0 (∀ k, k < s.size + 1 → lo (fx (bytesOf s)) (s.size + 1) ≤ fx (bytesOf s) k ∧ fx (bytesOf s) k ≤ hi (fx (bytesOf s)) (s.size + 1) ∧ lo (fy (bytesOf s)) (s.size + 1) ≤ fy (bytesOf s) k ∧ fy (bytesOf s) k ≤ hi (fy (bytesOf s)) (s.size + 1)) :=
    ⟨fun k hk => ⟨lo_le _ _ _ hk, hi_ge _ _ _ hk, lo_le _ _ _ hk, hi_ge _ _ _ hk⟩⟩
  have FK := Aside0.mk FS
  rw [eN] at X2
  simp only [encP, boxLo, boxHi] at X1 X2
  generalize lo (fx (bytesOf s)) (s.size + 1) = a1 at *
  generalize lo (fy (bytesOf s)) (s.size + 1) = a2 at *
  generalize hi (fx (bytesOf s)) (s.size + 1) = b1 at *
  generalize hi (fy (bytesOf s)) (s.size + 1) = b2 at *
  generalize lo (fx (bytesOf (s ++ t))) (s.size + 1 + t.size) = c1 at *
  generalize lo (fy (bytesOf (s ++ t))) (s.size + 1 + t.size) = c2 at *
  generalize hi (fx (bytesOf (s ++ t))) (s.size + 1 + t.size) = d1 at *
  generalize hi (fy (bytesOf (s ++ t))) (s.size + 1 + t.size) = d2 at *
  have u1 : (FloatKind.f64.format.order (fz c1) (fz a1) == some .lt || FloatKind.f64.format.order (fz c1) (fz a1) == some .eq) = true := by rw [ltf c1 a1 (small100 (by omega) (by omega)) (small100 (by omega) (by omega)), eqf c1 a1 (small100 (by omega) (by omega)) (small100 (by omega) (by omega)), ← Bool.decide_or]; exact decide_eq_true (by omega)
  have u2 : (FloatKind.f64.format.order (fz c2) (fz a2) == some .lt || FloatKind.f64.format.order (fz c2) (fz a2) == some .eq) = true := by rw [ltf c2 a2 (small100 (by omega) (by omega)) (small100 (by omega) (by omega)), eqf c2 a2 (small100 (by omega) (by omega)) (small100 (by omega) (by omega)), ← Bool.decide_or]; exact decide_eq_true (by omega)
  have u3 : (FloatKind.f64.format.order (fz d1) (fz b1) == some .gt || FloatKind.f64.format.order (fz d1) (fz b1) == some .eq) = true := by rw [gtf d1 b1 (small100 (by omega) (by omega)) (small100 (by omega) (by omega)), eqf d1 b1 (small100 (by omega) (by omega)) (small100 (by omega) (by omega)), ← Bool.decide_or]; exact decide_eq_true (by omega)
  have u4 : (FloatKind.f64.format.order (fz d2) (fz b2) == some .gt || FloatKind.f64.format.order (fz d2) (fz b2) == some .eq) = true := by rw [gtf d2 b2 (small100 (by omega) (by omega)) (small100 (by omega) (by omega)), eqf d2 b2 (small100 (by omega) (by omega)) (small100 (by omega) (by omega)), ← Bool.decide_or]; exact decide_eq_true (by omega)
  have SA1 : Aside0 (small a1 ∧ small a2 ∧ small b1 ∧ small b2) := ⟨⟨small100 (by omega) (by omega), small100 (by omega) (by omega), small100 (by omega) (by omega), small100 (by omega) (by omega)⟩⟩
  have g1 : decide (150 < (s.size : Int)) = false := decide_eq_false (by omega)
  have g2 : decide (150 < (t.size : Int)) = false := decide_eq_false (by omega)
  have AL := Aside0.mk alive_calls
  have HB : Aside0 (Below w.heap.size w w) := ⟨Below.refl _ _⟩
  have hsize : s.size + t.size ≤ 9223372036854775807 := by omega
  clear hls hlt' hst hlst FS FT hx0 hy0 tk ex ey eN l1 l2 l3 l4 bl1 bl2 bh1 bh2 cl1 cl2 ch1 ch2
  go_enter Try.func4, Try.ntmps4
  go_wp2_with (first
    | (go_at_call 11; (with_reducible refine (AL.out _).mono ?_); rintro e w' ⟨rfl, hb⟩; have n0_ := Aside0.mk (below_step (by repeat (first | (with_reducible first | exact HB.out | apply below_alloc | apply pw_below_drewN | apply below_drew1) | exact HB.out)) hb); clear HB; have HB := n0_; clear n0_ hb)
    | (go_at_call 15; (first | (with_reducible refine (X1.out _).mono ?_) | (with_reducible refine (X2.out _).mono ?_)); rintro e w' ⟨rfl, hb⟩; have n0_ := Aside0.mk (below_step (by repeat (first | (with_reducible first | exact HB.out | apply below_alloc | apply pw_below_drewN | apply below_drew1) | exact HB.out)) hb); clear HB; have HB := n0_; clear n0_ hb))
  refine (P1.out _).mono ?_
  rintro e w1 ⟨v, rfl, HO0, HB0⟩
  have n0_ := Aside0.mk (below_step (by repeat (first | (with_reducible first | exact HB.out | apply below_alloc | apply pw_below_drewN | apply below_drew1) | exact HB.out)) HB0)
  clear HB
  have HB := n0_
  clear n0_
  have HO := Aside0.mk HO0
  obtain ⟨A, c, rfl, hlc, hC0⟩ := Kd.R_reads HO0
  have HC := Aside0.mk hC0
  have hpl := path_length (bytesOf s) s.size
  rw [hpl] at HC ⊢
  clear HO0 HB0 hC0 hpl hlc
  go_wp2_with fail
  go_loopw [9, 10, 11, 12, 43] (fun v1 v2 v3 v4 i wr => ∃ k : Nat, k ≤ s.size + 1 ∧ i = .int .i64 k ∧ Aside0 (v1 = .bool (hit (fx (bytesOf s)) a1 k)) ∧ Aside0 (v2 = .bool (hit (fx (bytesOf s)) b1 k)) ∧ Aside0 (v3 = .bool (hit (fy (bytesOf s)) a2 k)) ∧ Aside0 (v4 = .bool (hit (fy (bytesOf s)) b2 k)) ∧ Aside0 (Drawn0 w1 wr)) (fun _ _ _ _ i _ => s.size + 1 - (intOf i).toNat)
  case atStart => exact ⟨0, by omega, rfl, ⟨rfl⟩, ⟨rfl⟩, ⟨rfl⟩, ⟨rfl⟩, ⟨Drawn0.refl _⟩⟩
  case round =>
    obtain ⟨k, hk, rfl, r1, r2, r3, r4, HD⟩ := hrel
    obtain ⟨rfl⟩ := r1
    obtain ⟨rfl⟩ := r2
    obtain ⟨rfl⟩ := r3
    obtain ⟨rfl⟩ := r4
    by_cases hlt : k < s.size + 1
    · obtain ⟨nd, hw⟩ := HD.out.out
      obtain ⟨ad, cs, rfl, hcs, hK, hcell⟩ := Kd.C_get HC.out (0, 0) (k : Int) (by omega) (by omega)
      obtain ⟨g, rfl⟩ := Kd.R_head HO.out
      have hK' : cs = [encP ((path (bytesOf s) s.size).getD (k : Int).toNat (0, 0))] := hK
      rw [Int.toNat_natCast, path_at _ _ _ (by omega)] at hK'
      have hc1 := hcell 0 (encP (pos ((bytesOf s).take k))) (by rw [hK']; rfl)
      have e1 : (k : Int).toNat * kP.sz + 0 = k := by show (k : Int).toNat * 1 + 0 = k; omega
      rw [e1, add_plain] at hc1
      have hc2 : wr.cell? ⟨g, k, none⟩ = some (.complex .f64 (fz (fx (bytesOf s) k)) (fz (fy (bytesOf s) k))) := by rw [hw]; exact hc1
      have kf := KF.out k hlt
      have fk := FK.out k
      obtain ⟨s1, s2, s3, s4⟩ := SA1.out
      have sx' : small (fx (bytesOf s) k) := small100 (by omega) (by omega)
      have sy' : small (fy (bytesOf s) k) := small100 (by omega) (by omega)
      have t1 : (FloatKind.f64.format.order (fz (fx (bytesOf s) k)) (fz a1) == some .lt) = false := by rw [ltf _ _ sx' s1]; exact decide_eq_false (by omega)
      have t2 : (FloatKind.f64.format.order (fz (fy (bytesOf s) k)) (fz a2) == some .lt) = false := by rw [ltf _ _ sy' s2]; exact decide_eq_false (by omega)
      have t3 : (FloatKind.f64.format.order (fz (fx (bytesOf s) k)) (fz b1) == some .gt) = false := by rw [gtf _ _ sx' s3]; exact decide_eq_false (by omega)
      have t4 : (FloatKind.f64.format.order (fz (fy (bytesOf s) k)) (fz b2) == some .gt) = false := by rw [gtf _ _ sy' s4]; exact decide_eq_false (by omega)
      have q1 := eqf _ _ sx' s1
      have q2 := eqf _ _ sx' s3
      have q3 := eqf _ _ sy' s2
      have q4 := eqf _ _ sy' s4
      clear hw hcell hK hK' hcs e1 hc1 kf fk s1 s2 s3 s4 sx' sy'
      have i1 : (k : Int) < ((s.size + 1 : Nat) : Int) := by omega
      obtain ⟨E1⟩ : Aside0 (hit (fx (bytesOf s)) a1 (k + 1) = (hit (fx (bytesOf s)) a1 k || decide (fx (bytesOf s) k = a1))) := ⟨rfl⟩
      go_wp2_with fail
      all_goals
        go_roundw
        case rel => exact ⟨k + 1, by omega, by go_num, ⟨by simp [hit, *]⟩, ⟨by simp [hit, *]⟩, ⟨by simp [hit, *]⟩, ⟨by simp [hit, *]⟩, HD⟩
        case measure => simp [intOf]; omega
    · obtain rfl : k = s.size + 1 := by omega
      have h1 := H1.out
      have h2 := H2.out
      have h3 := H3.out
      have h4 := H4.out
      go_wp2_with fail
      go_ret
      refine ⟨?_, below_then HB.out HB.out.size HD.out.below⟩
      trace_state
      rfl

theorem WalkBoxes_all (s t : ByteArray) (w : World) (_ : s.size ≤ 140737488351232) (_ : t.size ≤ 140737488351232) :
    Calls Try.prog 4 #[.string s, .string t] w fun e w' => e = .returned (.bool true) ∧ Below w.heap.size w w' := by
  by_cases h0 : 150 < (s.size : Int)
  case pos =>
    have gg : decide (150 < (s.size : Int)) = true := decide_eq_true h0
    have AL := Aside0.mk alive_calls
    clear h0
    go_enter Try.func4, Try.ntmps4
    go_wp2_with fail
    refine (AL.out _).mono ?_
    rintro e w' ⟨rfl, hb⟩
    go_wp2_with fail
    go_ret
    exact ⟨rfl, hb⟩
  by_cases h1 : 150 < (t.size : Int)
  case pos =>
    have g0 : decide (150 < (s.size : Int)) = false := decide_eq_false h0
    have gg : decide (150 < (t.size : Int)) = true := decide_eq_true h1
    have AL := Aside0.mk alive_calls
    clear h0 h1
    go_enter Try.func4, Try.ntmps4
    go_wp2_with fail
    refine (AL.out _).mono ?_
    rintro e w' ⟨rfl, hb⟩
    go_wp2_with fail
    go_ret
    exact ⟨rfl, hb⟩
  exact WalkBoxes_main s t (by omega) (by omega) w

end Go.Proofs.Ytckamijajnmbjaa.Wk
