/- Box, Abs, Apart, exact and the first call of the laws over package walk, on whole-number places. Conditions: texts of at most 100000 bytes, parts of at most 2^51 in size. -/
import Derived.Test.YtckamijajnmbjaaWalkB
set_option linter.unusedVariables false
set_option linter.unusedSimpArgs false
namespace Go.Proofs.Ytckamijajnmbjaa.Wk
open Go.RowKit Go.Proofs.YtckamijajnmbjaaW.PrintWords Go.Proofs.YtckamijajnmbjaaW.PrintLast Go.Proofs.YtckamijajnmbjaaW.PrintMore Go.Proofs.Ytckamijajnmbjaa.Fpx

theorem bdr {w w1 : World} (n : Nat) (k : Below (w.drewN n).heap.size (w.drewN n) w1) : Below w.heap.size w w1 := below_then (pw_below_drewN (Below.refl _ _) n) (Nat.le_refl _) k
theorem bstep {w w1 w2 : World} (h : Below w.heap.size w w1) (k : Below w1.heap.size w1 w2) : Below w.heap.size w w2 := below_then h h.size k

theorem absbits (n : Int) (h : small n) : Go.bits .andNot .u64 (fz n : Int) 9223372036854775808 = (fz (n.natAbs : Int) : Int) := by
  have hlt := fz_lt n
  have hw : fz n % 2 ^ 63 = fz (n.natAbs : Int) := by
    by_cases h0 : n = 0
    · subst h0; rw [fz_zero]; rfl
    · have hl := log2_lt53 (show 0 < n.natAbs by omega) h
      have hb := sig_bounds (show 0 < n.natAbs by omega) h
      have hs : small (n.natAbs : Int) := by unfold small at *; omega
      rw [fz_pos n h0 h, fz_pos (n.natAbs : Int) (by omega) hs]
      have e1 : decide ((n.natAbs : Int) < 0) = false := decide_eq_false (by omega)
      rw [e1, Int.natAbs_natCast]
      unfold Ieee.Format.word
      rw [sw]
      generalize n.natAbs * 2 ^ (52 - n.natAbs.log2) = m at *
      generalize n.natAbs.log2 = g at *
      split <;> simp <;> omega
  show IntKind.u64.wrap ((BitVec.ofInt 64 (fz n : Int) &&& ~~~ BitVec.ofInt 64 9223372036854775808).toNat : Int) = _
  have e : (BitVec.ofInt 64 (fz n : Int) &&& ~~~ BitVec.ofInt 64 9223372036854775808).toNat = fz n % 2 ^ 63 := by
    rw [BitVec.toNat_and, BitVec.toNat_not, BitVec.toNat_ofInt, BitVec.toNat_ofInt]
    have h1 : ((9223372036854775808 : Int) % (2 ^ 64 : Nat)).toNat = 2 ^ 63 := by decide
    have h2 : ((fz n : Int) % (2 ^ 64 : Nat)).toNat = fz n := by omega
    rw [h1, h2]
    have h3 : 2 ^ 64 - 1 - 2 ^ 63 = 2 ^ 63 - 1 := by decide
    rw [h3, Nat.and_two_pow_sub_one_eq_mod]
  rw [e, IntKind.wrap_u64, hw]
  have := fz_lt (n.natAbs : Int)
  omega

theorem Abs_calls (n : Int) (h : small n) (w : World) :
    Calls Try.prog 30 #[.float .f64 (fz n)] w fun e w' => e = .returned (.float .f64 (fz (n.natAbs : Int))) ∧ Drawn0 w w' := by
  have h1 := run_fbits (fz n)
  have h2 := absbits n h
  have h3 := run_fof (fz (n.natAbs : Int))
  generalize fz (n.natAbs : Int) = y at *
  generalize fz n = x at *
  go_enter Try.func30, Try.ntmps30
  go_wp2_with fail
  go_ret
  exact ⟨rfl, Drawn0.refl _⟩

theorem run_subc {P : Program} (t : TypeId) (a b c d : Int) (ha : small a) (hb : small b) (hc : small c) (hd : small d) (h1 : small (a - c)) (h2 : small (b - d)) (w : World) :
    (binOp .sub t (.complex .f64 (fz a) (fz b)) (.complex .f64 (fz c) (fz d))).run P w = .ok (.complex .f64 (fz (a - c)) (fz (b - d))) w := by
  refine run_complex_sum w .sub (.inr rfl) t .f64 _ _ _ _ _ _ ?_
  unfold cSumBits floatBits
  simp only [fmt]
  rw [sub_fz a c ha hc h1, sub_fz b d hb hd h2]
  rfl

/-- How far two places are. -/
def far (p q : Int × Int) : Int := ((p.1 - q.1).natAbs : Int) + ((p.2 - q.2).natAbs : Int)
/-- A place near enough. -/
def Nigh (p : Int × Int) : Prop := -1000000000000 ≤ p.1 ∧ p.1 ≤ 1000000000000 ∧ -1000000000000 ≤ p.2 ∧ p.2 ≤ 1000000000000

theorem Apart_calls (p q : Int × Int) (hp : Nigh p) (hq : Nigh q) (w : World) :
    Calls Try.prog 18 #[.complex .f64 (fz p.1) (fz p.2), .complex .f64 (fz q.1) (fz q.2)] w fun e w' => e = .returned (.int .i64 (far p q)) ∧ Drawn0 w w' := by
  obtain ⟨p1, p2⟩ := p
  obtain ⟨q1, q2⟩ := q
  simp only [Nigh] at hp hq
  have S : ∀ n : Int, -9007199254740992 < n → n < 9007199254740992 → small n := fun n h1 h2 => small_of h1 h2
  have hsub : ∀ t w, (binOp .sub t (.complex .f64 (fz p1) (fz p2)) (.complex .f64 (fz q1) (fz q2))).run Try.prog w = .ok (.complex .f64 (fz (p1 - q1)) (fz (p2 - q2))) w := fun t w =>
    run_subc t p1 p2 q1 q2 (S _ (by omega) (by omega)) (S _ (by omega) (by omega)) (S _ (by omega) (by omega)) (S _ (by omega) (by omega)) (S _ (by omega) (by omega)) (S _ (by omega) (by omega)) w
  have a1 := Abs_calls (p1 - q1) (S _ (by omega) (by omega))
  have a2 := Abs_calls (p2 - q2) (S _ (by omega) (by omega))
  have hadd : ∀ t w, (binOp .add t (.float .f64 (fz ((p1 - q1).natAbs : Int))) (.float .f64 (fz ((p2 - q2).natAbs : Int)))).run Try.prog w = .ok (.float .f64 (fz (far (p1, p2) (q1, q2)))) w := fun t w =>
    run_float_arith w .add t .f64 _ _ _ (add_fz _ _ (S _ (by omega) (by omega)) (S _ (by omega) (by omega)) (S _ (by omega) (by omega)))
  have hfar : -9007199254740992 < far (p1, p2) (q1, q2) ∧ far (p1, p2) (q1, q2) < 9007199254740992 := by unfold far; dsimp only; omega
  have hcv : ∀ w, (convert 24 3 (.float .f64 (fz (far (p1, p2) (q1, q2))))).run Try.prog w = .ok (.int .i64 (far (p1, p2) (q1, q2))) w := fun w =>
    run_convert_float_int w 24 3 .f64 .i64 _ _ (by rw [Try.underlying24]; rfl) Try.underlying3 (toInt_val (Val_fz _ (S _ hfar.1 hfar.2)) (S _ hfar.1 hfar.2))
  have A1 := Aside0.mk a1
  have A2 := Aside0.mk a2
  clear a1 a2 S hp hq hfar
  generalize far (p1, p2) (q1, q2) = f at *
  go_enter Try.func18, Try.ntmps18
  go_wp2_with fail
  refine (A1.out _).mono ?_
  rintro e w1 ⟨rfl, ⟨n1, rfl⟩⟩
  go_wp2_with fail
  refine (A2.out _).mono ?_
  rintro e w1 ⟨rfl, ⟨n2, rfl⟩⟩
  go_wp2_with fail
  go_ret
  exact ⟨rfl, ⟨n1 + n2, rfl⟩⟩

theorem exact_yes (a b : Nat) (w : World) :
    Calls Try.prog 13 #[.complex .f64 a b, .complex .f64 a b] w fun e w' => e = .returned (.bool true) ∧ Drawn0 w w' := by
  have h1 := run_fbits a
  have h2 := run_fbits b
  have c1 : ((a : Int) == (a : Int)) = true := by simp
  have c2 : ((b : Int) == (b : Int)) = true := by simp
  go_enter Try.func13, Try.ntmps13
  go_wp2_with fail
  go_ret
  exact ⟨rfl, Drawn0.refl _⟩

/-- The place of the i-th of a path, and its box's sides behind k places. -/
def fx (l : List Int) (i : Nat) : Int := (pos (l.take i)).1
def fy (l : List Int) (i : Nat) : Int := (pos (l.take i)).2
def boxLo (l : List Int) (k : Nat) : Int × Int := (lo (fx l) k, lo (fy l) k)
def boxHi (l : List Int) (k : Nat) : Int × Int := (hi (fx l) k, hi (fy l) k)
theorem lo_bd (f : Nat → Int) (B : Int) (h0 : 0 ≤ B) (k : Nat) (h : ∀ i, i < k → -B ≤ f i ∧ f i ≤ B) : -B ≤ lo f k ∧ lo f k ≤ 0 := by
  induction k with
  | zero => simp [lo]; omega
  | succ k ih =>
    have := ih (fun i hi => h i (by omega))
    have := h k (by omega)
    simp only [lo]
    omega
theorem hi_bd (f : Nat → Int) (B : Int) (h0 : 0 ≤ B) (k : Nat) (h : ∀ i, i < k → -B ≤ f i ∧ f i ≤ B) : 0 ≤ hi f k ∧ hi f k ≤ B := by
  induction k with
  | zero => simp [hi]; omega
  | succ k ih =>
    have := ih (fun i hi => h i (by omega))
    have := h k (by omega)
    simp only [hi]
    omega
theorem fx_bd (l : List Int) (hl : l.length ≤ 100000) (i : Nat) : -100000 ≤ fx l i ∧ fx l i ≤ 100000 ∧ -100000 ≤ fy l i ∧ fy l i ≤ 100000 := by
  have h := pos_bd (l.take i)
  have : (l.take i).length ≤ l.length := by rw [List.length_take]; omega
  unfold fx fy
  omega

set_option maxHeartbeats 1000000 in
theorem Box_calls (s : ByteArray) (hs : s.size ≤ 100000) (w : World) :
    Calls Try.prog 15 #[.string s] w fun e w' => e = .returned (.tuple #[encP (boxLo (bytesOf s) (s.size + 1)), encP (boxHi (bytesOf s) (s.size + 1))]) ∧ Below w.heap.size w w' := by
  have hl := bytesOf_length s
  have hfx := fx_bd (bytesOf s) (by omega)
  have FX := Aside0.mk hfx
  have E0 := Aside0.mk fz_zero
  clear hl hfx
  go_enter Try.func15, Try.ntmps15
  go_wp2_with fail
  refine (Path_calls s hs _).mono ?_
  rintro e w1 ⟨v, rfl, HO0, HB0⟩
  have HO := Aside0.mk HO0
  have HB := Aside0.mk HB0
  obtain ⟨A, c, rfl, hlc, hC0⟩ := Kd.R_reads HO0
  have HC := Aside0.mk hC0
  have hpl := path_length (bytesOf s) s.size
  rw [hpl] at HC ⊢
  clear HO0 HB0 hC0 hpl hlc
  go_wp2_with fail
  go_loopw [4, 5, 11] (fun l h i wr => ∃ k : Nat, k ≤ s.size + 1 ∧ i = .int .i64 k ∧ Aside0 (l = encP (boxLo (bytesOf s) k)) ∧ Aside0 (h = encP (boxHi (bytesOf s) k)) ∧ Aside0 (Drawn0 w1 wr)) (fun _ _ i _ => s.size + 1 - (intOf i).toNat)
  case atStart =>
    refine ⟨0, by omega, rfl, ⟨?_⟩, ⟨?_⟩, ⟨Drawn0.refl _⟩⟩ <;> simp [encP, boxLo, boxHi, lo, hi, E0.out]
  case round =>
    obtain ⟨k, hk, rfl, hl, hh, HD⟩ := hrel
    obtain ⟨rfl⟩ := hl
    obtain ⟨rfl⟩ := hh
    by_cases hlt : k < s.size + 1
    · obtain ⟨nd, hw⟩ := HD.out.out
      obtain ⟨ad, cs, rfl, hcs, hK, hcell⟩ := Kd.C_get HC.out (0, 0) (k : Int) (by omega) (by omega)
      obtain ⟨g, rfl⟩ := Kd.R_head HO.out
      have hK' : cs = [encP ((path (bytesOf s) s.size).getD (k : Int).toNat (0, 0))] := hK
      rw [Int.toNat_natCast, path_at _ _ _ (by omega)] at hK'
      have hc1 := hcell 0 (encP (pos ((bytesOf s).take k))) (by rw [hK']; rfl)
      have e1 : (k : Int).toNat * kP.sz + 0 = k := by show (k : Int).toNat * 1 + 0 = k; omega
      rw [e1, add_plain] at hc1
      have hc2 : wr.cell? ⟨g, k, none⟩ = some (.complex .f64 (fz (fx (bytesOf s) k)) (fz (fy (bytesOf s) k))) := by rw [hw]; exact hc1
      have b1 := lo_bd (fx (bytesOf s)) 100000 (by omega) k (fun i _ => ⟨(FX.out i).1, (FX.out i).2.1⟩)
      have b2 := lo_bd (fy (bytesOf s)) 100000 (by omega) k (fun i _ => ⟨(FX.out i).2.2.1, (FX.out i).2.2.2⟩)
      have b3 := hi_bd (fx (bytesOf s)) 100000 (by omega) k (fun i _ => ⟨(FX.out i).1, (FX.out i).2.1⟩)
      have b4 := hi_bd (fy (bytesOf s)) 100000 (by omega) k (fun i _ => ⟨(FX.out i).2.2.1, (FX.out i).2.2.2⟩)
      have b5 := FX.out k
      have S : ∀ n : Int, -100000 ≤ n → n ≤ 100000 → small n := fun n h1 h2 => small_of (by omega) (by omega)
      have m1 := fun (ts : Array TypeId) (t : TypeId) (w : World) => run_minf (P := Try.prog) ts t (lo (fx (bytesOf s)) k) (fx (bytesOf s) k) (S _ (by omega) (by omega)) (S _ (by omega) (by omega)) w
      have m2 := fun (ts : Array TypeId) (t : TypeId) (w : World) => run_minf (P := Try.prog) ts t (lo (fy (bytesOf s)) k) (fy (bytesOf s) k) (S _ (by omega) (by omega)) (S _ (by omega) (by omega)) w
      have m3 := fun (ts : Array TypeId) (t : TypeId) (w : World) => run_maxf (P := Try.prog) ts t (hi (fx (bytesOf s)) k) (fx (bytesOf s) k) (S _ (by omega) (by omega)) (S _ (by omega) (by omega)) w
      have m4 := fun (ts : Array TypeId) (t : TypeId) (w : World) => run_maxf (P := Try.prog) ts t (hi (fy (bytesOf s)) k) (fy (bytesOf s) k) (S _ (by omega) (by omega)) (S _ (by omega) (by omega)) w
      clear hw hcell hK hK' hcs e1 hc1 b1 b2 b3 b4 b5 S
      have i1 : (k : Int) < ((s.size + 1 : Nat) : Int) := by omega
      unfold encP boxLo boxHi
      dsimp only
      go_wp2_with fail
      go_roundw
      case rel => exact ⟨k + 1, by omega, by go_num, ⟨by simp only [encP, boxLo, lo]⟩, ⟨by simp only [encP, boxHi, hi]⟩, HD⟩
      case measure => simp [intOf]; omega
    · obtain rfl : k = s.size + 1 := by omega
      go_wp2_with fail
      go_ret2
      exact ⟨rfl, below_then HB.out HB.out.size HD.out.below⟩

theorem eq00 : (FloatKind.f64.format.order 0 0 == some .eq) = true := by decide +kernel
theorem eq11 : (FloatKind.f64.format.order 4607182418800017408 4607182418800017408 == some .eq) = true := by decide +kernel

theorem alive_calls (w : World) : Calls Try.prog 11 #[] w fun e w' => e = .returned (.bool true) ∧ Below w.heap.size w w' := by
  have s1 := Step_calls 1 (by decide) (by decide)
  have e1 : sx 1 = 0 := by decide
  have e2 : sy 1 = 1 := by decide
  rw [e1, e2, fz_zero, one_bits] at s1
  have s2 := End_calls (⟨#[0, 1]⟩ : ByteArray) (by decide)
  have e3 : encP (pos (bytesOf (⟨#[0, 1]⟩ : ByteArray))) = .complex .f64 4607182418800017408 4607182418800017408 := by
    have : pos (bytesOf (⟨#[0, 1]⟩ : ByteArray)) = (1, 1) := by decide +kernel
    rw [this]
    show Value.complex .f64 (fz 1) (fz 1) = _
    rw [one_bits]
  rw [e3] at s2
  have s3 := Turn_calls 4607182418800017408 0 1 0 1 (.inl one_bits.symm) (.inl fz_zero.symm) small1 small0
  have e4 : tx (1 % 4) 1 0 = 0 := by decide
  have e5 : ty (1 % 4) 1 0 = 1 := by decide
  rw [e4, e5, fz_zero, one_bits] at s3
  have s4 := Path_calls (⟨#[97, 98]⟩ : ByteArray) (by decide)
  have S1 := Aside0.mk s1
  have S2 := Aside0.mk s2
  have S3 := Aside0.mk s3
  have S4 := Aside0.mk s4
  have hpl := Aside0.mk (path_length (bytesOf (⟨#[97, 98]⟩ : ByteArray)) (⟨#[97, 98]⟩ : ByteArray).size)
  have h00 := eq00
  have h11 := eq11
  clear s1 s2 s3 s4 e1 e2 e3 e4 e5
  go_enter Try.func11, Try.ntmps11
  go_wp2_with fail
  refine (S1.out _).mono ?_
  rintro e w1 ⟨rfl, ⟨n1, rfl⟩⟩
  go_wp2_with fail
  refine (S2.out _).mono ?_
  rintro e w1 ⟨rfl, hb1⟩
  have B1 := Aside0.mk hb1
  clear hb1
  go_wp2_with fail
  refine (S3.out _).mono ?_
  rintro e w1 ⟨rfl, ⟨n3, rfl⟩⟩
  go_wp2_with fail
  refine (S4.out _).mono ?_
  rintro e w4 ⟨v, rfl, hR, hb4⟩
  have B4 := Aside0.mk hb4
  obtain ⟨A, c, hv, hlc, hC⟩ := Kd.R_reads hR
  rw [hpl.out] at hv
  have hv' : v = .slice A 3 c := hv
  clear hb4 hR hC hlc hv
  subst hv'
  go_wp2_with fail
  go_ret
  exact ⟨rfl, bstep (bdr n1 B1.out) (bdr n3 B4.out)⟩

theorem End_at (s : ByteArray) (a b : Int) (h : pos (bytesOf s) = (a, b)) (hs : s.size ≤ 100000) (w : World) :
    Calls Try.prog 17 #[.string s] w fun e w' => e = .returned (.complex .f64 (fz a) (fz b)) ∧ Below w.heap.size w w' := by
  have := End_calls s hs w
  rw [h] at this
  exact this
def farI (a b c d : Int) : Int := ((a - c).natAbs : Int) + ((b - d).natAbs : Int)
theorem Apart_at (a b c d : Int) (h1 : Nigh (a, b)) (h2 : Nigh (c, d)) (w : World) :
    Calls Try.prog 18 #[.complex .f64 (fz a) (fz b), .complex .f64 (fz c) (fz d)] w fun e w' => e = .returned (.int .i64 (farI a b c d)) ∧ Drawn0 w w' := Apart_calls (a, b) (c, d) h1 h2 w

theorem bytesOf_append (s t : ByteArray) : bytesOf (s ++ t) = bytesOf s ++ bytesOf t := by
  unfold bytesOf
  rw [ByteArray.data_append, Array.toList_append, List.map_append]

/-- The parity and the length of a walk. -/
theorem pos_far (l : List Int) : (((pos l).1.natAbs : Int) + ((pos l).2.natAbs : Int)) ≤ l.length ∧ ((((pos l).1.natAbs : Int) + ((pos l).2.natAbs : Int)) - l.length) % 2 = 0 := by
  induction l with
  | nil => simp [pos]
  | cons b r ih =>
    have h1 := sx_eq b
    have h2 := sy_eq b
    simp only [pos, List.length_cons]
    generalize (pos r).1 = x at *
    generalize (pos r).2 = y at *
    have : b % 4 = 0 ∨ b % 4 = 1 ∨ b % 4 = 2 ∨ b % 4 = 3 := by omega
    rcases this with h | h | h | h <;> simp [h] at h1 h2 <;> rw [h1, h2] <;> omega

theorem small100 {n : Int} (h1 : -100000 ≤ n) (h2 : n ≤ 100000) : small n := small_of (by omega) (by omega)
theorem nigh_mk {a b : Int} (h1 : -100000 ≤ a) (h2 : a ≤ 100000) (h3 : -100000 ≤ b) (h4 : b ≤ 100000) : Nigh (a, b) := ⟨by dsimp only; omega, by dsimp only; omega, by dsimp only; omega, by dsimp only; omega⟩
theorem eqf (a b : Int) (ha : small a) (hb : small b) : (FloatKind.f64.format.order (fz a) (fz b) == some .eq) = decide (a = b) := by rw [fmt]; exact eq_val (Val_fz a ha) (Val_fz b hb)

end Go.Proofs.Ytckamijajnmbjaa.Wk
