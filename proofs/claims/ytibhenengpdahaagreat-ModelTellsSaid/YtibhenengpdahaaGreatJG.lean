/- The functions of package walk compute whole-number walks exactly (contracts of plain, Turn, Step, Abs, Apart). Conditions: the parts are below 2^53 in size. -/
import Derived.Test.YtibhenengpdahaaGreatP23
import Derived.Test.YtibhenengpdahaaGreatFp
import Derived.WalkLawsBesides
import Derived.Test.YtibhenengpdahaaGreatAnswerL
section
set_option linter.unusedVariables false
set_option linter.unusedSimpArgs false
namespace Go.Proofs.YtibhenengpdahaaGreat.Wk
open Go.RowKit Go.Proofs.YtibhenengpdahaaGreatW.PrintWords Go.Proofs.YtibhenengpdahaaGreatW.PrintLast Go.Proofs.YtibhenengpdahaaGreatW.PrintMore Go.Proofs.YtibhenengpdahaaGreat.Fpx

theorem drawn_then {w w1 w2 : World} (h : Drawn0 w w1) (k : Drawn0 w1 w2) : Drawn0 w w2 := by
 obtain ⟨n, rfl⟩ := h.out
 obtain ⟨m, rfl⟩ := k.out
 exact ⟨⟨n + m, by rw [World.drewN_drewN]⟩⟩

theorem val0 : Val 0 0 := by
 have := Val_fz 0 small0
 rwa [fz_zero] at this

theorem plain_calls (x : Nat) (n : Int) (h : Near x n) (hs : small n) (w : World) :
  Calls Tryz.prog 105 #[.float .f64 x] w fun e w' => e = .returned (.float .f64 (fz n)) ∧ Drawn0 w w' := by
 have he := eq_val (h.val hs) val0
 by_cases h0 : n = 0
 ·subst h0
  have hc : (FloatKind.f64.format.order x 0 == some .eq) = true := by rw [fmt, he]; rfl
  clear h he
  have HR := Aside0.mk fz_zero
  go_enter Tryz.func105, Tryz.ntmps105
  go_wp2
  go_ret
  exact ⟨congrArg (fun z => Ending.returned (.float .f64 z)) HR.out.symm, Drawn0.refl _⟩
 ·have hx : x = fz n := by
   rcases h with h | ⟨h, _⟩
   ·exact h
   ·exact absurd h h0
  have hc : (FloatKind.f64.format.order x 0 == some .eq) = false := by rw [fmt, he]; simp [h0]
  clear h he
  have HX := Aside0.mk hx
  clear hx
  go_enter Tryz.func105, Tryz.ntmps105
  go_wp2
  go_ret
  exact ⟨congrArg (fun z => Ending.returned (.float .f64 z)) HX.out, Drawn0.refl _⟩

/-- A place turned by quarters. -/
def tx (q x y : Int) : Int := if q = 1 then -y else if q = 2 then -x else if q = 3 then y else x
def ty (q x y : Int) : Int := if q = 1 then x else if q = 2 then -y else if q = 3 then -x else y

theorem and3 (n : Int) : Go.bits .and .i64 n 3 = n % 4 := by
 have e : (BitVec.ofInt 64 n &&& BitVec.ofInt 64 3).toNat = (n % 4).toNat := by
  rw [BitVec.toNat_and, BitVec.toNat_ofInt, BitVec.toNat_ofInt]
  have h3 : ((3 : Int) % (2 ^ 64 : Nat)).toNat = 2 ^ 2 - 1 := by decide
  rw [h3, Nat.and_two_pow_sub_one_eq_mod]
  omega
 show IntKind.i64.wrap ((BitVec.ofInt 64 n &&& BitVec.ofInt 64 3).toNat : Int) = n % 4
 rw [e, IntKind.wrap_i64]
 omega

theorem run_negf {P : Program} (k : FloatKind) (b : Nat) (w : World) : Sem.run P (Op.unary .neg (.float k b)) w = .ok (.float k (Op.negFloat k b)) w := rfl
attribute [local go_sem] run_negf

theorem Near_negN {x : Nat} {n : Int} (h : Near x n) (hs : small n) : Near (Op.negFloat .f64 x) (-n) := by
 rcases h with rfl | ⟨rfl, rfl⟩
 ·exact Near_neg n hs
 ·exact .inl (by rw [neg_word true 0 (by decide)]; exact fz_zero.symm)

theorem small_neg {n : Int} (h : small n) : small (-n) := by unfold small at *; omega

set_option maxHeartbeats 1000000 in
theorem Turn_calls (a b : Nat) (x y q : Int) (ha : Near a x) (hb : Near b y) (hx : small x) (hy : small y) (w : World) :
  Calls Tryz.prog 100 #[.complex .f64 a b, .int .i64 q] w fun e w' => e = .returned (.complex .f64 (fz (tx (q % 4) x y)) (fz (ty (q % 4) x y))) ∧ Drawn0 w w' := by
 have hq := and3 q
 obtain ⟨r, hr⟩ : ∃ r, q % 4 = r := ⟨_, rfl⟩
 have hr0 : 0 ≤ r := by omega
 have hr3 : r < 4 := by omega
 rw [hr] at hq ⊢
 clear hr
 have hnx := Near_negN ha hx
 have hny := Near_negN hb hy
 have sx := small_neg hx
 have sy := small_neg hy
 rcases (show r = 0 ∨ r = 1 ∨ r = 2 ∨ r = 3 by omega) with rfl | rfl | rfl | rfl
 ·go_enter Tryz.func100, Tryz.ntmps100
  go_wp2_with fail
  refine (plain_calls a x ha hx _).mono ?_
  rintro e w1 ⟨rfl, hd1⟩
  go_wp2_with fail
  refine (plain_calls b y hb hy _).mono ?_
  rintro e w2 ⟨rfl, hd2⟩
  go_wp2_with fail
  go_ret
  exact ⟨rfl, drawn_then hd1 hd2⟩
 ·go_enter Tryz.func100, Tryz.ntmps100
  go_wp2_with fail
  refine (plain_calls _ _ hny sy _).mono ?_
  rintro e w1 ⟨rfl, hd1⟩
  go_wp2_with fail
  refine (plain_calls a x ha hx _).mono ?_
  rintro e w2 ⟨rfl, hd2⟩
  go_wp2_with fail
  go_ret
  exact ⟨rfl, drawn_then hd1 hd2⟩
 ·go_enter Tryz.func100, Tryz.ntmps100
  go_wp2_with fail
  refine (plain_calls _ _ hnx sx _).mono ?_
  rintro e w1 ⟨rfl, hd1⟩
  go_wp2_with fail
  refine (plain_calls _ _ hny sy _).mono ?_
  rintro e w2 ⟨rfl, hd2⟩
  go_wp2_with fail
  go_ret
  exact ⟨rfl, drawn_then hd1 hd2⟩
 ·go_enter Tryz.func100, Tryz.ntmps100
  go_wp2_with fail
  refine (plain_calls b y hb hy _).mono ?_
  rintro e w1 ⟨rfl, hd1⟩
  go_wp2_with fail
  refine (plain_calls _ _ hnx sx _).mono ?_
  rintro e w2 ⟨rfl, hd2⟩
  go_wp2_with fail
  go_ret
  exact ⟨rfl, drawn_then hd1 hd2⟩

theorem one_bits : fz 1 = 4607182418800017408 := by decide +kernel
theorem small1 : small 1 := by unfold small; decide

/-- A byte's step. -/
def sx (b : Int) : Int := tx (b % 4) 1 0
def sy (b : Int) : Int := ty (b % 4) 1 0
theorem sx_eq (b : Int) : sx b = if b % 4 = 0 then 1 else if b % 4 = 2 then -1 else 0 := by
 have : b % 4 = 0 ∨ b % 4 = 1 ∨ b % 4 = 2 ∨ b % 4 = 3 := by omega
 rcases this with h | h | h | h <;> simp [sx, tx, h]
theorem sy_eq (b : Int) : sy b = if b % 4 = 1 then 1 else if b % 4 = 3 then -1 else 0 := by
 have : b % 4 = 0 ∨ b % 4 = 1 ∨ b % 4 = 2 ∨ b % 4 = 3 := by omega
 rcases this with h | h | h | h <;> simp [sy, ty, h]
theorem step_bd (b : Int) : -1 ≤ sx b ∧ sx b ≤ 1 ∧ -1 ≤ sy b ∧ sy b ≤ 1 := by
 rw [sx_eq, sy_eq]
 split <;> split <;> (try split) <;> (try split) <;> omega

theorem Step_calls (b : Int) (h0 : 0 ≤ b) (h1 : b ≤ 255) (w : World) :
  Calls Tryz.prog 99 #[.int .u8 b] w fun e w' => e = .returned (.complex .f64 (fz (sx b)) (fz (sy b))) ∧ Drawn0 w w' := by
 have hc : Near 4607182418800017408 1 := .inl one_bits.symm
 have hd : Near 0 0 := .inl fz_zero.symm
 go_enter Tryz.func99, Tryz.ntmps99
 go_wp2_with fail
 refine (Turn_calls _ _ 1 0 b hc hd small1 small0 _).mono ?_
 rintro e w1 ⟨rfl, hd1⟩
 go_wp2_with fail
 go_ret
 exact ⟨rfl, hd1⟩

end Go.Proofs.YtibhenengpdahaaGreat.Wk

end
section
set_option linter.unusedVariables false
set_option linter.unusedSimpArgs false
namespace Go.Proofs.YtibhenengpdahaaGreat.Wk
open Go.RowKit Go.Proofs.YtibhenengpdahaaGreatW.PrintWords Go.Proofs.YtibhenengpdahaaGreatW.PrintLast Go.Proofs.YtibhenengpdahaaGreatW.PrintMore Go.Proofs.YtibhenengpdahaaGreat.Fpx

/-- A place as a value. -/
def encP (p : Int × Int) : Value := .complex .f64 (fz p.1) (fz p.2)
def kP : Kd (Int × Int) := Kd.scalar encP (fun _ => rfl)

/-- Where a walk ends. -/
def pos : List Int → Int × Int
 | [] => (0, 0)
 | b :: r => (sx b + (pos r).1, sy b + (pos r).2)
theorem pos_append (l m : List Int) : pos (l ++ m) = ((pos l).1 + (pos m).1, (pos l).2 + (pos m).2) := by
 induction l with
 | nil => simp [pos]
 | cons b r ih =>
  simp only [List.cons_append, pos, ih, Prod.mk.injEq]
  constructor <;> omega
theorem pos_bd (l : List Int) : -(l.length : Int) ≤ (pos l).1 ∧ (pos l).1 ≤ l.length ∧ -(l.length : Int) ≤ (pos l).2 ∧ (pos l).2 ≤ l.length := by
 induction l with
 | nil => simp [pos]
 | cons b r ih =>
  have := step_bd b
  simp only [pos, List.length_cons]
  omega
def path (l : List Int) (k : Nat) : List (Int × Int) := (List.range (k + 1)).map fun i => pos (l.take i)
theorem path_length (l : List Int) (k : Nat) : (path l k).length = k + 1 := by simp [path]
theorem path_succ (l : List Int) (k : Nat) : path l (k + 1) = path l k ++ [pos (l.take (k + 1))] := by
 simp [path, List.range_succ (n := k + 1)]
theorem path_at (l : List Int) (k i : Nat) (h : i ≤ k) (d : Int × Int) : (path l k).getD i d = pos (l.take i) := by
 simp [path, List.getD_eq_getElem?_getD, List.getElem?_range (show i < k + 1 by omega)]
theorem take_next (l : List Int) (k : Nat) (h : k < l.length) : l.take (k + 1) = l.take k ++ [l[k]] := by
 rw [List.take_succ_eq_append_getElem h]
theorem pos_next (l : List Int) (k : Nat) (h : k < l.length) : pos (l.take (k + 1)) = ((pos (l.take k)).1 + sx (rd l k), (pos (l.take k)).2 + sy (rd l k)) := by
 rw [take_next l k h, pos_append]
 have : rd l k = l[k] := by simp [rd, List.getD_eq_getElem?_getD, List.getElem?_eq_getElem h]
 rw [this]
 simp [pos]

theorem info23 : (Tryz.prog.info? 32).map (fun i => (i.zero, i.size, i.bytes)) = some (some (.complex .f64 0 0), 1, 16) := by kernel_rfl

theorem run_addc {P : Program} (t : TypeId) (a b c d : Int) (ha : small a) (hb : small b) (hc : small c) (hd : small d) (h1 : small (a + c)) (h2 : small (b + d)) (w : World) :
  (binOp .add t (.complex .f64 (fz a) (fz b)) (.complex .f64 (fz c) (fz d))).run P w = .ok (.complex .f64 (fz (a + c)) (fz (b + d))) w := by
 refine run_complex_sum w .add (.inl rfl) t .f64 _ _ _ _ _ _ ?_
 unfold cSumBits floatBits
 simp only [fmt]
 rw [add_fz a c ha hc h1, add_fz b d hb hd h2]
 rfl

set_option maxHeartbeats 1000000 in
theorem Path_calls (s : ByteArray) (hs : s.size ≤ 100000) (w : World) :
  Calls Tryz.prog 74 #[.string s] w fun e w' => ∃ v, e = .returned v ∧ kP.R 32 w' w.heap.size (fun _ => True) v (path (bytesOf s) s.size) ∧ Below w.heap.size w w' := by
 have hl := bytesOf_length s
 go_enter Tryz.func74, Tryz.ntmps74
 have own0 : kP.R 32 (w.alloc (.cells #[.complex .f64 0 0] 32)) w.heap.size (fun _ => True) (.slice (some ⟨w.heap.size, 0, none⟩) 1 1) (path (bytesOf s) 0) := by
  refine Kd.R_of_own ?_ (fun _ _ => trivial)
  have h := World.ownsRow_lit (base := w.heap.size) (e := 32) (size := 1) w #[.complex .f64 0 0] 1 (Nat.le_refl _) (by simp [maxLen]) (by simp)
  have e : encs encP (path (bytesOf s) 0) = [Value.complex .f64 0 0] := by simp [path, encs, encP, pos, fz_zero]
  rw [e, path_length]
  exact h
 have O0 := Aside0.mk own0
 clear own0
 have B0 : Aside0 (Below w.heap.size w (w.alloc (.cells #[.complex .f64 0 0] 32))) := ⟨below_alloc (Below.refl _ _) _⟩
 have HL := Aside0.mk hl
 clear hl
 go_wp2_with fail
 go_loopw [3, 9] (fun v i wr => ∃ k : Nat, k ≤ s.size ∧ i = .int .i64 k ∧ Aside0 (kP.R 32 wr w.heap.size (fun _ => True) v (path (bytesOf s) k)) ∧ Aside0 (Below w.heap.size w wr)) (fun _ i _ => s.size - (intOf i).toNat)
 case atStart => exact ⟨0, by omega, rfl, O0, B0⟩
 case round =>
  clear O0 B0
  obtain ⟨k, hk, rfl, HO, HB⟩ := hrel
  by_cases hlt : k < s.size
  ·obtain ⟨A, c, hv, hlc, hC⟩ := Kd.R_reads HO.out
   rw [path_length] at hv hlc hC
   subst hv
   obtain ⟨ad, cs, rfl, hcs, hK, hcell⟩ := Kd.C_get hC (0, 0) (k : Int) (by omega) (by omega)
   obtain ⟨g, rfl⟩ := Kd.R_head HO.out
   have hK' : cs = [encP ((path (bytesOf s) k).getD (k : Int).toNat (0, 0))] := hK
   rw [Int.toNat_natCast, path_at _ _ _ (Nat.le_refl _)] at hK'
   have hc1 := hcell 0 (encP (pos ((bytesOf s).take k))) (by rw [hK']; rfl)
   have e1 : (k : Int).toNat * kP.sz + 0 = k := by show (k : Int).toNat * 1 + 0 = k; omega
   rw [e1, add_plain] at hc1
   clear hcell hK hK' hcs e1 hC
   have hb := bt_range s (k : Int)
   have hpb := pos_bd ((bytesOf s).take k)
   have hlen : ((bytesOf s).take k).length = k := by rw [List.length_take, HL.out]; omega
   rw [hlen] at hpb
   have hsb := step_bd (bt s k)
   have hpn := pos_next (bytesOf s) k (by rw [HL.out]; exact hlt)
   rw [rd_bytesOf] at hpn
   have HPN := Aside0.mk hpn
   have HPS := Aside0.mk (path_succ (bytesOf s) k)
   clear hpn hlen
   have hadd : ∀ t w, (binOp .add t (encP (pos ((bytesOf s).take k))) (.complex .f64 (fz (sx (bt s k))) (fz (sy (bt s k))))).run Tryz.prog w = .ok (encP (pos ((bytesOf s).take (k + 1)))) w := by
    intro t w
    rw [HPN.out]
    exact run_addc t _ _ _ _ (small_of (by omega) (by omega)) (small_of (by omega) (by omega)) (small_of (by omega) (by omega)) (small_of (by omega) (by omega)) (small_of (by omega) (by omega)) (small_of (by omega) (by omega)) w
   have hn1 : Near (fz (pos ((bytesOf s).take (k + 1))).1) (pos ((bytesOf s).take (k + 1))).1 := Near_fz _
   have hn2 : Near (fz (pos ((bytesOf s).take (k + 1))).2) (pos ((bytesOf s).take (k + 1))).2 := Near_fz _
   have hs1 : small (pos ((bytesOf s).take (k + 1))).1 := by rw [HPN.out]; exact small_of (by dsimp only; omega) (by dsimp only; omega)
   have hs2 : small (pos ((bytesOf s).take (k + 1))).2 := by rw [HPN.out]; exact small_of (by dsimp only; omega) (by dsimp only; omega)
   clear hpb hsb
   generalize pos ((bytesOf s).take k) = p at *
   generalize hp' : pos ((bytesOf s).take (k + 1)) = p' at *
   have hx := bt_at s (k : Int)
   rw [Int.toNat_natCast] at hx
   have b0 := hb.1
   have b1 := hb.2
   have i1 : (k : Int) < ((k + 1 : Nat) : Int) := by omega
   go_wp2_with fail
   go_quiet ((go_at_call 99; (with_reducible refine (Step_calls (bt s k) b0 b1 _).mono ?_); rintro e w' ⟨rfl, ⟨nd, rfl⟩⟩; exact ⟨rfl, _, World.drewN_drewN _ _ _⟩))
   go_wp2_with fail
   refine (Turn_calls _ _ p'.1 p'.2 0 hn1 hn2 hs1 hs2 _).mono ?_
   have ht1 : tx (0 % 4) p'.1 p'.2 = p'.1 := by simp [tx]
   have ht2 : ty (0 % 4) p'.1 p'.2 = p'.2 := by simp [ty]
   rw [ht1, ht2]
   clear ht1 ht2
   rintro e w1 ⟨rfl, ⟨nd, rfl⟩⟩
   go_wp2_with (at_builtin; refine Kd.R_append kP (w0 := w) w.heap.size rfl (.tmp 21) (.tmp 24) 104 32 (.complex .f64 0 0) 16 rfl Tryz.underlying104 info23 rfl (by decide) (by omega) (.slice (some ⟨g, 0, none⟩) (k + 1) c) (path (bytesOf s) k) p' [.complex .f64 (fz p'.1) (fz p'.2)] (fun _ => True) (fun _ => False) rfl rfl ?aP (fun _ hk => hk.elim) ?aF ?aO ?aB ?aS ?aL ?_; (case aP => exact rfl); (case aF => exact fun _ _ => trivial); (case aO => exact Kd.R_drewN HO.out _); (case aB => exact pw_below_drewN HB.out _); (case aS => exact (pw_below_drewN HB.out _).size); (case aL => rw [path_length]; omega); intro v1 w1 hr hb1 _ _; rw [← HPS.out] at hr; have HR := Aside0.mk hr; have HB1 := Aside0.mk hb1; clear hr hb1)
   go_roundw
   case rel => exact ⟨k + 1, by omega, by go_num, HR, HB1⟩
   case measure => simp [intOf]; omega
  ·obtain rfl : k = s.size := by omega
   go_wp2_with fail
   go_ret
   exact ⟨_, rfl, HO.out, HB.out⟩

theorem End_calls (s : ByteArray) (hs : s.size ≤ 100000) (w : World) :
  Calls Tryz.prog 25 #[.string s] w fun e w' => e = .returned (encP (pos (bytesOf s))) ∧ Below w.heap.size w w' := by
 have hl := bytesOf_length s
 have ht : (bytesOf s).take s.size = bytesOf s := List.take_of_length_le (by omega)
 have hpa := path_at (bytesOf s) s.size s.size (Nat.le_refl _) (0, 0)
 rw [ht] at hpa
 have HPA := Aside0.mk hpa
 clear hl ht hpa
 go_enter Tryz.func25, Tryz.ntmps25
 go_wp2_with fail
 refine (Path_calls s hs _).mono ?_
 rintro e w1 ⟨v, rfl, HO, HB⟩
 obtain ⟨A, c, rfl, hlc, hC⟩ := Kd.R_reads HO
 have hpl := path_length (bytesOf s) s.size
 obtain ⟨ad, cs, rfl, hcs, hK, hcell⟩ := Kd.C_get hC (0, 0) (s.size : Int) (by omega) (by omega)
 obtain ⟨g, rfl⟩ := Kd.R_head HO
 have hK' : cs = [encP ((path (bytesOf s) s.size).getD (s.size : Int).toNat (0, 0))] := hK
 rw [Int.toNat_natCast, HPA.out] at hK'
 have hc1 := hcell 0 (encP (pos (bytesOf s))) (by rw [hK']; rfl)
 have e1 : (s.size : Int).toNat * kP.sz + 0 = s.size := by show (s.size : Int).toNat * 1 + 0 = s.size; omega
 rw [e1, add_plain] at hc1
 have i1 : (s.size : Int) < (((path (bytesOf s) s.size).length : Nat) : Int) := by omega
 have HB1 := Aside0.mk HB
 clear hcell hK hK' hcs e1 hC HO HB hpl
 go_wp2_with fail
 go_ret
 exact ⟨rfl, HB1.out⟩

end Go.Proofs.YtibhenengpdahaaGreat.Wk

end
section
set_option linter.unusedVariables false
set_option linter.unusedSimpArgs false
namespace Go.Proofs.YtibhenengpdahaaGreat.P
open Go.RowKit Go.Proofs.YtibhenengpdahaaGreatW.PrintWords Go.Proofs.YtibhenengpdahaaGreatW.PrintLast Go.Proofs.YtibhenengpdahaaGreatW.PrintMore

def abaT : ByteArray := ⟨#[97, 98, 97]⟩
def aT : ByteArray := ⟨#[97]⟩
theorem alive_change : changeOf [] 1 0 0 0 0 abaT 7 = ([⟨7, abaT⟩], 0) := by
 have h : mayB [] 1 0 0 0 0 abaT = true := by decide +kernel
 unfold changeOf
 rw [if_pos ⟨h, by decide, by decide⟩, if_neg (by decide), if_neg (by decide), if_neg (by decide)]
 rfl
theorem alive_may : mayB [⟨7, abaT⟩] 4 0 0 0 0 aT = true := by decide +kernel
theorem alive_naive : back_Naive.f 20 aT (textsOf [⟨7, abaT⟩]) = some [⟨0, 0⟩, ⟨0, 2⟩] := by kernel_rfl
theorem alive_right : modelB [⟨7, abaT⟩] = true := by decide +kernel
theorem eqA39 (d : Nat) (w : World) (x0 y0 x1 y1 : Int) :
  (Op.equalIn (d + 2) 61 (.agg #[.int .i64 x0, .int .i64 x1]) (.agg #[.int .i64 y0, .int .i64 y1])).run Tryz.prog w = .ok (x0 == y0 && x1 == y1) w := by
 refine eqA_of Tryz.underlying61 (by kernel_rfl) ?_
 refine eqf_cons (by rfl) (by go_simp; rfl) (by go_simp; rfl) (by go_simp) ?_
 exact eqf_last (by rfl) (by go_simp; rfl) (by go_simp; rfl) (by go_simp)
theorem run_store_cx {P : Program} {a : Addr} {m} {w : World} (k : FloatKind) (x y : Nat) : (store a (.complex k x y) m).run P w = stored P w a (.complex k x y) m := run_store P w a _ m rfl
theorem alive_at0 {w : World} {A : Option Addr} (h : Kd.C k27 w A 1 [⟨7, abaT⟩]) : ∃ ad, A = some ad ∧ w.cell? ad = some (.int .i64 7) ∧ w.cell? ⟨ad.block, ad.off + 1, none⟩ = some (.string ⟨#[97, 98, 97]⟩) := at_T27 h 0 (by decide) (by decide)
theorem alive_at1 {w : World} {A : Option Addr} (h : Kd.C k61 w A 2 [⟨7, 0⟩, ⟨7, 2⟩]) : ∃ ad, A = some ad ∧ w.cell? ⟨ad.block, ad.off + 2, none⟩ = some (.int .i64 7) ∧ w.cell? ⟨ad.block, ad.off + 2 + 1, none⟩ = some (.int .i64 2) := at_T61 h 1 (by decide) (by decide)
attribute [local go_sem high] eqA27 eqA39
attribute [local go_sem] run_store_cx
set_option maxRecDepth 100000 in
set_option maxHeartbeats 4000000 in
theorem aliveM_calls (w : World) : Calls Tryz.prog 4 #[] w fun e w' => e = .returned (.bool true) ∧ Below w.heap.size w w' := by
 have CH := Aside0.mk (change_calls none 0 [] 1 0 0 0 0 abaT 7 w (Kd.C_nil _ _) (Nat.le_refl _) (by decide))
 rw [alive_change] at CH
 have LO := Aside0.mk (fun A c w' hr hc => answer_locate A c [⟨7, abaT⟩] 4 0 0 0 0 aT w' hr hc (by decide) alive_may rfl _ 20 alive_naive (by intro x hx; simp at hx; rcases hx with rfl | rfl <;> decide) (by decide))
 unfold repCells nilS zeroC at LO
 have MR := Aside0.mk (fun A c w' hr hc => model_Right.calls 4 A c [⟨7, abaT⟩] true w' hr hc ((modelRight_ok _ (by decide) 4 (by decide)).trans (by rw [alive_right])))
 go_enter Tryz.func4, Tryz.ntmps4
 go_wp2_with fail
 refine CH.out.mono ?_
 rintro en w1 ⟨A1, c1, rfl, hc1, hC1, hb⟩
 have HB1 := Aside0.mk hb
 go_wp2_with fail
 refine (LO.out A1 c1 w1 hC1 hc1).mono ?_
 rintro en w2 ⟨A2, c2, rfl, hR2, hb2⟩
 have hC2 := (Kd.R_reads' hR2).2.2
 clear hR2
 have HB2 := Aside0.mk (below_step HB1.out hb2)
 have hb23 : Below w2.heap.size w2 (w2.alloc (.cells #[.int .i64 0, .int .i64 0, .int .i64 2, .string ⟨#[]⟩, .slice A2 2 c2, .slice none 0 0, .slice none 0 0, .complex .f64 0 0] 34)) := below_alloc (Below.refl _ _) _
 have HB3 := Aside0.mk (below_step HB2.out hb23)
 have HC1c := Aside0.mk hc1
 have HC3 := Aside0.mk (Kd.C_below (Kd.C_below hC1 hb2) hb23)
 obtain ⟨ad, hA, x0, x1⟩ := alive_at0 HC3.out
 obtain ⟨asp, hS, y0, y1⟩ := alive_at1 (Kd.C_below hC2 hb23)
 subst hA hS
 clear hb hb2 hb23 hC2 hC1 hc1
 go_wp2_with fail
 refine (MR.out _ _ _ HC3.out HC1c.out).mono ?_
 rintro en w4 ⟨rfl, hb4⟩
 have HB4 := Aside0.mk (below_step HB3.out hb4)
 go_wp2_with fail
 all_goals go_ret
 exact ⟨rfl, HB4.out⟩
end Go.Proofs.YtibhenengpdahaaGreat.P

end
section
set_option linter.unusedVariables false
set_option linter.unusedSimpArgs false
namespace Go.Proofs.YtibhenengpdahaaGreat.P
open Go.RowKit Go.Proofs.YtibhenengpdahaaGreatW.PrintWords Go.Proofs.YtibhenengpdahaaGreatW.PrintLast Go.Proofs.YtibhenengpdahaaGreatW.PrintMore

theorem find_cases (l : List S27) (id : Int) : (findOf l id = -1 ∧ ∀ j, (h : j < l.length) → l[j].f0 ≠ id) ∨ ∃ k, ∃ (hk : k < l.length), findOf l id = (k : Int) ∧ l[k].f0 = id ∧ ∀ j, (h : j < k) → l[j].f0 ≠ id := by
 unfold findOf
 cases h : l.findIdx? (fun d => d.f0 == id) with
 | none =>
  left
  refine ⟨rfl, fun j hj => ?_⟩
  rw [List.findIdx?_eq_none_iff] at h
  have := h l[j] (List.getElem_mem hj)
  simpa using this
 | some i =>
  right
  rw [List.findIdx?_eq_some_iff_getElem] at h
  obtain ⟨hi, h1, h2⟩ := h
  exact ⟨i, hi, rfl, by simpa using h1, fun j hj => by simpa using h2 j hj⟩
/-- What documents may be. -/
structure Docs0 (l : List S27) : Prop where
 mk :: (len : l.length ≤ 10) (pos : ∀ d ∈ l, 1 ≤ d.f0) (own : l.Pairwise (fun a b => a.f0 ≠ b.f0)) (short : ∀ d ∈ l, d.f1.size ≤ 40)
theorem idsOk_iff (l : List S27) : idsOk l l.length = true ↔ (∀ d ∈ l, 1 ≤ d.f0) ∧ l.Pairwise (fun a b => a.f0 ≠ b.f0) := by
 have hg : ∀ i, (hi : i < l.length) → l.getD i z27 = l[i] := fun i hi => by rw [List.getD_eq_getElem?_getD, List.getElem?_eq_getElem hi]; rfl
 unfold idsOk
 rw [List.all_eq_true]
 constructor
 ·intro h
  have h' : ∀ i, (hi : i < l.length) → 1 ≤ l[i].f0 ∧ (i : Int) ≤ findOf l l[i].f0 := by
   intro i hi
   have := h i (List.mem_range.2 hi)
   rw [hg i hi, Bool.and_eq_true, decide_eq_true_eq, decide_eq_true_eq] at this
   exact this
  refine ⟨fun d hd => ?_, ?_⟩
  ·obtain ⟨i, hi, rfl⟩ := List.getElem_of_mem hd
   exact (h' i hi).1
  ·rw [List.pairwise_iff_getElem]
   intro i j hi hj hij e
   have h2 := (h' j hj).2
   rcases find_cases l l[j].f0 with ⟨e1, h3⟩ | ⟨k, hk, e1, _, h3⟩
   ·exact h3 i hi e
   ·rw [e1] at h2
    exact h3 i (by omega) e
 ·rintro ⟨h1, h2⟩ i hi
  rw [List.mem_range] at hi
  rw [hg i hi, Bool.and_eq_true, decide_eq_true_eq, decide_eq_true_eq]
  refine ⟨h1 _ (List.getElem_mem hi), ?_⟩
  rw [List.pairwise_iff_getElem] at h2
  rw [find_at l l[i].f0 i hi (fun j hj => h2 j i (by omega) hi hj) rfl]
  exact Int.le_refl _
theorem modelB_iff (l : List S27) : modelB l = true ↔ Docs0 l := by
 unfold modelB rightB textsOf
 rw [Bool.and_eq_true, Bool.and_eq_true, idsOk_iff, decide_eq_true_eq, List.length_map, Bool.not_eq_true', List.any_eq_false]
 constructor
 ·rintro ⟨⟨h1, h2⟩, h3, h4⟩
  refine ⟨h3, h1, h2, fun d hd => ?_⟩
  have := h4 d.f1 (List.mem_map_of_mem hd)
  unfold longB at this
  rw [decide_eq_true_eq] at this
  omega
 ·rintro ⟨h3, h1, h2, h4⟩
  refine ⟨⟨h1, h2⟩, h3, fun s hs => ?_⟩
  obtain ⟨d, hd, rfl⟩ := List.mem_map.1 hs
  unfold longB
  rw [decide_eq_true_eq]
  have := h4 d hd
  omega
theorem find_self {l : List S27} (h : Docs0 l) (k : Nat) (hk : k < l.length) : findOf l l[k].f0 = (k : Int) := by
 have h2 := h.own
 rw [List.pairwise_iff_getElem] at h2
 exact find_at l l[k].f0 k hk (fun j hj => h2 j k (by omega) hk hj) rfl
/-! Which requests may be. -/
/-! What becomes of documents. -/
end Go.Proofs.YtibhenengpdahaaGreat.P

end
