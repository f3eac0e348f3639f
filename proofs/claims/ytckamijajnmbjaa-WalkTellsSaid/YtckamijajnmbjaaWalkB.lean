/- The functions Path, End, Box and Apart of package walk compute whole-number walks exactly. Conditions: texts of at most 100000 bytes, parts below 2^53 in size. -/
import Derived.Test.YtckamijajnmbjaaWalkA
set_option linter.unusedVariables false
set_option linter.unusedSimpArgs false
namespace Go.Proofs.Ytckamijajnmbjaa.Wk
open Go.RowKit Go.Proofs.YtckamijajnmbjaaW.PrintWords Go.Proofs.YtckamijajnmbjaaW.PrintLast Go.Proofs.YtckamijajnmbjaaW.PrintMore Go.Proofs.Ytckamijajnmbjaa.Fpx

/-- A place as a value. -/
def encP (p : Int × Int) : Value := .complex .f64 (fz p.1) (fz p.2)
def kP : Kd (Int × Int) := Kd.scalar encP (fun _ => rfl)

/-- Where a walk ends. -/
def pos : List Int → Int × Int
  | [] => (0, 0)
  | b :: r => (sx b + (pos r).1, sy b + (pos r).2)
theorem pos_append (l m : List Int) : pos (l ++ m) = ((pos l).1 + (pos m).1, (pos l).2 + (pos m).2) := by
  induction l with
  | nil => simp [pos]
  | cons b r ih =>
    simp only [List.cons_append, pos, ih, Prod.mk.injEq]
    constructor <;> omega
theorem pos_bd (l : List Int) : -(l.length : Int) ≤ (pos l).1 ∧ (pos l).1 ≤ l.length ∧ -(l.length : Int) ≤ (pos l).2 ∧ (pos l).2 ≤ l.length := by
  induction l with
  | nil => simp [pos]
  | cons b r ih =>
    have := step_bd b
    simp only [pos, List.length_cons]
    omega
def path (l : List Int) (k : Nat) : List (Int × Int) := (List.range (k + 1)).map fun i => pos (l.take i)
theorem path_length (l : List Int) (k : Nat) : (path l k).length = k + 1 := by simp [path]
theorem path_succ (l : List Int) (k : Nat) : path l (k + 1) = path l k ++ [pos (l.take (k + 1))] := by
  simp [path, List.range_succ (n := k + 1)]
theorem path_at (l : List Int) (k i : Nat) (h : i ≤ k) (d : Int × Int) : (path l k).getD i d = pos (l.take i) := by
  simp [path, List.getD_eq_getElem?_getD, List.getElem?_range (show i < k + 1 by omega)]
theorem take_next (l : List Int) (k : Nat) (h : k < l.length) : l.take (k + 1) = l.take k ++ [l[k]] := by
  rw [List.take_succ_eq_append_getElem h]
theorem pos_next (l : List Int) (k : Nat) (h : k < l.length) : pos (l.take (k + 1)) = ((pos (l.take k)).1 + sx (rd l k), (pos (l.take k)).2 + sy (rd l k)) := by
  rw [take_next l k h, pos_append]
  have : rd l k = l[k] := by simp [rd, List.getD_eq_getElem?_getD, List.getElem?_eq_getElem h]
  rw [this]
  simp [pos]

theorem info23 : (Try.prog.info? 23).map (fun i => (i.zero, i.size, i.bytes)) = some (some (.complex .f64 0 0), 1, 16) := by kernel_rfl

theorem run_addc {P : Program} (t : TypeId) (a b c d : Int) (ha : small a) (hb : small b) (hc : small c) (hd : small d) (h1 : small (a + c)) (h2 : small (b + d)) (w : World) :
    (binOp .add t (.complex .f64 (fz a) (fz b)) (.complex .f64 (fz c) (fz d))).run P w = .ok (.complex .f64 (fz (a + c)) (fz (b + d))) w := by
  refine run_complex_sum w .add (.inl rfl) t .f64 _ _ _ _ _ _ ?_
  unfold cSumBits floatBits
  simp only [fmt]
  rw [add_fz a c ha hc h1, add_fz b d hb hd h2]
  rfl

set_option maxHeartbeats 1000000 in
theorem Path_calls (s : ByteArray) (hs : s.size ≤ 100000) (w : World) :
    Calls Try.prog 16 #[.string s] w fun e w' => ∃ v, e = .returned v ∧ kP.R 23 w' w.heap.size (fun _ => True) v (path (bytesOf s) s.size) ∧ Below w.heap.size w w' := by
  have hl := bytesOf_length s
  go_enter Try.func16, Try.ntmps16
  have own0 : kP.R 23 (w.alloc (.cells #[.complex .f64 0 0] 23)) w.heap.size (fun _ => True) (.slice (some ⟨w.heap.size, 0, none⟩) 1 1) (path (bytesOf s) 0) := by
    refine Kd.R_of_own ?_ (fun _ _ => trivial)
    have h := World.ownsRow_lit (base := w.heap.size) (e := 23) (size := 1) w #[.complex .f64 0 0] 1 (Nat.le_refl _) (by simp [maxLen]) (by simp)
    have e : encs encP (path (bytesOf s) 0) = [Value.complex .f64 0 0] := by simp [path, encs, encP, pos, fz_zero]
    rw [e, path_length]
    exact h
  have O0 := Aside0.mk own0
  clear own0
  have B0 : Aside0 (Below w.heap.size w (w.alloc (.cells #[.complex .f64 0 0] 23))) := ⟨below_alloc (Below.refl _ _) _⟩
  have HL := Aside0.mk hl
  clear hl
  go_wp2_with fail
  go_loopw [3, 9] (fun v i wr => ∃ k : Nat, k ≤ s.size ∧ i = .int .i64 k ∧ Aside0 (kP.R 23 wr w.heap.size (fun _ => True) v (path (bytesOf s) k)) ∧ Aside0 (Below w.heap.size w wr)) (fun _ i _ => s.size - (intOf i).toNat)
  case atStart => exact ⟨0, by omega, rfl, O0, B0⟩
  case round =>
    clear O0 B0
    obtain ⟨k, hk, rfl, HO, HB⟩ := hrel
    by_cases hlt : k < s.size
    · obtain ⟨A, c, hv, hlc, hC⟩ := Kd.R_reads HO.out
      rw [path_length] at hv hlc hC
      subst hv
      obtain ⟨ad, cs, rfl, hcs, hK, hcell⟩ := Kd.C_get hC (0, 0) (k : Int) (by omega) (by omega)
      obtain ⟨g, rfl⟩ := Kd.R_head HO.out
      have hK' : cs = [encP ((path (bytesOf s) k).getD (k : Int).toNat (0, 0))] := hK
      rw [Int.toNat_natCast, path_at _ _ _ (Nat.le_refl _)] at hK'
      have hc1 := hcell 0 (encP (pos ((bytesOf s).take k))) (by rw [hK']; rfl)
      have e1 : (k : Int).toNat * kP.sz + 0 = k := by show (k : Int).toNat * 1 + 0 = k; omega
      rw [e1, add_plain] at hc1
      clear hcell hK hK' hcs e1 hC
      have hb := bt_range s (k : Int)
      have hpb := pos_bd ((bytesOf s).take k)
      have hlen : ((bytesOf s).take k).length = k := by rw [List.length_take, HL.out]; omega
      rw [hlen] at hpb
      have hsb := step_bd (bt s k)
      have hpn := pos_next (bytesOf s) k (by rw [HL.out]; exact hlt)
      rw [rd_bytesOf] at hpn
      have HPN := Aside0.mk hpn
      have HPS := Aside0.mk (path_succ (bytesOf s) k)
      clear hpn hlen
      have hadd : ∀ t w, (binOp .add t (encP (pos ((bytesOf s).take k))) (.complex .f64 (fz (sx (bt s k))) (fz (sy (bt s k))))).run Try.prog w = .ok (encP (pos ((bytesOf s).take (k + 1)))) w := by
        intro t w
        rw [HPN.out]
        exact run_addc t _ _ _ _ (small_of (by omega) (by omega)) (small_of (by omega) (by omega)) (small_of (by omega) (by omega)) (small_of (by omega) (by omega)) (small_of (by omega) (by omega)) (small_of (by omega) (by omega)) w
      have hn1 : Near (fz (pos ((bytesOf s).take (k + 1))).1) (pos ((bytesOf s).take (k + 1))).1 := Near_fz _
      have hn2 : Near (fz (pos ((bytesOf s).take (k + 1))).2) (pos ((bytesOf s).take (k + 1))).2 := Near_fz _
      have hs1 : small (pos ((bytesOf s).take (k + 1))).1 := by rw [HPN.out]; exact small_of (by dsimp only; omega) (by dsimp only; omega)
      have hs2 : small (pos ((bytesOf s).take (k + 1))).2 := by rw [HPN.out]; exact small_of (by dsimp only; omega) (by dsimp only; omega)
      clear hpb hsb
      generalize pos ((bytesOf s).take k) = p at *
      generalize hp' : pos ((bytesOf s).take (k + 1)) = p' at *
      have hx := bt_at s (k : Int)
      rw [Int.toNat_natCast] at hx
      have b0 := hb.1
      have b1 := hb.2
      have i1 : (k : Int) < ((k + 1 : Nat) : Int) := by omega
      go_wp2_with fail
      go_quiet ((go_at_call 19; (with_reducible refine (Step_calls (bt s k) b0 b1 _).mono ?_); rintro e w' ⟨rfl, ⟨nd, rfl⟩⟩; exact ⟨rfl, _, World.drewN_drewN _ _ _⟩))
      go_wp2_with fail
      refine (Turn_calls _ _ p'.1 p'.2 0 hn1 hn2 hs1 hs2 _).mono ?_
      have ht1 : tx (0 % 4) p'.1 p'.2 = p'.1 := by simp [tx]
      have ht2 : ty (0 % 4) p'.1 p'.2 = p'.2 := by simp [ty]
      rw [ht1, ht2]
      clear ht1 ht2
      rintro e w1 ⟨rfl, ⟨nd, rfl⟩⟩
      go_wp2_with (at_builtin; refine Kd.R_append kP (w0 := w) w.heap.size rfl (.tmp 21) (.tmp 24) 30 23 (.complex .f64 0 0) 16 rfl Try.underlying30 info23 rfl (by decide) (by omega) (.slice (some ⟨g, 0, none⟩) (k + 1) c) (path (bytesOf s) k) p' [.complex .f64 (fz p'.1) (fz p'.2)] (fun _ => True) (fun _ => False) rfl rfl ?aP (fun _ hk => hk.elim) ?aF ?aO ?aB ?aS ?aL ?_; (case aP => exact rfl); (case aF => exact fun _ _ => trivial); (case aO => exact Kd.R_drewN HO.out _); (case aB => exact pw_below_drewN HB.out _); (case aS => exact (pw_below_drewN HB.out _).size); (case aL => rw [path_length]; omega); intro v1 w1 hr hb1 _ _; rw [← HPS.out] at hr; have HR := Aside0.mk hr; have HB1 := Aside0.mk hb1; clear hr hb1)
      go_roundw
      case rel => exact ⟨k + 1, by omega, by go_num, HR, HB1⟩
      case measure => simp [intOf]; omega
    · obtain rfl : k = s.size := by omega
      go_wp2_with fail
      go_ret
      exact ⟨_, rfl, HO.out, HB.out⟩

theorem End_calls (s : ByteArray) (hs : s.size ≤ 100000) (w : World) :
    Calls Try.prog 17 #[.string s] w fun e w' => e = .returned (encP (pos (bytesOf s))) ∧ Below w.heap.size w w' := by
  have hl := bytesOf_length s
  have ht : (bytesOf s).take s.size = bytesOf s := List.take_of_length_le (by omega)
  have hpa := path_at (bytesOf s) s.size s.size (Nat.le_refl _) (0, 0)
  rw [ht] at hpa
  have HPA := Aside0.mk hpa
  clear hl ht hpa
  go_enter Try.func17, Try.ntmps17
  go_wp2_with fail
  refine (Path_calls s hs _).mono ?_
  rintro e w1 ⟨v, rfl, HO, HB⟩
  obtain ⟨A, c, rfl, hlc, hC⟩ := Kd.R_reads HO
  have hpl := path_length (bytesOf s) s.size
  obtain ⟨ad, cs, rfl, hcs, hK, hcell⟩ := Kd.C_get hC (0, 0) (s.size : Int) (by omega) (by omega)
  obtain ⟨g, rfl⟩ := Kd.R_head HO
  have hK' : cs = [encP ((path (bytesOf s) s.size).getD (s.size : Int).toNat (0, 0))] := hK
  rw [Int.toNat_natCast, HPA.out] at hK'
  have hc1 := hcell 0 (encP (pos (bytesOf s))) (by rw [hK']; rfl)
  have e1 : (s.size : Int).toNat * kP.sz + 0 = s.size := by show (s.size : Int).toNat * 1 + 0 = s.size; omega
  rw [e1, add_plain] at hc1
  have i1 : (s.size : Int) < (((path (bytesOf s) s.size).length : Nat) : Int) := by omega
  have HB1 := Aside0.mk HB
  clear hcell hK hK' hcs e1 hC HO HB hpl
  go_wp2_with fail
  go_ret
  exact ⟨rfl, HB1.out⟩

def lo (f : Nat → Int) : Nat → Int
  | 0 => 0
  | k + 1 => min (lo f k) (f k)
def hi (f : Nat → Int) : Nat → Int
  | 0 => 0
  | k + 1 => max (hi f k) (f k)

theorem run_minf {P : Program} (ts : Array TypeId) (t : TypeId) (a b : Int) (ha : small a) (hb : small b) (w : World) :
    (Builtin.min_ ts t #[.float .f64 (fz a), .float .f64 (fz b)]).run P w = .ok (.float .f64 (fz (min a b))) w := by
  have ho := order_val (Val_fz a ha) (Val_fz b hb)
  rcases Int.lt_trichotomy a b with h | h | h
  · rw [Int.compare_eq_lt.2 h] at ho
    rw [Int.min_eq_left (by omega)]
    simp [Builtin.min_, Builtin.min2, fmt, ho]
  · subst h
    simp at ho
    simp [Builtin.min_, Builtin.min2, fmt, ho]
  · rw [Int.compare_eq_gt.2 h] at ho
    rw [Int.min_eq_right (by omega)]
    simp [Builtin.min_, Builtin.min2, fmt, ho]
theorem run_maxf {P : Program} (ts : Array TypeId) (t : TypeId) (a b : Int) (ha : small a) (hb : small b) (w : World) :
    (Builtin.max_ ts t #[.float .f64 (fz a), .float .f64 (fz b)]).run P w = .ok (.float .f64 (fz (max a b))) w := by
  have ho := order_val (Val_fz a ha) (Val_fz b hb)
  rcases Int.lt_trichotomy a b with h | h | h
  · rw [Int.compare_eq_lt.2 h] at ho
    rw [Int.max_eq_right (by omega)]
    simp [Builtin.max_, Builtin.max2, fmt, ho]
  · subst h
    simp at ho
    simp [Builtin.max_, Builtin.max2, fmt, ho]
  · rw [Int.compare_eq_gt.2 h] at ho
    rw [Int.max_eq_left (by omega)]
    simp [Builtin.max_, Builtin.max2, fmt, ho]

theorem run_fbits (x : Nat) (w : World) : (callFunc 27 #[.float .f64 x]).run Try.prog w = .ok (.value (.int .u64 x)) w := by
  rw [run_callFunc_extern (P := Try.prog) (f := 27) (fn := Try.f27) (e := Extern.MathFloatBits.float64bits) (by kernel_rfl) (by kernel_rfl) (by kernel_rfl) (by kernel_rfl) (by kernel_rfl)]
  rfl
theorem run_fof (x : Nat) (w : World) : (callFunc 64 #[.int .u64 (x : Int)]).run Try.prog w = .ok (.value (.float .f64 x)) w := by
  rw [run_callFunc_extern (P := Try.prog) (f := 64) (fn := Try.f64) (e := Extern.MathFloatBits.float64frombits) (by kernel_rfl) (by kernel_rfl) (by kernel_rfl) (by kernel_rfl) (by kernel_rfl)]
  rfl

end Go.Proofs.Ytckamijajnmbjaa.Wk
