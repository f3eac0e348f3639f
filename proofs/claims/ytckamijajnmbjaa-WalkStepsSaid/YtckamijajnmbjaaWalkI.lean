/- The law WalkSteps returns true. Conditions: none beyond the given statement's. -/
import Derived.Test.YtckamijajnmbjaaWalkC
import Derived.Deep.RegionHeld3
import Derived.IntWalk
set_option linter.unusedVariables false
set_option linter.unusedSimpArgs false
namespace Go.Proofs.Ytckamijajnmbjaa.Wk
open Go.RowKit Go.Proofs.YtckamijajnmbjaaW.PrintWords Go.Proofs.YtckamijajnmbjaaW.PrintLast Go.Proofs.YtckamijajnmbjaaW.PrintMore Go.Proofs.Ytckamijajnmbjaa.Fpx

theorem cell_at {w w1 : World} {l : List Int} {n : Nat} {g c : Nat} (HO : kP.R 23 w1 w.heap.size (fun _ => True) (.slice (some ⟨g, 0, none⟩) (n + 1) c) (path l n)) (k : Nat) (hk : k ≤ n) :
    w1.cell? ⟨g, k, none⟩ = some (.complex .f64 (fz (fx l k)) (fz (fy l k))) := by
  obtain ⟨A, c', hv, hlc, hC⟩ := Kd.R_reads HO
  rw [path_length] at hv hC
  injection hv with hA
  subst hA
  obtain ⟨ad, cs, he, hcs, hK, hcell⟩ := Kd.C_get hC (0, 0) (k : Int) (by omega) (by omega)
  injection he with he
  subst he
  have hK' : cs = [encP ((path l n).getD (k : Int).toNat (0, 0))] := hK
  rw [Int.toNat_natCast, path_at _ _ _ hk] at hK'
  have hc1 := hcell 0 (encP (pos (l.take k))) (by rw [hK']; rfl)
  have e1 : (k : Int).toNat * kP.sz + 0 = k := by show (k : Int).toNat * 1 + 0 = k; omega
  rw [e1, add_plain] at hc1
  exact hc1

set_option maxRecDepth 100000 in
set_option maxHeartbeats 4000000 in
theorem WalkSteps_main (s : ByteArray) (hs : s.size ≤ 200) (w : World) :
    Calls Try.prog 6 #[.string s] w fun e w' => e = .returned (.bool true) ∧ Below w.heap.size w w' := by
  have hls := bytesOf_length s
  have FS := fx_bd (bytesOf s) (by omega)
  have P1 := Aside0.mk (Path_calls s (by omega))
  have ht : (bytesOf s).take s.size = bytesOf s := List.take_of_length_le (by omega)
  have e1 : fx (bytesOf s) s.size = (pos (bytesOf s)).1 := by unfold fx; rw [ht]
  have e2 : fy (bytesOf s) s.size = (pos (bytesOf s)).2 := by unfold fy; rw [ht]
  have C1 := Aside0.mk (End_at s (fx (bytesOf s) s.size) (fy (bytesOf s) s.size) (by rw [e1, e2]) (by omega))
  have FN := FS s.size
  have z1 : (FloatKind.f64.format.order (fz (fx (bytesOf s) s.size)) (fz (fx (bytesOf s) s.size)) == some .eq) = true := by rw [eqf _ _ (small100 (by omega) (by omega)) (small100 (by omega) (by omega))]; simp
  have z2 : (FloatKind.f64.format.order (fz (fy (bytesOf s) s.size)) (fz (fy (bytesOf s) s.size)) == some .eq) = true := by rw [eqf _ _ (small100 (by omega) (by omega)) (small100 (by omega) (by omega))]; simp
  have z0 := eq00
  have FK := Aside0.mk FS
  have FX0 : Aside0 (Value.complex .f64 (fz (fx (bytesOf s) 0)) (fz (fy (bytesOf s) 0)) = Value.complex .f64 0 0) := ⟨by show Value.complex .f64 (fz 0) (fz 0) = _; rw [fz_zero]⟩
  have g1 : decide (200 < (s.size : Int)) = false := decide_eq_false (by omega)
  have AL := Aside0.mk alive_calls
  have HB : Aside0 (Below w.heap.size w w) := ⟨Below.refl _ _⟩
  have HL := Aside0.mk hls
  clear FS ht e1 e2 FN hls
  go_enter Try.func6, Try.ntmps6
  go_wp2_with (go_at_call 11; (with_reducible refine (AL.out _).mono ?_); rintro e w' ⟨rfl, hb⟩; have n0_ := Aside0.mk (below_step (by repeat (first | (with_reducible first | exact HB.out | apply below_alloc | apply pw_below_drewN | apply below_drew1) | exact HB.out)) hb); clear HB; have HB := n0_; clear n0_ hb)
  refine (P1.out _).mono ?_
  rintro e w1 ⟨v, rfl, HO0, HB0⟩
  have n0_ := Aside0.mk (below_step (by repeat (first | (with_reducible first | exact HB.out | apply below_alloc | apply pw_below_drewN | apply below_drew1) | exact HB.out)) HB0)
  clear HB
  have HB := n0_
  clear n0_
  obtain ⟨A, c, rfl, hlc, hC0⟩ := Kd.R_reads HO0
  have hpl := path_length (bytesOf s) s.size
  rw [hpl] at HO0 hC0 ⊢
  obtain ⟨ad, cs, rfl, hcs, hK, hcell⟩ := Kd.C_get hC0 (0, 0) (0 : Int) (by omega) (by omega)
  obtain ⟨g, rfl⟩ := Kd.R_head HO0
  have c0 := cell_at HO0 0 (by omega)
  rw [FX0.out] at c0
  have cn := cell_at HO0 s.size (Nat.le_refl _)
  have HC : Aside0 (∀ k, k ≤ s.size → w1.cell? ⟨g, k, none⟩ = some (.complex .f64 (fz (fx (bytesOf s) k)) (fz (fy (bytesOf s) k)))) := ⟨fun k hk => cell_at HO0 k hk⟩
  clear HO0 hC0 hpl hlc hcs hK hcell HB0
  have i1 : ((s.size : Int) < (s.size : Int) + 1) = True := eq_true (by omega)
  have i0 : ((0 : Int) < (s.size : Int) + 1) = True := eq_true (by omega)
  have i3 : (0 ≤ (s.size : Int)) = True := eq_true (by omega)
  have i4 : (s.size : Int).toNat = s.size := Int.toNat_natCast _
  have i2 : ((s.size : Int) + 1 != IntKind.i64.wrap ((s.size : Int) + 1)) = false := by rw [IntWalk.i64_in _ (by omega)]; simp
  go_wp2_with fail
  go_region_held3 (fun w' => w'.cell? ⟨g, 0, none⟩ = some (.complex .f64 0 0) ∧ w'.cell? ⟨g, s.size, none⟩ = some (.complex .f64 (fz (fx (bytesOf s) s.size)) (fz (fy (bytesOf s) s.size)))) (first | go_keep | exact ⟨pw_cell_below hb c0, pw_cell_below hb cn⟩) (first | (go_at_call 17; refine (C1.out _).mono ?_; rintro e w2 ⟨rfl, hb⟩))
  all_goals
    clear i2 i0 i1 i3 i4 c0 cn z0 z1 z2
    go_wp2_with fail
    have hb1 : Below w1.heap.size w1 w2 := below_then (below_drew (Below.refl _ _)) (Nat.le_refl _) hb
    have HC2 : Aside0 (∀ k, k ≤ s.size → w2.cell? ⟨g, k, none⟩ = some (.complex .f64 (fz (fx (bytesOf s) k)) (fz (fy (bytesOf s) k)))) := ⟨fun k hk => pw_cell_below hb1 (HC.out k hk)⟩
    have HB2 := Aside0.mk (below_then HB.out HB.out.size hb1)
    clear hb hb1 ‹_ ∧ _›
    go_loopw [4] (fun i wr => ∃ k : Nat, k ≤ s.size ∧ i = .int .i64 k ∧ Aside0 (Drawn0 w2 wr)) (fun i _ => s.size - (intOf i).toNat)
    case atStart => exact ⟨0, by omega, rfl, ⟨Drawn0.refl _⟩⟩
    case round =>
      obtain ⟨k, hk, rfl, HD⟩ := hrel
      by_cases hlt : k < s.size
      · obtain ⟨nd, hw⟩ := HD.out.out
        have hc1 : wr.cell? ⟨g, k, none⟩ = some (.complex .f64 (fz (fx (bytesOf s) k)) (fz (fy (bytesOf s) k))) := by rw [hw]; exact HC2.out k (by omega)
        have hc2 : wr.cell? ⟨g, k + 1, none⟩ = some (.complex .f64 (fz (fx (bytesOf s) (k + 1))) (fz (fy (bytesOf s) (k + 1)))) := by rw [hw]; exact HC2.out (k + 1) (by omega)
        have hpn := pos_next (bytesOf s) k (by rw [HL.out]; exact hlt)
        rw [rd_bytesOf] at hpn
        have n1 : fx (bytesOf s) (k + 1) - fx (bytesOf s) k = sx (bt s k) := by unfold fx; rw [hpn]; dsimp only; omega
        have n2 : fy (bytesOf s) (k + 1) - fy (bytesOf s) k = sy (bt s k) := by unfold fy; rw [hpn]; dsimp only; omega
        have hb := bt_range s (k : Int)
        have sb := step_bd (bt s k)
        have f1 := FK.out k
        have f2 := FK.out (k + 1)
        have hsub : ∀ t w, (binOp .sub t (.complex .f64 (fz (fx (bytesOf s) (k + 1))) (fz (fy (bytesOf s) (k + 1)))) (.complex .f64 (fz (fx (bytesOf s) k)) (fz (fy (bytesOf s) k)))).run Try.prog w = .ok (.complex .f64 (fz (sx (bt s k))) (fz (sy (bt s k)))) w := by
          intro t w
          rw [← n1, ← n2]
          exact run_subc t _ _ _ _ (small100 (by omega) (by omega)) (small100 (by omega) (by omega)) (small100 (by omega) (by omega)) (small100 (by omega) (by omega)) (small100 (by omega) (by omega)) (small100 (by omega) (by omega)) w
        have one : farI (fx (bytesOf s) k) (fy (bytesOf s) k) (fx (bytesOf s) (k + 1)) (fy (bytesOf s) (k + 1)) = 1 := by
          have h1 := sx_eq (bt s k)
          have h2 := sy_eq (bt s k)
          have : bt s k % 4 = 0 ∨ bt s k % 4 = 1 ∨ bt s k % 4 = 2 ∨ bt s k % 4 = 3 := by omega
          unfold farI
          rcases this with h | h | h | h <;> simp [h] at h1 h2 <;> rw [h1] at n1 <;> rw [h2] at n2 <;> omega
        have D1 := Aside0.mk (Apart_at _ _ _ _ (nigh_mk (a := fx (bytesOf s) k) (b := fy (bytesOf s) k) (by omega) (by omega) (by omega) (by omega)) (nigh_mk (a := fx (bytesOf s) (k + 1)) (b := fy (bytesOf s) (k + 1)) (by omega) (by omega) (by omega) (by omega)))
        rw [one] at D1
        have y1 : (FloatKind.f64.format.order (fz (sx (bt s k))) (fz (sx (bt s k))) == some .eq) = true := by rw [eqf _ _ (small100 (by omega) (by omega)) (small100 (by omega) (by omega))]; simp
        have y2 : (FloatKind.f64.format.order (fz (sy (bt s k))) (fz (sy (bt s k))) == some .eq) = true := by rw [eqf _ _ (small100 (by omega) (by omega)) (small100 (by omega) (by omega))]; simp
        have b0 := hb.1
        have b1 := hb.2
        have ST := Aside0.mk (Step_calls (bt s k) b0 b1)
        have hx := bt_at s (k : Int)
        rw [Int.toNat_natCast] at hx
        clear hw hpn n1 n2 sb f1 f2 one hb b0 b1
        have v1 : IntKind.i64.wrap ((k : Int) + 1) = (k : Int) + 1 := IntWalk.i64_in _ (by omega)
        have v2 : ((k : Int) + 1).toNat = k + 1 := by omega
        have v3 : (0 ≤ (k : Int) + 1) = True := eq_true (by omega)
        have v4 : ((k : Int) + 1 < (s.size : Int) + 1) = True := eq_true (by omega)
        have v5 : ((k : Int) < (s.size : Int) + 1) = True := eq_true (by omega)
        have v6 : (0 ≤ (k : Int)) = True := eq_true (by omega)
        have v7 : ((k : Int) < (s.size : Int)) = True := eq_true (by omega)
        go_wp2_with fail
        go_quiet (first
          | (go_at_call 19; (with_reducible refine (ST.out _).mono ?_); rintro e w' ⟨rfl, ⟨nd, rfl⟩⟩; exact ⟨rfl, _, World.drewN_drewN _ _ _⟩)
          | (go_at_call 18; (with_reducible refine (D1.out _).mono ?_); rintro e w' ⟨rfl, ⟨nd, rfl⟩⟩; exact ⟨rfl, _, World.drewN_drewN _ _ _⟩))
        clear v1 v2 v3 v4 v5 v6 v7
        go_wp2_with fail
        go_roundw
        case rel => exact ⟨k + 1, by omega, by go_num, ⟨HD.out.step _⟩⟩
        case measure => simp [intOf]; omega
      · obtain rfl : k = s.size := by omega
        go_wp2_with fail
        go_ret
        exact ⟨rfl, below_then HB2.out HB2.out.size HD.out.below⟩

theorem WalkSteps_all (s : ByteArray) (w : World) (_ : s.size ≤ 140737488351232) :
    Calls Try.prog 6 #[.string s] w fun e w' => e = .returned (.bool true) ∧ Below w.heap.size w w' := by
  by_cases h0 : 200 < (s.size : Int)
  case pos =>
    have gg : decide (200 < (s.size : Int)) = true := decide_eq_true h0
    have AL := Aside0.mk alive_calls
    clear h0
    go_enter Try.func6, Try.ntmps6
    go_wp2_with fail
    refine (AL.out _).mono ?_
    rintro e w' ⟨rfl, hb⟩
    go_wp2_with fail
    go_ret
    exact ⟨rfl, hb⟩
  exact WalkSteps_main s (by omega) w

end Go.Proofs.Ytckamijajnmbjaa.Wk
