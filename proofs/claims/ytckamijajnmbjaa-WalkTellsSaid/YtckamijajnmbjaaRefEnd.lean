/- The functions Path and End of the document's answer: where a text's walk leads. Conditions: texts of at most 100000 bytes. -/
import Derived.Test.YtckamijajnmbjaaWalkB
set_option linter.unusedVariables false
set_option linter.unusedSimpArgs false
namespace Go.Proofs.Ytckamijajnmbjaa.Wk
open Go.RowKit Go.Proofs.YtckamijajnmbjaaW.PrintWords Go.Proofs.YtckamijajnmbjaaW.PrintLast Go.Proofs.YtckamijajnmbjaaW.PrintMore Go.Proofs.Ytckamijajnmbjaa.Fpx

set_option maxHeartbeats 1000000 in
theorem refPath_calls (s : ByteArray) (hs : s.size ≤ 100000) (w : World) :
    Calls Try.prog 20 #[.string s] w fun e w' => ∃ v, e = .returned v ∧ kP.R 23 w' w.heap.size (fun _ => True) v (path (bytesOf s) s.size) ∧ Below w.heap.size w w' := by
  have hl := bytesOf_length s
  go_enter Try.func20, Try.ntmps20
  have own0 : kP.R 23 (w.alloc (.cells #[.complex .f64 0 0] 23)) w.heap.size (fun _ => True) (.slice (some ⟨w.heap.size, 0, none⟩) 1 1) (path (bytesOf s) 0) := by
    refine Kd.R_of_own ?_ (fun _ _ => trivial)
    have h := World.ownsRow_lit (base := w.heap.size) (e := 23) (size := 1) w #[.complex .f64 0 0] 1 (Nat.le_refl _) (by simp [maxLen]) (by simp)
    have e : encs encP (path (bytesOf s) 0) = [Value.complex .f64 0 0] := by simp [path, encs, encP, pos, fz_zero]
    rw [e, path_length]
    exact h
  have O0 := Aside0.mk own0
  clear own0
  have B0 : Aside0 (Below w.heap.size w (w.alloc (.cells #[.complex .f64 0 0] 23))) := ⟨below_alloc (Below.refl _ _) _⟩
  have HL := Aside0.mk hl
  clear hl
  go_wp2_with fail
  go_loopw [3, 4, 5, 6] (fun x y v i wr => ∃ k : Nat, k ≤ s.size ∧ i = .int .i64 k ∧ x = .int .i64 (pos ((bytesOf s).take k)).1 ∧ y = .int .i64 (pos ((bytesOf s).take k)).2 ∧ Aside0 (kP.R 23 wr w.heap.size (fun _ => True) v (path (bytesOf s) k)) ∧ Aside0 (Below w.heap.size w wr)) (fun _ _ _ i _ => s.size - (intOf i).toNat)
  case atStart => exact ⟨0, by omega, rfl, rfl, rfl, O0, B0⟩
  case round =>
    clear O0 B0
    obtain ⟨k, hk, rfl, rfl, rfl, HO, HB⟩ := hrel
    by_cases hlt : k < s.size
    · obtain ⟨A, c, hv, hlc, hC⟩ := Kd.R_reads HO.out
      rw [path_length] at hv hlc hC
      subst hv
      have hpb := pos_bd ((bytesOf s).take k)
      have hlen : ((bytesOf s).take k).length = k := by rw [List.length_take, HL.out]; omega
      rw [hlen] at hpb
      have hsb := step_bd (bt s k)
      have hpn := pos_next (bytesOf s) k (by rw [HL.out]; exact hlt)
      rw [rd_bytesOf] at hpn
      have HPS := Aside0.mk (path_succ (bytesOf s) k)
      have hx := bt_at s (k : Int)
      have hb := bt_range s (k : Int)
      rw [Int.toNat_natCast] at hx
      have hsx := sx_eq (bt s k)
      have hsy := sy_eq (bt s k)
      obtain ⟨⟨a, b⟩, hab⟩ : ∃ q, pos ((bytesOf s).take k) = q := ⟨_, rfl⟩
      rw [hab] at hpb hpn ⊢
      dsimp only at hpb hpn ⊢
      obtain ⟨A1, hA1⟩ : ∃ q, A = q := ⟨_, rfl⟩
      subst hA1
      have b0 := hb.1
      have b1 := hb.2
      clear hlen hC hsb hab
      obtain ⟨r, hr⟩ : ∃ r, bt s k % 4 = r := ⟨_, rfl⟩
      rw [hr] at hsx hsy
      rcases (show r = 0 ∨ r = 1 ∨ r = 2 ∨ r = 3 by omega) with rfl | rfl | rfl | rfl
      · have hp' : pos ((bytesOf s).take (k + 1)) = (a + 1, b) := by rw [hpn, hsx, hsy]; simp; try omega
        rw [hp'] at HPS
        have HP' := Aside0.mk hp'
        have vw : IntKind.i64.wrap (a + 1) = a + 1 := IntWalk.i64_in _ (by omega)
        have q0 : (bt s k % 4 == 0) = true := by rw [hr]; rfl
        have q1 : (bt s k % 4 == 1) = false := by rw [hr]; rfl
        have q2 : (bt s k % 4 == 2) = false := by rw [hr]; rfl
        clear hr hsx hsy hpn hp'
        go_wp2_with (at_builtin; refine Kd.R_append kP (w0 := w) w.heap.size rfl (.tmp 32) (.tmp 38) 30 23 (.complex .f64 0 0) 16 rfl Try.underlying30 info23 rfl (by decide) (by omega) (.slice A (k + 1) c) (path (bytesOf s) k) (a + 1, b) [.complex .f64 (fz (a + 1)) (fz (b))] (fun _ => True) (fun _ => False) rfl rfl ?aP (fun _ hk => hk.elim) ?aF ?aO ?aB ?aS ?aL ?_; (case aP => exact rfl); (case aF => exact fun _ _ => trivial); (case aO => exact HO.out); (case aB => exact HB.out); (case aS => exact HB.out.size); (case aL => rw [path_length]; omega); intro v1 w1 hr hb1 _ _; rw [← HPS.out] at hr; have HR := Aside0.mk hr; have HB1 := Aside0.mk hb1; clear hr hb1)
        go_roundw
        case rel => exact ⟨k + 1, by omega, by go_num, by rw [HP'.out], by rw [HP'.out], HR, HB1⟩
        case measure => simp [intOf]; omega
      · have hp' : pos ((bytesOf s).take (k + 1)) = (a, b + 1) := by rw [hpn, hsx, hsy]; simp; try omega
        rw [hp'] at HPS
        have HP' := Aside0.mk hp'
        have vw : IntKind.i64.wrap (b + 1) = b + 1 := IntWalk.i64_in _ (by omega)
        have q0 : (bt s k % 4 == 0) = false := by rw [hr]; rfl
        have q1 : (bt s k % 4 == 1) = true := by rw [hr]; rfl
        have q2 : (bt s k % 4 == 2) = false := by rw [hr]; rfl
        clear hr hsx hsy hpn hp'
        go_wp2_with (at_builtin; refine Kd.R_append kP (w0 := w) w.heap.size rfl (.tmp 32) (.tmp 38) 30 23 (.complex .f64 0 0) 16 rfl Try.underlying30 info23 rfl (by decide) (by omega) (.slice A (k + 1) c) (path (bytesOf s) k) (a, b + 1) [.complex .f64 (fz (a)) (fz (b + 1))] (fun _ => True) (fun _ => False) rfl rfl ?aP (fun _ hk => hk.elim) ?aF ?aO ?aB ?aS ?aL ?_; (case aP => exact rfl); (case aF => exact fun _ _ => trivial); (case aO => exact HO.out); (case aB => exact HB.out); (case aS => exact HB.out.size); (case aL => rw [path_length]; omega); intro v1 w1 hr hb1 _ _; rw [← HPS.out] at hr; have HR := Aside0.mk hr; have HB1 := Aside0.mk hb1; clear hr hb1)
        go_roundw
        case rel => exact ⟨k + 1, by omega, by go_num, by rw [HP'.out], by rw [HP'.out], HR, HB1⟩
        case measure => simp [intOf]; omega
      · have hp' : pos ((bytesOf s).take (k + 1)) = (a - 1, b) := by rw [hpn, hsx, hsy]; simp; try omega
        rw [hp'] at HPS
        have HP' := Aside0.mk hp'
        have vw : IntKind.i64.wrap (a - 1) = a - 1 := IntWalk.i64_in _ (by omega)
        have q0 : (bt s k % 4 == 0) = false := by rw [hr]; rfl
        have q1 : (bt s k % 4 == 1) = false := by rw [hr]; rfl
        have q2 : (bt s k % 4 == 2) = true := by rw [hr]; rfl
        clear hr hsx hsy hpn hp'
        go_wp2_with (at_builtin; refine Kd.R_append kP (w0 := w) w.heap.size rfl (.tmp 32) (.tmp 38) 30 23 (.complex .f64 0 0) 16 rfl Try.underlying30 info23 rfl (by decide) (by omega) (.slice A (k + 1) c) (path (bytesOf s) k) (a - 1, b) [.complex .f64 (fz (a - 1)) (fz (b))] (fun _ => True) (fun _ => False) rfl rfl ?aP (fun _ hk => hk.elim) ?aF ?aO ?aB ?aS ?aL ?_; (case aP => exact rfl); (case aF => exact fun _ _ => trivial); (case aO => exact HO.out); (case aB => exact HB.out); (case aS => exact HB.out.size); (case aL => rw [path_length]; omega); intro v1 w1 hr hb1 _ _; rw [← HPS.out] at hr; have HR := Aside0.mk hr; have HB1 := Aside0.mk hb1; clear hr hb1)
        go_roundw
        case rel => exact ⟨k + 1, by omega, by go_num, by rw [HP'.out], by rw [HP'.out], HR, HB1⟩
        case measure => simp [intOf]; omega
      · have hp' : pos ((bytesOf s).take (k + 1)) = (a, b - 1) := by rw [hpn, hsx, hsy]; simp; try omega
        rw [hp'] at HPS
        have HP' := Aside0.mk hp'
        have vw : IntKind.i64.wrap (b - 1) = b - 1 := IntWalk.i64_in _ (by omega)
        have q0 : (bt s k % 4 == 0) = false := by rw [hr]; rfl
        have q1 : (bt s k % 4 == 1) = false := by rw [hr]; rfl
        have q2 : (bt s k % 4 == 2) = false := by rw [hr]; rfl
        clear hr hsx hsy hpn hp'
        go_wp2_with (at_builtin; refine Kd.R_append kP (w0 := w) w.heap.size rfl (.tmp 32) (.tmp 38) 30 23 (.complex .f64 0 0) 16 rfl Try.underlying30 info23 rfl (by decide) (by omega) (.slice A (k + 1) c) (path (bytesOf s) k) (a, b - 1) [.complex .f64 (fz (a)) (fz (b - 1))] (fun _ => True) (fun _ => False) rfl rfl ?aP (fun _ hk => hk.elim) ?aF ?aO ?aB ?aS ?aL ?_; (case aP => exact rfl); (case aF => exact fun _ _ => trivial); (case aO => exact HO.out); (case aB => exact HB.out); (case aS => exact HB.out.size); (case aL => rw [path_length]; omega); intro v1 w1 hr hb1 _ _; rw [← HPS.out] at hr; have HR := Aside0.mk hr; have HB1 := Aside0.mk hb1; clear hr hb1)
        go_roundw
        case rel => exact ⟨k + 1, by omega, by go_num, by rw [HP'.out], by rw [HP'.out], HR, HB1⟩
        case measure => simp [intOf]; omega
    · obtain rfl : k = s.size := by omega
      go_wp2_with fail
      go_ret
      exact ⟨_, rfl, HO.out, HB.out⟩
theorem refEnd_calls (s : ByteArray) (hs : s.size ≤ 100000) (w : World) :
    Calls Try.prog 22 #[.string s] w fun e w' => e = .returned (encP (pos (bytesOf s))) ∧ Below w.heap.size w w' := by
  have hl := bytesOf_length s
  have ht : (bytesOf s).take s.size = bytesOf s := List.take_of_length_le (by omega)
  have hpa := path_at (bytesOf s) s.size s.size (Nat.le_refl _) (0, 0)
  rw [ht] at hpa
  have HPA := Aside0.mk hpa
  clear hl ht hpa
  go_enter Try.func22, Try.ntmps22
  go_wp2_with fail
  refine (refPath_calls s hs _).mono ?_
  rintro e w1 ⟨v, rfl, HO, HB⟩
  obtain ⟨A, c, rfl, hlc, hC⟩ := Kd.R_reads HO
  have hpl := path_length (bytesOf s) s.size
  obtain ⟨ad, cs, rfl, hcs, hK, hcell⟩ := Kd.C_get hC (0, 0) (s.size : Int) (by omega) (by omega)
  obtain ⟨g, rfl⟩ := Kd.R_head HO
  have hK' : cs = [encP ((path (bytesOf s) s.size).getD (s.size : Int).toNat (0, 0))] := hK
  rw [Int.toNat_natCast, HPA.out] at hK'
  have hc1 := hcell 0 (encP (pos (bytesOf s))) (by rw [hK']; rfl)
  have e1 : (s.size : Int).toNat * kP.sz + 0 = s.size := by show (s.size : Int).toNat * 1 + 0 = s.size; omega
  rw [e1, add_plain] at hc1
  have HB1 := Aside0.mk HB
  rw [hpl]
  have i0 : IntKind.i64.wrap (((s.size + 1 : Nat) : Int) - 1) = (s.size : Int) := (IntWalk.i64_in _ (by omega)).trans (by omega)
  have i1 : ((s.size : Int) < ((s.size + 1 : Nat) : Int)) = True := eq_true (by omega)
  have i2 : (s.size < s.size + 1) = True := eq_true (by omega)
  clear hcell hK hK' hcs e1 hC HO HB hpl
  go_wp2_with fail
  go_ret
  exact ⟨rfl, HB1.out⟩
end Go.Proofs.Ytckamijajnmbjaa.Wk
