/- The law WalkTells, walked. Conditions: none. -/
import Derived.Test.YtckamijajnmbjaaPtApart
import Derived.Test.YtckamijajnmbjaaRefApart
import Derived.Test.YtckamijajnmbjaaRefEnd
import Derived.Deep.RegionHeld3
set_option linter.unusedVariables false
set_option linter.unusedSimpArgs false
namespace Go.Proofs.Ytckamijajnmbjaa.P
open Go.RowKit Go.Proofs.YtckamijajnmbjaaW.PrintWords Go.Proofs.YtckamijajnmbjaaW.PrintLast Go.Proofs.YtckamijajnmbjaaW.PrintMore
open Go.Proofs.Ytckamijajnmbjaa.Wk Go.Proofs.Ytckamijajnmbjaa.Fpx

theorem wf_byte (x : Int) (h : (Lit.int .u8 x).wf = true) : 0 ≤ x ∧ x ≤ 255 := by
  simp only [Lit.wf, Bool.and_eq_true, decide_eq_true_eq] at h
  have e0 : IntKind.u8.min = 0 := rfl
  have e1 : IntKind.u8.max = 255 := rfl
  omega
theorem encs_pq {xs : List (Int × Int)} (hs : ∀ x ∈ xs, small x.1 ∧ small x.2) : encs ptV xs = encs encP xs := by
  refine List.map_congr_left (fun x hx => ?_)
  unfold ptV
  rw [clamp_in (hs x hx).1 (hs x hx).2]
theorem R_PQ {e : Nat} {W : World} {b : Nat} {v : Value} {xs : List (Int × Int)} (h : kP.R e W b (fun _ => True) v xs) (hs : ∀ x ∈ xs, small x.1 ∧ small x.2) : kQ.R e W b (fun _ => True) v xs := by
  have o := Kd.own_of_R h
  rw [← encs_pq hs] at o
  exact Kd.R_of_own o h.1
theorem R_QP {e : Nat} {W : World} {b : Nat} {v : Value} {xs : List (Int × Int)} (h : kQ.R e W b (fun _ => True) v xs) (hs : ∀ x ∈ xs, small x.1 ∧ small x.2) : kP.R e W b (fun _ => True) v xs := by
  have o := Kd.own_of_R h
  rw [encs_pq hs] at o
  exact Kd.R_of_own o h.1
theorem path_small (l : List Int) (k : Nat) (hl : l.length ≤ 100000) : ∀ x ∈ path l k, small x.1 ∧ small x.2 := by
  intro x hx
  unfold path at hx
  obtain ⟨i, _, rfl⟩ := List.mem_map.1 hx
  have h := fx_bd l hl i
  exact ⟨small100 h.1 h.2.1, small100 h.2.2.1 h.2.2.2⟩
theorem cell_at {w1 : World} {b : Nat} {l : List Int} {n : Nat} {g c : Nat} (HO : kP.R 23 w1 b (fun _ => True) (.slice (some ⟨g, 0, none⟩) (n + 1) c) (path l n)) (k : Nat) (hk : k ≤ n) :
    w1.cell? ⟨g, k, none⟩ = some (.complex .f64 (fz (fx l k)) (fz (fy l k))) := by
  obtain ⟨A, c', hv, hlc, hC⟩ := Kd.R_reads HO
  rw [path_length] at hv hC
  injection hv with hA
  subst hA
  obtain ⟨ad, cs, he, hcs, hK, hcell⟩ := Kd.C_get hC (0, 0) (k : Int) (by omega) (by omega)
  injection he with he
  subst he
  have hK' : cs = [encP ((path l n).getD (k : Int).toNat (0, 0))] := hK
  rw [Int.toNat_natCast, path_at _ _ _ hk] at hK'
  have hc1 := hcell 0 (encP (pos (l.take k))) (by rw [hK']; rfl)
  have e1 : (k : Int).toNat * kP.sz + 0 = k := by show (k : Int).toNat * 1 + 0 = k; omega
  rw [e1, add_plain] at hc1
  exact hc1
theorem row_head {w1 : World} {b n : Nat} {l : List Int} {v : Value} (HO : kQ.R 23 w1 b (fun _ => True) v (path l n)) : ∃ g c, v = .slice (some ⟨g, 0, none⟩) (n + 1) c := by
  obtain ⟨A, c, rfl, hlc, hC⟩ := Kd.R_reads HO
  rw [path_length] at hC hlc
  obtain ⟨ad, cs, rfl, hcs, hK, hcell⟩ := Kd.C_get hC (0, 0) (0 : Int) (by omega) (by omega)
  obtain ⟨g, rfl⟩ := Kd.R_head HO
  exact ⟨g, c, by rw [path_length]⟩
theorem AddKeep.under {bk B : Nat} {o0 o1 : Value} {w w' : World} (h : AddKeep bk o0 o1 w w') (hB : B ≤ w.heap.size) (hbk : B ≤ bk) (h0 : ∀ k, o0.ownBlock = some k → B ≤ k) (h1 : ∀ k, o1.ownBlock = some k → B ≤ k) : Below B w w' :=
  ⟨h.os, h.tape, h.output, h.size, fun q hq => h.far q (by omega) (by omega) (fun e => by have := h0 q e; omega) (fun e => by have := h1 q e; omega)⟩
set_option maxRecDepth 100000 in
set_option maxHeartbeats 8000000 in
theorem walkTells_main (b : Int) (s t : ByteArray) (h0 : 0 ≤ b) (h1 : b ≤ 255) (hs : s.size ≤ 300) (ht : t.size ≤ 300) (w : World) :
    Calls Try.prog 10 #[.int .u8 b, .string s, .string t] w fun e w' => e = .returned (.bool true) ∧ Below w.heap.size w w' := by
  have hls := bytesOf_length s
  have FS := fx_bd (bytesOf s) (by omega)
  have FK := Aside0.mk FS
  have PSM := Aside0.mk (path_small (bytesOf s) s.size (by omega))
  have hpl := path_length (bytesOf s) s.size
  have PA := Aside0.mk (Path_calls s (by omega))
  have RP := Aside0.mk (refPath_calls s (by omega))
  have BX := Aside0.mk (Box_calls s (by omega))
  have bs := pos_bd (bytesOf s)
  have bt' := pos_bd (bytesOf t)
  rw [bytesOf_length] at bs bt'
  have E1 := Aside0.mk (End_calls s (by omega))
  have RE1 := refEnd_calls s (by omega)
  have RE2 := refEnd_calls t (by omega)
  obtain ⟨⟨ua, ub⟩, hab⟩ : ∃ q, pos (bytesOf s) = q := ⟨_, rfl⟩
  obtain ⟨⟨va, vb⟩, hcd⟩ : ∃ q, pos (bytesOf t) = q := ⟨_, rfl⟩
  rw [hab] at bs E1 RE1
  rw [hcd] at bt' RE2
  have HRE1 := Aside0.mk RE1
  have HRE2 := Aside0.mk RE2
  dsimp only at bs bt'
  have AP1 := Aside0.mk (Apart_at ua ub va vb (nigh_mk (by omega) (by omega) (by omega) (by omega)) (nigh_mk (by omega) (by omega) (by omega) (by omega)))
  have AP2 := Aside0.mk (refApart_calls ua ub va vb (nigh_mk (by omega) (by omega) (by omega) (by omega)) (nigh_mk (by omega) (by omega) (by omega) (by omega)))
  obtain ⟨fr, hfr⟩ : ∃ q, farI ua ub va vb = q := ⟨_, rfl⟩
  rw [hfr] at AP1 AP2
  have ST := Aside0.mk (Step_calls b h0 h1)
  have RS := Aside0.mk (refStep_calls b h0 h1)
  have AL := Aside0.mk alive_calls
  have FX0 : Aside0 (Value.complex .f64 (fz (fx (bytesOf s) 0)) (fz (fy (bytesOf s) 0)) = Value.complex .f64 0 0) := ⟨by show Value.complex .f64 (fz 0) (fz 0) = _; rw [fz_zero]⟩
  have FZ := Aside0.mk fz_zero
  have g1 : decide (300 < (s.size : Int)) = false := decide_eq_false (by omega)
  have g2 : decide (300 < (t.size : Int)) = false := decide_eq_false (by omega)
  obtain ⟨xs, hxs⟩ : ∃ q, path (bytesOf s) s.size = q := ⟨_, rfl⟩
  have HXS := Aside0.mk hxs
  have HXL : Aside0 (xs.length = s.size + 1) := ⟨by rw [← hxs]; exact hpl⟩
  rw [hxs] at PA RP PSM
  have HS := Aside0.mk hs
  clear FS hls hpl bs bt' RE1 RE2 hab hcd hfr hxs h0 h1 hs ht
  go_enter Try.func10, Try.ntmps10
  go_wp2_with fail
  refine (AL.out _).mono ?_
  rintro en w0 ⟨rfl, hb⟩
  have HB0 := Aside0.mk hb
  clear hb
  go_wp2_with fail
  refine (PA.out _).mono ?_
  rintro en w1 ⟨lv, rfl, hRl, hb⟩
  obtain ⟨Al, cl, hl⟩ := Kd.R_slice hRl
  rw [HXL.out] at hl
  subst hl
  have HRl := Aside0.mk (R_PQ hRl PSM.out)
  have HB1 := Aside0.mk hb
  clear hRl hb
  go_wp2_with fail
  refine (PA.out _).mono ?_
  rintro en w2 ⟨mv, rfl, hRm, hb⟩
  obtain ⟨Am, cm, hm⟩ := Kd.R_slice hRm
  rw [HXL.out] at hm
  subst hm
  have HRm := Aside0.mk (R_PQ hRm PSM.out)
  have HB2 := Aside0.mk hb
  clear hRm hb
  go_wp2_with fail
  refine (RP.out _).mono ?_
  rintro en w5 ⟨wv, rfl, hRw, hb⟩
  obtain ⟨Aw, cw, hw⟩ := Kd.R_slice hRw
  rw [HXL.out] at hw
  subst hw
  have HRw := Aside0.mk (R_PQ hRw PSM.out)
  have HB5 := Aside0.mk hb
  clear hRw hb
  go_wp2_with fail
  obtain ⟨W6, hW6⟩ : ∃ x, w5.alloc (.cells #[.slice none 0 0, .slice none 0 0, .slice none 0 0, .slice none 0 0, .slice none 0 0, .slice none 0 0, .slice none 0 0, .slice none 0 0, .slice none 0 0, .slice none 0 0, .slice none 0 0, .slice none 0 0, .slice none 0 0, .slice none 0 0, .slice none 0 0, .slice none 0 0] 51) = x := ⟨_, rfl⟩
  have hblk : W6.heap[w5.heap.size]? = some (.cells (nilL :: nilL :: nilL :: nilL :: nilL :: nilL :: nilL :: nilL :: nilL :: nilL :: nilL :: nilL :: nils).toArray 51 (0, 0)) := by rw [← hW6]; exact heap_alloc_new _ _
  have hb56 : Below w5.heap.size w5 W6 := by rw [← hW6]; exact below_alloc (Below.refl _ _) _
  rw [hW6]
  have hB1 : w.heap.size ≤ w1.heap.size := Nat.le_trans HB0.out.size HB1.out.size
  have hB2 : w.heap.size ≤ w2.heap.size := Nat.le_trans hB1 HB2.out.size
  have hB5 : w.heap.size ≤ w5.heap.size := Nat.le_trans hB2 HB5.out.size
  obtain ⟨bk, hbk⟩ : ∃ b, w5.heap.size = b := ⟨_, rfl⟩
  have hbkB : w.heap.size ≤ bk := by rw [← hbk]; exact hB5
  rw [hbk] at hblk ⊢
  have hl6 : kQ.R 23 W6 w.heap.size (fun _ => True) (.slice Al (s.size + 1) cl) xs := Kd.R_below (Kd.R_below (Kd.R_below (Kd.R_lower HRl.out HB0.out.size) HB2.out) HB5.out) hb56
  have hm6 : kQ.R 23 W6 w.heap.size (fun _ => True) (.slice Am (s.size + 1) cm) xs := Kd.R_below (Kd.R_below (Kd.R_lower HRm.out hB1) HB5.out) hb56
  have hw6 : kQ.R 23 W6 w.heap.size (fun _ => True) (.slice Aw (s.size + 1) cw) xs := Kd.R_below (Kd.R_lower HRw.out hB2) hb56
  have hlm : ∀ q, (Value.slice Al (s.size + 1) cl).ownBlock = some q → (Value.slice Am (s.size + 1) cm).ownBlock ≠ some q := fun q e1 e2 => by
    have h1 := Kd.R_lt HRl.out q e1
    have h2 := Kd.R_base HRm.out q e2
    omega
  have hsz6 : w.heap.size ≤ W6.heap.size := Nat.le_trans hB5 hb56.size
  have hxl9 : xs.length ≤ 900000 := by rw [HXL.out]; have := HS.out; omega
  have AD1 := addPoints_calls bk w.heap.size nilL nilL nilL nilL nilL nilL nilL nilL nilL nilL nilL nilL nils [] [] Al cl xs W6 hblk (Kd.R_nil _ _ _ _ _) (Kd.R_nil _ _ _ _ _) (fun q e => by cases e) (by rw [HXL.out]; exact hl6) (by decide) (by decide) hsz6 hbkB hxl9
  rw [HXL.out] at AD1
  refine AD1.mono ?_
  rintro en w7 ⟨p0, p1, u1, rfl, hblk7, hp0, hp1, hsp1, hu1, hk1⟩
  have hl7 := hk1.nums (Kd.R_nil _ _ _ _ _) (Kd.R_nil _ _ _ _ _) hblk hl6 (b := w.heap.size)
  have hm7 := hk1.nums (Kd.R_nil _ _ _ _ _) (Kd.R_nil _ _ _ _ _) hblk hm6 (b := w.heap.size)
  have hw7 := hk1.nums (Kd.R_nil _ _ _ _ _) (Kd.R_nil _ _ _ _ _) hblk hw6 (b := w.heap.size)
  have hbl7 : Below w.heap.size W6 w7 := hk1.under hsz6 hbkB (fun k e => by cases e) (fun k e => by cases e)
  have HBLK7 := Aside0.mk hblk7
  have HP0 := Aside0.mk hp0
  have HP1 := Aside0.mk hp1
  have HSP1 := Aside0.mk hsp1
  have HU1 := Aside0.mk (Kd.R_lower hu1 hsz6)
  have HL7 := Aside0.mk hl7
  have HM7 := Aside0.mk hm7
  have HW7 := Aside0.mk hw7
  have HLM := Aside0.mk hlm
  have HBKB := Aside0.mk hbkB
  have HX9 := Aside0.mk hxl9
  have HB7 := Aside0.mk (show Below w.heap.size w w7 from ((((HB0.out.trans (HB1.out.mono HB0.out.size)).trans (HB2.out.mono hB1)).trans (HB5.out.mono hB2)).trans (hb56.mono hB5)).trans hbl7)
  clear hblk hb56 hW6 hB5 hB2 hB1 hbk hbkB hl6 hm6 hw6 hlm hsz6 hxl9 AD1 hblk7 hp0 hp1 hsp1 hu1 hk1 hl7 hm7 hw7 hbl7
  go_wp2_with fail
  have AD2 := addPoints_calls bk w.heap.size nilL nilL nilL nilL nilL nilL nilL nilL nilL nilL p0 p1 nils [.slice Al (s.size + 1) cl] [u1] Am cm xs w7 HBLK7.out HP0.out HP1.out HSP1.out (by rw [HXL.out]; exact HM7.out) (by simp) (by simp) HB7.out.size HBKB.out HX9.out
  rw [HXL.out] at AD2
  refine AD2.mono ?_
  rintro en w8 ⟨q0, q1, u2, rfl, hblk8, hq0, hq1, hsq, hu2, hk2⟩
  have HL8 := Aside0.mk (hk2.nums HP0.out HP1.out HBLK7.out HL7.out)
  have HM8 := Aside0.mk (hk2.nums HP0.out HP1.out HBLK7.out HM7.out)
  have HW8 := Aside0.mk (hk2.nums HP0.out HP1.out HBLK7.out HW7.out)
  have HU8 := Aside0.mk (hk2.nums HP0.out HP1.out HBLK7.out HU1.out)
  have HV8 := Aside0.mk (Kd.R_lower hu2 HB7.out.size)
  have HB8 := Aside0.mk (HB7.out.trans (hk2.under HB7.out.size HBKB.out (fun k e => Kd.R_base HP0.out k e) (fun k e => Kd.R_base HP1.out k e)))
  have HBLK8 := Aside0.mk hblk8
  have HQ0 := Aside0.mk hq0
  have HQ1 := Aside0.mk hq1
  clear AD2 hblk8 hq0 hq1 hsq hu2 hk2
  obtain ⟨gl, cl', hgl⟩ : ∃ g c, Value.slice Al (s.size + 1) cl = .slice (some ⟨g, 0, none⟩) (s.size + 1) c := row_head (by rw [HXS.out]; exact HL8.out)
  obtain ⟨gw, cw', hgw⟩ : ∃ g c, Value.slice Aw (s.size + 1) cw = .slice (some ⟨g, 0, none⟩) (s.size + 1) c := row_head (by rw [HXS.out]; exact HW8.out)
  injection hgl with hgl1 _ hgl2
  injection hgw with hgw1 _ hgw2
  subst hgl1 hgl2 hgw1 hgw2
  have HCL : Aside0 (∀ k, k ≤ s.size → w8.cell? ⟨gl, k, none⟩ = some (.complex .f64 (fz (fx (bytesOf s) k)) (fz (fy (bytesOf s) k)))) := ⟨fun k hk => cell_at (R_QP (by rw [HXS.out]; exact HL8.out) (by rw [HXS.out]; exact PSM.out)) k hk⟩
  have HCW : Aside0 (∀ k, k ≤ s.size → w8.cell? ⟨gw, k, none⟩ = some (.complex .f64 (fz (fx (bytesOf s) k)) (fz (fy (bytesOf s) k)))) := ⟨fun k hk => cell_at (R_QP (by rw [HXS.out]; exact HW8.out) (by rw [HXS.out]; exact PSM.out)) k hk⟩
  have c0 := HCW.out 0 (Nat.zero_le _)
  rw [FX0.out] at c0
  have i0 : ((0 : Int) < (s.size : Int) + 1) = True := eq_true (by omega)
  have i1 : ((0 : Int) < ((s.size + 1 : Nat) : Int)) = True := eq_true (by omega)
  go_wp2_with fail
  go_quiet (fail)
  clear c0 i0 i1
  go_wp2_with fail
  go_loopw [11, 12, 58] (fun l h i wr => ∃ k : Nat, k ≤ s.size + 1 ∧ i = .int .i64 k ∧ Aside0 (l = encP (boxLo (bytesOf s) k)) ∧ Aside0 (h = encP (boxHi (bytesOf s) k)) ∧ Aside0 (Drawn0 w8 wr)) (fun _ _ i _ => s.size + 1 - (intOf i).toNat)
  case atStart =>
    refine ⟨0, by omega, rfl, ⟨?_⟩, ⟨?_⟩, ⟨⟨⟨_, rfl⟩⟩⟩⟩ <;> simp [encP, boxLo, boxHi, lo, hi, FZ.out]
  case round =>
    obtain ⟨k, hk, rfl, hl, hh, HD⟩ := hrel
    obtain ⟨rfl⟩ := hl
    obtain ⟨rfl⟩ := hh
    by_cases hlt : k < s.size + 1
    · obtain ⟨nd, hw⟩ := HD.out.out
      have hc1 : wr.cell? ⟨gl, k, none⟩ = some (.complex .f64 (fz (fx (bytesOf s) k)) (fz (fy (bytesOf s) k))) := by rw [hw]; exact HCL.out k (by omega)
      have hc2 : wr.cell? ⟨gw, k, none⟩ = some (.complex .f64 (fz (fx (bytesOf s) k)) (fz (fy (bytesOf s) k))) := by rw [hw]; exact HCW.out k (by omega)
      have b1 := lo_bd (fx (bytesOf s)) 100000 (by omega) k (fun i _ => ⟨(FK.out i).1, (FK.out i).2.1⟩)
      have b2 := lo_bd (fy (bytesOf s)) 100000 (by omega) k (fun i _ => ⟨(FK.out i).2.2.1, (FK.out i).2.2.2⟩)
      have b3 := hi_bd (fx (bytesOf s)) 100000 (by omega) k (fun i _ => ⟨(FK.out i).1, (FK.out i).2.1⟩)
      have b4 := hi_bd (fy (bytesOf s)) 100000 (by omega) k (fun i _ => ⟨(FK.out i).2.2.1, (FK.out i).2.2.2⟩)
      have b5 := FK.out k
      have m1 := fun (ts : Array TypeId) (t : TypeId) (w : World) => run_minf (P := Try.prog) ts t (lo (fx (bytesOf s)) k) (fx (bytesOf s) k) (small100 (by omega) (by omega)) (small100 (by omega) (by omega)) w
      have m2 := fun (ts : Array TypeId) (t : TypeId) (w : World) => run_minf (P := Try.prog) ts t (lo (fy (bytesOf s)) k) (fy (bytesOf s) k) (small100 (by omega) (by omega)) (small100 (by omega) (by omega)) w
      have m3 := fun (ts : Array TypeId) (t : TypeId) (w : World) => run_maxf (P := Try.prog) ts t (hi (fx (bytesOf s)) k) (fx (bytesOf s) k) (small100 (by omega) (by omega)) (small100 (by omega) (by omega)) w
      have m4 := fun (ts : Array TypeId) (t : TypeId) (w : World) => run_maxf (P := Try.prog) ts t (hi (fy (bytesOf s)) k) (fy (bytesOf s) k) (small100 (by omega) (by omega)) (small100 (by omega) (by omega)) w
      have v0 : decide ((k : Int) < ((s.size + 1 : Nat) : Int)) = true := decide_eq_true (by omega)
      have v1 : IntKind.i64.wrap ((k : Int) + 1) = (k : Int) + 1 := IntWalk.i64_in _ (by have := HS.out; omega)
      have v5 : ((k : Int) < (s.size : Int) + 1) = True := eq_true (by omega)
      have v6 : (0 ≤ (k : Int)) = True := eq_true (by omega)
      have v7 : ((k : Int) < ((s.size + 1 : Nat) : Int)) = True := eq_true (by omega)
      clear hw b1 b2 b3 b4 b5
      unfold encP boxLo boxHi
      dsimp only
      go_wp2_with fail
      go_quiet (first
          | (go_at_call 13; (with_reducible refine (exact_yes _ _ _).mono ?_); rintro e w' ⟨rfl, ⟨nd, rfl⟩⟩; exact ⟨rfl, _, World.drewN_drewN _ _ _⟩))
      go_wp2_with fail
      go_quiet (fail)
      go_wp2_with fail
      go_quiet (fail)
      clear hc1 hc2 m1 m2 m3 m4
      go_wp2_with fail
      go_roundw
      case rel => exact ⟨k + 1, by omega, by go_num, ⟨by simp only [encP, boxLo, lo]⟩, ⟨by simp only [encP, boxHi, hi]⟩, ⟨HD.out.step _⟩⟩
      case measure => simp [intOf]; omega
    · obtain rfl : k = s.size + 1 := by omega
      have v0 : decide (((s.size + 1 : Nat) : Int) < ((s.size + 1 : Nat) : Int)) = false := decide_eq_false (by omega)
      have HD9 := Aside0.mk HD.out.below
      have eL : encP (boxLo (bytesOf s) (s.size + 1)) = .complex .f64 (fz (lo (fx (bytesOf s)) (s.size + 1))) (fz (lo (fy (bytesOf s)) (s.size + 1))) := rfl
      have eH : encP (boxHi (bytesOf s) (s.size + 1)) = .complex .f64 (fz (hi (fx (bytesOf s)) (s.size + 1))) (fz (hi (fy (bytesOf s)) (s.size + 1))) := rfl
      have eU : encP (ua, ub) = .complex .f64 (fz ua) (fz ub) := rfl
      have eV : encP (va, vb) = .complex .f64 (fz va) (fz vb) := rfl
      rw [eL, eH] at BX ⊢
      rw [eU] at HRE1 E1
      rw [eV] at HRE2
      obtain ⟨la, hla⟩ : ∃ q, fz (lo (fx (bytesOf s)) (s.size + 1)) = q := ⟨_, rfl⟩
      obtain ⟨lb, hlb⟩ : ∃ q, fz (lo (fy (bytesOf s)) (s.size + 1)) = q := ⟨_, rfl⟩
      obtain ⟨ha, hha⟩ : ∃ q, fz (hi (fx (bytesOf s)) (s.size + 1)) = q := ⟨_, rfl⟩
      obtain ⟨hb', hhb⟩ : ∃ q, fz (hi (fy (bytesOf s)) (s.size + 1)) = q := ⟨_, rfl⟩
      rw [hla, hlb, hha, hhb] at BX ⊢
      clear eL eH eU eV hla hlb hha hhb
      have z1 : ((fr : Int) == fr) = true := by simp
      go_wp2_with fail
      refine (BX.out _).mono ?_
      rintro en w10 ⟨rfl, hb⟩
      have HD10 := Aside0.mk (below_step HD9.out hb)
      clear hb
      go_wp2_with fail
      refine (HRE1.out _).mono ?_
      rintro en w11 ⟨rfl, hb⟩
      have HD11 := Aside0.mk (below_step HD10.out hb)
      clear hb
      go_wp2_with fail
      refine (HRE2.out _).mono ?_
      rintro en w12 ⟨rfl, hb⟩
      have HD12 := Aside0.mk (below_step HD11.out hb)
      clear hb
      go_wp2_with fail
      refine (ST.out _).mono ?_
      rintro en w13 ⟨rfl, hb⟩
      have HD13 := Aside0.mk (below_step HD12.out hb.below)
      clear hb
      go_wp2_with fail
      refine (RS.out _).mono ?_
      rintro en w14 ⟨rfl, hb⟩
      have HD14 := Aside0.mk (below_step HD13.out hb.below)
      clear hb
      go_wp2_with fail
      refine (exact_yes _ _ _).mono ?_
      rintro en w15 ⟨rfl, hb⟩
      have HD15 := Aside0.mk (below_step HD14.out hb.below)
      clear hb
      go_wp2_with fail
      refine (E1.out _).mono ?_
      rintro en w16 ⟨rfl, hb⟩
      have HD16 := Aside0.mk (below_step HD15.out hb)
      clear hb
      go_wp2_with fail
      refine (exact_yes _ _ _).mono ?_
      rintro en w17 ⟨rfl, hb⟩
      have HD17 := Aside0.mk (below_step HD16.out hb.below)
      clear hb
      go_wp2_with fail
      refine (exact_yes _ _ _).mono ?_
      rintro en w18 ⟨rfl, hb⟩
      have HD18 := Aside0.mk (below_step HD17.out hb.below)
      clear hb
      go_wp2_with fail
      refine (exact_yes _ _ _).mono ?_
      rintro en w19 ⟨rfl, hb⟩
      have HD19 := Aside0.mk (below_step HD18.out hb.below)
      clear hb
      go_wp2_with fail
      refine (AP1.out _).mono ?_
      rintro en w20 ⟨rfl, hb⟩
      have HD20 := Aside0.mk (below_step HD19.out hb.below)
      clear hb
      go_wp2_with fail
      refine (AP2.out _).mono ?_
      rintro en w21 ⟨rfl, hb⟩
      have HD21 := Aside0.mk (below_step HD20.out hb.below)
      clear hb
      have hL := Kd.R_below HL8.out HD21.out
      have hM := Kd.R_below HM8.out HD21.out
      have hU := Kd.R_below HU8.out HD21.out
      have hV := Kd.R_below HV8.out HD21.out
      have AP := apartPoints_calls bk w.heap.size q0 q1 [.slice (some ⟨gl, 0, none⟩) (s.size + 1) cl, .slice Am (s.size + 1) cm] [u1, u2] [xs, xs] w21 (blk_below HBLK8.out HD21.out) (Kd.R_below HQ0.out HD21.out) (Kd.R_below HQ1.out HD21.out)
        (fun i hi => by
          rcases i with _ | _ | i
          · exact hL
          · exact hM
          · simp at hi; omega)
        (fun i hi => by
          rcases i with _ | _ | i
          · exact readsP_of_R hU
          · exact readsP_of_R hV
          · simp at hi; omega) rfl rfl
        (fun i j hi hj hne k e1 e2 => by
          rcases i with _ | _ | i
          · rcases j with _ | _ | j
            · exact hne rfl
            · exact HLM.out k e1 e2
            · simp at hj; omega
          · rcases j with _ | _ | j
            · exact HLM.out k e2 e1
            · exact hne rfl
            · simp at hj; omega
          · simp at hi; omega) (by simp) (fun i => by
          rcases i with _ | _ | i
          · exact HX9.out
          · exact HX9.out
          · simp) (Nat.le_trans HB8.out.size HD21.out.size)
      have HAP := Aside0.mk AP
      clear AP hL hM hU hV
      go_wp2_with fail
      refine HAP.out.mono ?_
      rintro en w22 ⟨rfl, hbz⟩
      have HBZ := Aside0.mk ((HB8.out.trans (HD21.out.mono HB8.out.size)).trans hbz)
      clear hbz
      go_wp2_with fail
      go_ret
      exact ⟨rfl, HBZ.out⟩
theorem WalkTells_all (a0 : Int) (a1 a2 : ByteArray) (w : World) (w0 : (Lit.int .u8 a0).wf = true) (w1 : a1.size ≤ 140737488351232) (w2 : a2.size ≤ 140737488351232) :
    Calls Try.prog 10 #[.int .u8 a0, .string a1, .string a2] w fun e w' => e = .returned (.bool true) ∧ Below w.heap.size w w' := by
  obtain ⟨h0, h1⟩ := wf_byte a0 w0
  by_cases hs : 300 < a1.size
  · have g1 : decide (300 < (a1.size : Int)) = true := decide_eq_true (by omega)
    have AL := Aside0.mk alive_calls
    clear w0 w1 w2 h0 h1 hs
    go_enter Try.func10, Try.ntmps10
    go_wp2_with fail
    refine (AL.out _).mono ?_
    rintro en wx ⟨rfl, hb⟩
    have HBx := Aside0.mk hb
    clear hb
    go_wp2_with fail
    go_ret
    exact ⟨rfl, HBx.out⟩
  by_cases ht : 300 < a2.size
  · have g1 : decide (300 < (a1.size : Int)) = false := decide_eq_false (by omega)
    have g2 : decide (300 < (a2.size : Int)) = true := decide_eq_true (by omega)
    have AL := Aside0.mk alive_calls
    clear w0 w1 w2 h0 h1 hs ht
    go_enter Try.func10, Try.ntmps10
    go_wp2_with fail
    refine (AL.out _).mono ?_
    rintro en wx ⟨rfl, hb⟩
    have HBx := Aside0.mk hb
    clear hb
    go_wp2_with fail
    go_ret
    exact ⟨rfl, HBx.out⟩
  exact walkTells_main a0 a1 a2 h0 h1 (by omega) (by omega) w
end Go.Proofs.Ytckamijajnmbjaa.P
