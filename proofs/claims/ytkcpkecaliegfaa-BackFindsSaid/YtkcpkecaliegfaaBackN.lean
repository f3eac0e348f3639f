/- The statement BackNaive: places rise, at each the pattern stands, and nowhere else: its walk. Conditions: the row's. -/
import Derived.Test.YtkcpkecaliegfaaNaiveP
set_option linter.unusedVariables false
set_option linter.unusedSimpArgs false
namespace Go.Proofs.Ytkcpkecaliegfaa.P
open Go.RowKit Go.Proofs.YtkcpkecaliegfaaW.PrintWords Go.Proofs.YtkcpkecaliegfaaW.PrintLast Go.Proofs.YtkcpkecaliegfaaW.PrintMore

theorem alive5_calls (w : World) : Calls Try.prog 21 #[] w fun e w' => e = .returned (.bool true) ∧ Below w.heap.size w w' := by
  obtain ⟨k, h⟩ := alive5_ev.rounds
  exact scriniumlaw5_alive.calls k true w h
theorem bool_zero5 (w : World) : (zeroValue 4).run Try.prog w = .ok (.bool false) w := by kernel_rfl
theorem rd_rowx (xs : List S34) (j : Nat) (h : j < xs.length) : rd_T34 xs (j : Int) = xs[j] := rd_row xs j h

set_option maxRecDepth 100000 in
set_option maxHeartbeats 4000000 in
theorem naive_main (A0 : Option Addr) (c0 : Nat) (l0 : List ByteArray) (p : ByteArray) (w : World) (hC : Kd.C Kd.string w A0 l0.length l0) (hc : l0.length ≤ c0) (hs : ∀ s ∈ l0, s.size ≤ 140737488351232) (hl : l0.length * 16 ≤ 140737488351232) (hp : p.size ≤ 20) (hf : fewB l0 = true) :
    Calls Try.prog 8 #[.slice A0 l0.length c0, .string p] w fun e w' => e = .returned (.bool true) ∧ Below w.heap.size w w' := by
  have t1 : decide ((20 : Int) < (p.size : Int)) = false := decide_eq_false (by omega)
  have hfd := few_doc l0 hf
  have FC := Aside0.mk (scriniumlaw3_Few.calls (l0.length + 1) A0 c0 l0 true w hC hc (by rw [few_all l0 hs hl _ (Nat.le_refl _), hf]))
  have AL := Aside0.mk alive5_calls
  obtain ⟨kn, hkn⟩ := (naive_ok l0 p (by omega) (fun d => by have := hfd.2 d; omega)).rounds
  obtain ⟨R, hR⟩ : ∃ R, naiveOf l0 (bytesOf p) = R := ⟨_, rfl⟩
  have HRR := Aside0.mk hR
  rw [hR] at hkn
  have NV := Aside0.mk (fun w' (hr : Kd.C Kd.string w' A0 l0.length l0) => back_Naive.calls kn p A0 c0 l0 R w' hr hc hkn)
  have hrise : R.Pairwise riseR := by rw [← hR]; exact naive_rise l0 _
  have KF := Aside0.mk (fun k hk => keys_fresh R hrise k hk)
  have RI := Aside0.mk (fun i j (hi : i < R.length) (hj : j < R.length) (h : i < j) => (List.pairwise_iff_getElem.1 hrise) i j hi hj h)
  have ML := Aside0.mk (fun D i hD hi => mem_naive l0 (bytesOf p) D i hD hi)
  rw [hR] at ML
  have DZ := Aside0.mk hfd
  have HRl : Aside0 (R.length ≤ 1000000) := ⟨by
    have h1 := naive_len l0 (bytesOf p)
    rw [hR] at h1
    have h2 : occOf l0 (bytesOf p) ≤ (allRows l0).length := List.countP_le_length
    have h3 := rows_lim l0 160 hfd.2 l0.length
    have h4 : l0.length * (160 + 1) ≤ 14 * 161 := Nat.mul_le_mul hfd.1 (Nat.le_refl _)
    unfold allRows at h2
    omega⟩
  have HR := Aside0.mk hC
  have hmm := @run_makeMap Try.prog
  have hu34 := Try.underlying34
  have PZ := Aside0.mk hp
  clear hC hc hs hl hp hf hfd hkn hrise hR
  go_enter Try.func8, Try.ntmps8
  go_wp2_with fail
  refine FC.out.mono ?_
  rintro en w1 ⟨rfl, hb⟩
  have HB1 := Aside0.mk hb.below
  clear hb
  go_wp2_with fail
  refine (AL.out _).mono ?_
  rintro en w2 ⟨rfl, hb⟩
  have HB2 := Aside0.mk (below_step HB1.out hb)
  clear hb
  go_wp2_with fail
  clear t1
  have HS2 : Aside0 (IsSet (w2.alloc (.map #[] 0)) w2.heap.size ((keysOf (R.take 0)).map encRow)) := ⟨isSet_new w2⟩
  obtain ⟨W3, hW3⟩ : ∃ W3, w2.alloc (.map #[] 0) = W3 := ⟨_, rfl⟩
  have HB3 : Aside0 (Below w.heap.size w W3) := ⟨by rw [← hW3]; exact below_alloc HB2.out _⟩
  obtain ⟨B, hB⟩ : ∃ B, w2.heap.size = B := ⟨_, rfl⟩
  have HBB : Aside0 (w.heap.size ≤ B) := ⟨by rw [← hB]; exact HB2.out.size⟩
  rw [hW3, hB] at HS2
  rw [hW3, hB]
  clear hW3 hB hmm
  refine (NV.out _ (Kd.C_below HR.out HB3.out)).mono ?_
  rintro en w4 ⟨vr, rfl, ho, hb⟩
  have HS4 := Aside0.mk (isSet_below HS2.out hb (isSet_lt HS2.out))
  have HO4 := Aside0.mk (Kd.R_lower ho HB3.out.size)
  have HB4 := Aside0.mk (below_step HB3.out hb)
  obtain ⟨Ar, cr, hvr⟩ := Kd.R_slice ho
  subst hvr
  clear ho hb HS2 HB3
  go_wp2_with fail
  go_loopw [31] (fun i wr => ∃ k : Nat, k ≤ R.length ∧ i = .int .i64 k ∧ Aside0 (IsSet wr B ((keysOf (R.take k)).map encRow)) ∧ Aside0 (k34.R 34 wr w.heap.size (fun _ => True) (.slice Ar R.length cr) R) ∧ Aside0 (Below w.heap.size w wr)) (fun i _ => R.length - (intOf i).toNat)
  case atStart => exact ⟨0, Nat.zero_le _, rfl, HS4, HO4, HB4⟩
  case round =>
    obtain ⟨k, hk, rfl, HS, HO, HB⟩ := hrel
    by_cases hlt : k < R.length
    · obtain ⟨ad, hA, hx0, hx1⟩ := at_T34 (Kd.R_reads' HO.out).2.2 (k : Int) (by omega) (by omega)
      subst hA
      have hfr := KF.out k hlt
      have hks := keys_succ R k hlt
      rw [rd_rowx R k hlt, Int.toNat_natCast] at hx0 hx1
      have c1 : decide ((k : Int) < (R.length : Int)) = true := decide_eq_true (by omega)
      have v1 : ((k : Int) < (R.length : Int)) = True := eq_true (by omega)
      have v2 : (0 ≤ (k : Int)) = True := eq_true (by omega)
      have v3 : IntKind.i64.wrap ((k : Int) + 1) = (k : Int) + 1 := IntWalk.i64_in _ (by have := HRl.out; omega)
      cases k with
      | zero =>
        have e0 : ad.add (0 * 2) = ad := rfl
        rw [e0] at hx0 hx1
        clear e0
        obtain ⟨b0, hb0⟩ : ∃ b0, R[0].f0 = b0 := ⟨_, rfl⟩
        obtain ⟨b1, hb1⟩ : ∃ b1, R[0].f1 = b1 := ⟨_, rfl⟩
        unfold keyR at hfr hks
        rw [hb0] at hx0 hfr hks
        rw [hb1] at hx1 hfr hks
        clear hb0 hb1
        obtain ⟨W2, hW2⟩ : ∃ W2, wr.alloc (.cells #[.int .i64 b0, .int .i64 b1] 34) = W2 := ⟨_, rfl⟩
        have z0 : W2.cell? ⟨wr.heap.size, 0, none⟩ = some (.int .i64 b0) := by rw [← hW2]; exact cell_new wr _ _ 0 _ rfl
        have z1 : W2.cell? ⟨wr.heap.size, 1, none⟩ = some (.int .i64 b1) := by rw [← hW2]; exact cell_new wr _ _ 1 _ rfl
        have hs2 : IsSet W2 B ((keysOf (R.take 0)).map encRow) := by rw [← hW2]; exact isSet_below HS.out (below_alloc (Below.refl _ _) _) (isSet_lt HS.out)
        have HO2 : Aside0 (k34.R 34 W2 w.heap.size (fun _ => True) (.slice (some ad) R.length cr) R) := ⟨by rw [← hW2]; exact Kd.R_alloc HO.out _⟩
        have HB2 : Aside0 (Below w.heap.size w W2) := ⟨by rw [← hW2]; exact below_alloc HB.out _⟩
        obtain ⟨W5, hst, hst0, hs5, hu⟩ := store_drew (T := 32) (row_key) Try.underlying32 hs2 (b0, b1) hfr
        rw [← hks] at hs5
        have HS5 := Aside0.mk hs5
        have HO5 := Aside0.mk (hu.R hs2 HO2.out)
        have HB5 := Aside0.mk (hu.below HB2.out HBB.out)
        have W2E := Aside0.mk hW2
        unfold encRow at hst hst0
        clear hs5 hu hs2 hW2 hfr hks v3
        have v3 : IntKind.i64.wrap (0 + 1) = 1 := by decide
        go_wp2_with fail
        clear hx0 hx1
        rw [W2E.out]
        go_quiet (fail)
        go_wp2_with fail
        go_roundw
        case rel => exact ⟨1, by omega, rfl, ⟨HS5.out⟩, ⟨(by (with_reducible repeat (first | apply Kd.R_alloc | apply Kd.R_drewN | apply Kd.R_drew)); exact HO5.out)⟩, ⟨by repeat (first | (with_reducible first | exact HB5.out | apply below_alloc | apply pw_below_drewN | apply below_drew1) | exact HB5.out)⟩⟩
        case measure => simp [intOf]; omega
      | succ q =>
        obtain ⟨ad2, hA2, hy0, hy1⟩ := at_T34 (Kd.R_reads' HO.out).2.2 (q : Int) (by omega) (by omega)
        obtain rfl : ad = ad2 := by injection hA2
        rw [rd_rowx R q (by omega), Int.toNat_natCast] at hy0 hy1
        have hri := RI.out q (q + 1) (by omega) hlt (by omega)
        unfold riseR at hri
        unfold keyR at hfr hks
        obtain ⟨a0, ha0⟩ : ∃ a0, R[q].f0 = a0 := ⟨_, rfl⟩
        obtain ⟨a1, ha1⟩ : ∃ a1, R[q].f1 = a1 := ⟨_, rfl⟩
        obtain ⟨b0, hb0⟩ : ∃ b0, R[q + 1].f0 = b0 := ⟨_, rfl⟩
        obtain ⟨b1, hb1⟩ : ∃ b1, R[q + 1].f1 = b1 := ⟨_, rfl⟩
        rw [ha0] at hy0 hri
        rw [ha1] at hy1 hri
        rw [hb0] at hx0 hri hfr hks
        rw [hb1] at hx1 hri hfr hks
        clear ha0 ha1 hb0 hb1
        have t2 : decide (0 < (q : Int) + 1) = true := decide_eq_true (by omega)
        have t3 : decide (b0 < a0) = false := decide_eq_false (by omega)
        have v4 : IntKind.i64.wrap (q : Int) = (q : Int) := IntWalk.i64_in _ (by have := HRl.out; omega)
        have v5 : ((q : Int) < (R.length : Int)) = True := eq_true (by omega)
        clear v3
        have v3 : IntKind.i64.wrap ((q : Int) + 1 + 1) = (q : Int) + 1 + 1 := IntWalk.i64_in _ (by have := HRl.out; omega)
        have v6 : (0 ≤ (q : Int)) = True := eq_true (by omega)
        obtain ⟨W2, hW2⟩ : ∃ W2, wr.alloc (.cells #[.int .i64 b0, .int .i64 b1] 34) = W2 := ⟨_, rfl⟩
        have z0 : W2.cell? ⟨wr.heap.size, 0, none⟩ = some (.int .i64 b0) := by rw [← hW2]; exact cell_new wr _ _ 0 _ rfl
        have z1 : W2.cell? ⟨wr.heap.size, 1, none⟩ = some (.int .i64 b1) := by rw [← hW2]; exact cell_new wr _ _ 1 _ rfl
        have y0 : W2.cell? (ad.add (q * 2)) = some (.int .i64 a0) := by rw [← hW2]; exact pw_cell_below (below_alloc (Below.refl _ _) _) hy0
        have y1 : W2.cell? ⟨(ad.add (q * 2)).block, (ad.add (q * 2)).off + 1, none⟩ = some (.int .i64 a1) := by rw [← hW2]; exact pw_cell_below (below_alloc (Below.refl _ _) _) hy1
        have hs2 : IsSet W2 B ((keysOf (R.take (q + 1))).map encRow) := by rw [← hW2]; exact isSet_below HS.out (below_alloc (Below.refl _ _) _) (isSet_lt HS.out)
        have HO2 : Aside0 (k34.R 34 W2 w.heap.size (fun _ => True) (.slice (some ad) R.length cr) R) := ⟨by rw [← hW2]; exact Kd.R_alloc HO.out _⟩
        have HB2 : Aside0 (Below w.heap.size w W2) := ⟨by rw [← hW2]; exact below_alloc HB.out _⟩
        obtain ⟨W5, hst, hst0, hs5, hu⟩ := store_drew (T := 32) (row_key) Try.underlying32 hs2 (b0, b1) hfr
        rw [← hks] at hs5
        have HS5 := Aside0.mk hs5
        have HO5 := Aside0.mk (hu.R hs2 HO2.out)
        have HB5 := Aside0.mk (hu.below HB2.out HBB.out)
        have W2E := Aside0.mk hW2
        unfold encRow at hst hst0
        clear hs5 hu hs2 hW2 hfr hks
        go_wp2_with fail
        clear hx0 hx1 hy0 hy1
        rw [W2E.out]
        by_cases he : a0 = b0
        · have t4 : (a0 == b0) = true := beq_iff_eq.2 he
          have t5 : decide (b1 ≤ a1) = false := decide_eq_false (by omega)
          clear hri he
          go_quiet (fail)
          go_wp2_with fail
          go_roundw
          case rel => exact ⟨q + 1 + 1, by omega, by go_num, ⟨HS5.out⟩, ⟨(by (with_reducible repeat (first | apply Kd.R_alloc | apply Kd.R_drewN | apply Kd.R_drew)); exact HO5.out)⟩, ⟨by repeat (first | (with_reducible first | exact HB5.out | apply below_alloc | apply pw_below_drewN | apply below_drew1) | exact HB5.out)⟩⟩
          case measure => simp [intOf]; omega
        · have t4 : (a0 == b0) = false := beq_eq_false_iff_ne.2 he
          clear hri he
          go_quiet (fail)
          go_wp2_with fail
          go_roundw
          case rel => exact ⟨q + 1 + 1, by omega, by go_num, ⟨HS5.out⟩, ⟨(by (with_reducible repeat (first | apply Kd.R_alloc | apply Kd.R_drewN | apply Kd.R_drew)); exact HO5.out)⟩, ⟨by repeat (first | (with_reducible first | exact HB5.out | apply below_alloc | apply pw_below_drewN | apply below_drew1) | exact HB5.out)⟩⟩
          case measure => simp [intOf]; omega
    · obtain rfl : k = R.length := by omega
      rw [List.take_length] at HS
      have c1 : decide ((R.length : Int) < (R.length : Int)) = false := decide_eq_false (by omega)
      clear hlt hk
      go_wp2_with fail
      obtain ⟨wo, hwo⟩ : ∃ wo : World, wo = wr := ⟨_, rfl⟩
      rw [← hwo] at HS HB
      rw [← hwo]
      clear hwo HO
      go_loopw [76] (fun i wq => ∃ D : Nat, D ≤ l0.length ∧ i = .int .i64 D ∧ Aside0 (IsSet wq B ((keysOf R).map encRow)) ∧ Aside0 (Below w.heap.size w wq)) (fun i _ => l0.length - (intOf i).toNat)
      case atStart => exact ⟨0, Nat.zero_le _, rfl, HS, HB⟩
      case round =>
        obtain ⟨D, hD, rfl, HSD, HBD⟩ := hrel
        by_cases hlt : D < l0.length
        · obtain ⟨ad, hA, hx0⟩ := Kd.at_string (Kd.C_below HR.out HBD.out) (D : Int) (by omega) (by omega)
          subst hA
          have hsz := DZ.out.2 (D : Int)
          have hml := fun i hi => ML.out D i hlt hi
          have hdoc : rdOf ByteArray.empty l0 (D : Int) = docAt l0 (D : Int) := rfl
          rw [hdoc, Int.toNat_natCast] at hx0
          obtain ⟨S, hS⟩ : ∃ S, docAt l0 (D : Int) = S := ⟨_, rfl⟩
          rw [hS] at hx0 hsz hml
          have MLS := Aside0.mk hml
          have SZ := Aside0.mk hsz
          have c1 : decide ((D : Int) < (l0.length : Int)) = true := decide_eq_true (by omega)
          have v1 : ((D : Int) < (l0.length : Int)) = True := eq_true (by omega)
          have v2 : (0 ≤ (D : Int)) = True := eq_true (by omega)
          have v3 : IntKind.i64.wrap ((D : Int) + 1) = (D : Int) + 1 := IntWalk.i64_in _ (by have := DZ.out.1; omega)
          clear hdoc hS hml hsz
          go_wp2_with fail
          clear hx0 v1 v2
          go_loopw [11] (fun i wq => ∃ k : Nat, k ≤ S.size + 1 ∧ i = .int .i64 k ∧ Aside0 (IsSet wq B ((keysOf R).map encRow)) ∧ Aside0 (Below w.heap.size w wq)) (fun i _ => S.size + 1 - (intOf i).toNat)
          case atStart => exact ⟨0, Nat.zero_le _, rfl, ⟨HSD.out⟩, HBD⟩
          case round =>
            obtain ⟨k, hk, rfl, HSK, HBK⟩ := hrel
            by_cases hks : k ≤ S.size
            · have hm := MLS.out k hks
              have hlb := fun v hv => lookup_bool (T := 32) (E := 4) (row_key) Try.underlying32 bool_zero5 HSK.out ((D : Int), (k : Int)) v hv
              have c2 : decide ((k : Int) ≤ (S.size : Int)) = true := decide_eq_true (by omega)
              have v4 : IntKind.i64.wrap ((k : Int) + (p.size : Int)) = (k : Int) + (p.size : Int) := IntWalk.i64_in _ (by have := SZ.out; have := PZ.out; omega)
              have v5 : IntKind.i64.wrap ((k : Int) + 1) = (k : Int) + 1 := IntWalk.i64_in _ (by have := SZ.out; omega)
              unfold encRow at hlb
              by_cases hfit : k + p.size ≤ S.size
              · have hpc := pre_cut S p k hfit
                have c3 : decide ((k : Int) + (p.size : Int) ≤ (S.size : Int)) = true := decide_eq_true (by omega)
                have v6 : ((k : Int) + (p.size : Int) ≤ (S.size : Int)) = True := eq_true (by omega)
                have v7 : (0 ≤ (k : Int)) = True := eq_true (by omega)
                have v8 : ((k : Int) ≤ (k : Int) + (p.size : Int)) = True := eq_true (by omega)
                have v9 : ((k : Int) + (p.size : Int)).toNat = k + p.size := by omega
                cases hb : preP ((bytesOf S).drop k) (bytesOf p) with
                | true =>
                  rw [hb] at hm hpc
                  obtain ⟨hlk, hlk0⟩ := hlb true hm
                  have c4 : ((S.extract k (k + p.size)).toList == p.toList) = true := hpc.symm
                  clear hm hpc hb hfit hlt hlb
                  go_wp2_with fail
                  go_quiet (fail)
                  clear v6 v7 v8 v9
                  go_wp2_with fail
                  go_roundw
                  case rel => exact ⟨k + 1, by omega, by go_num, ⟨HSK.out⟩, ⟨by repeat (first | (with_reducible first | exact HBK.out | apply below_alloc | apply pw_below_drewN | apply below_drew1) | exact HBK.out)⟩⟩
                  case measure => simp [intOf]; omega
                | false =>
                  rw [hb] at hm hpc
                  obtain ⟨hlk, hlk0⟩ := hlb false hm
                  have c4 : ((S.extract k (k + p.size)).toList == p.toList) = false := hpc.symm
                  clear hm hpc hb hfit hlt hlb
                  go_wp2_with fail
                  go_quiet (fail)
                  clear v6 v7 v8 v9
                  go_wp2_with fail
                  go_roundw
                  case rel => exact ⟨k + 1, by omega, by go_num, ⟨HSK.out⟩, ⟨by repeat (first | (with_reducible first | exact HBK.out | apply below_alloc | apply pw_below_drewN | apply below_drew1) | exact HBK.out)⟩⟩
                  case measure => simp [intOf]; omega
              · have hpf := pre_far S p k hks hfit
                rw [hpf] at hm
                have c3 : decide ((k : Int) + (p.size : Int) ≤ (S.size : Int)) = false := decide_eq_false (by omega)
                obtain ⟨hlk, hlk0⟩ := hlb false hm
                clear hm hpf hfit hlt hlb
                go_wp2_with fail
                go_quiet (fail)
                go_wp2_with fail
                go_roundw
                case rel => exact ⟨k + 1, by omega, by go_num, ⟨HSK.out⟩, ⟨by repeat (first | (with_reducible first | exact HBK.out | apply below_alloc | apply pw_below_drewN | apply below_drew1) | exact HBK.out)⟩⟩
                case measure => simp [intOf]; omega
            · obtain rfl : k = S.size + 1 := by omega
              have c2 : decide (((S.size : Int) + 1) ≤ (S.size : Int)) = false := decide_eq_false (by omega)
              go_wp2_with fail
              go_roundw
              case rel => exact ⟨D + 1, by omega, by go_num, ⟨HSK.out⟩, HBK⟩
              case measure => simp [intOf]; omega
        · obtain rfl : D = l0.length := by omega
          have c1 : decide ((l0.length : Int) < (l0.length : Int)) = false := decide_eq_false (by omega)
          have hln := fun ty => len_set (P := Try.prog) (T := 32) Try.underlying32 HSD.out ty
          have hkl : (keysOf R).length = R.length := by unfold keysOf; rw [List.length_map]
          rw [hkl] at hln
          clear hkl hlt
          go_wp2_with fail
          go_ret
          exact ⟨by first | rfl | simp, HBD.out⟩
set_option maxRecDepth 100000 in
theorem naive_long (A0 : Option Addr) (c0 : Nat) (l0 : List ByteArray) (p : ByteArray) (w : World) (hC : Kd.C Kd.string w A0 l0.length l0) (hc : l0.length ≤ c0) (hs : ∀ s ∈ l0, s.size ≤ 140737488351232) (hl : l0.length * 16 ≤ 140737488351232) (hp : 20 < p.size) (hf : fewB l0 = true) :
    Calls Try.prog 8 #[.slice A0 l0.length c0, .string p] w fun e w' => e = .returned (.bool true) ∧ Below w.heap.size w w' := by
  have t1 : decide ((20 : Int) < (p.size : Int)) = true := decide_eq_true (by omega)
  have FC := Aside0.mk (scriniumlaw3_Few.calls (l0.length + 1) A0 c0 l0 true w hC hc (by rw [few_all l0 hs hl _ (Nat.le_refl _), hf]))
  have AL := Aside0.mk alive5_calls
  clear hC hc hs hl hp hf
  go_enter Try.func8, Try.ntmps8
  go_wp2_with fail
  refine FC.out.mono ?_
  rintro en w1 ⟨rfl, hb⟩
  have HB1 := Aside0.mk hb.below
  clear hb
  go_wp2_with fail
  refine (AL.out _).mono ?_
  rintro en w2 ⟨rfl, hb⟩
  have HB2 := Aside0.mk (below_step HB1.out hb)
  clear hb
  go_wp2_with fail
  go_ret
  exact ⟨rfl, HB2.out⟩
set_option maxRecDepth 100000 in
theorem naive_few (A0 : Option Addr) (c0 : Nat) (l0 : List ByteArray) (p : ByteArray) (w : World) (hC : Kd.C Kd.string w A0 l0.length l0) (hc : l0.length ≤ c0) (hs : ∀ s ∈ l0, s.size ≤ 140737488351232) (hl : l0.length * 16 ≤ 140737488351232) (hf : fewB l0 = false) :
    Calls Try.prog 8 #[.slice A0 l0.length c0, .string p] w fun e w' => e = .returned (.bool true) ∧ Below w.heap.size w w' := by
  have FC := Aside0.mk (scriniumlaw3_Few.calls (l0.length + 1) A0 c0 l0 false w hC hc (by rw [few_all l0 hs hl _ (Nat.le_refl _), hf]))
  have AL := Aside0.mk alive5_calls
  clear hC hc hs hl hf
  go_enter Try.func8, Try.ntmps8
  go_wp2_with fail
  refine FC.out.mono ?_
  rintro en w1 ⟨rfl, hb⟩
  have HB1 := Aside0.mk hb.below
  clear hb
  go_wp2_with fail
  refine (AL.out _).mono ?_
  rintro en w2 ⟨rfl, hb⟩
  have HB2 := Aside0.mk (below_step HB1.out hb)
  clear hb
  go_wp2_with fail
  go_ret
  exact ⟨rfl, HB2.out⟩
theorem BackNaive_all (A0 : Option Addr) (c0 : Nat) (l0 : List ByteArray) (a1 : ByteArray) (w : World) (hC : Kd.C Kd.string w A0 l0.length l0) (hc : l0.length ≤ c0) (hs : ∀ s ∈ l0, s.size ≤ 140737488351232) (hl : l0.length * 16 ≤ 140737488351232) (_ : a1.size ≤ 140737488351232) :
    Calls Try.prog 8 #[.slice A0 l0.length c0, .string a1] w fun e w' => e = .returned (.bool true) ∧ Below w.heap.size w w' := by
  cases hf : fewB l0 with
  | false => exact naive_few A0 c0 l0 a1 w hC hc hs hl hf
  | true =>
    by_cases hp : a1.size ≤ 20
    · exact naive_main A0 c0 l0 a1 w hC hc hs hl hp hf
    · exact naive_long A0 c0 l0 a1 w hC hc hs hl (by omega) hf
end Go.Proofs.Ytkcpkecaliegfaa.P
