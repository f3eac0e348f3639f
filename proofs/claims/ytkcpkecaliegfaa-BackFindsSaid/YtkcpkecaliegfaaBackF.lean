/- The statement BackFinds: a piece of a text is found just where it stands: its walk. Conditions: the row's. -/
import Derived.Test.YtkcpkecaliegfaaFindP
import Derived.Test.YtkcpkecaliegfaaBackN
set_option linter.unusedVariables false
set_option linter.unusedSimpArgs false
namespace Go.Proofs.Ytkcpkecaliegfaa.P
open Go.RowKit Go.Proofs.YtkcpkecaliegfaaW.PrintWords Go.Proofs.YtkcpkecaliegfaaW.PrintLast Go.Proofs.YtkcpkecaliegfaaW.PrintMore

set_option maxRecDepth 100000 in
set_option maxHeartbeats 4000000 in
theorem find_main (A0 : Option Addr) (c0 : Nat) (l0 : List ByteArray) (a1 a2 a3 : Int) (w : World) (hC : Kd.C Kd.string w A0 l0.length l0) (hc : l0.length ≤ c0) (hs : ∀ s ∈ l0, s.size ≤ 140737488351232) (hl : l0.length * 16 ≤ 140737488351232) (hf : fewB l0 = true) (hR : rightB l0 = true) (hz : 0 < l0.length) :
    Calls Try.prog 3 #[.slice A0 l0.length c0, .int .i64 a1, .int .i64 a2, .int .i64 a3] w fun e w' => e = .returned (.bool true) ∧ Below w.heap.size w w' := by
  have hll := right_len hR
  obtain ⟨m1, hm1, b1, D, hD, hDe⟩ := rem_at a1 l0.length ⟨hz, by omega⟩
  obtain ⟨S, hS⟩ : ∃ S, docAt l0 (D : Int) = S := ⟨_, rfl⟩
  have hsz : S.size ≤ 40 := by rw [← hS]; exact right_doc hR _
  obtain ⟨m2, hm2, b2, I, hI, hIe⟩ := rem_at a2 (S.size + 1) ⟨by omega, by omega⟩
  obtain ⟨m3, hm3, b3, K, hK, hKe⟩ := rem_at a3 (S.size - I + 1) ⟨by omega, by omega⟩
  have l1 : m1 ≤ 1000 := by rw [← hm1]; have := Int.tmod_lt_of_pos a1 (show (0 : Int) < (l0.length : Int) by omega); omega
  have l2 : m2 ≤ 1000 := by rw [← hm2]; have := Int.tmod_lt_of_pos a2 (show (0 : Int) < ((S.size + 1 : Nat) : Int) by omega); omega
  have l3 : m3 ≤ 1000 := by rw [← hm3]; have := Int.tmod_lt_of_pos a3 (show (0 : Int) < ((S.size - I + 1 : Nat) : Int) by omega); omega
  have e2 : ((S.size + 1 : Nat) : Int) = (S.size : Int) + 1 := rfl
  have e3 : ((S.size - I + 1 : Nat) : Int) = (S.size : Int) - (I : Int) + 1 := by omega
  rw [e2] at hm2 hIe
  rw [e3] at hm3 hKe
  have g1 : ((l0.length : Int) == 0) = false := beq_eq_false_iff_ne.2 (by omega)
  have g2 : ((S.size : Int) + 1 == 0) = false := beq_eq_false_iff_ne.2 (by omega)
  have g3 : ((S.size : Int) - (I : Int) + 1 == 0) = false := beq_eq_false_iff_ne.2 (by omega)
  have v1 : IntKind.i64.wrap (m1 + (l0.length : Int)) = m1 + (l0.length : Int) := IntWalk.i64_in _ (by omega)
  have v2 : ((D : Int) < (l0.length : Int)) = True := eq_true (by omega)
  have v3 : (0 ≤ (D : Int)) = True := eq_true (by omega)
  have v4 : IntKind.i64.wrap ((S.size : Int) + 1) = (S.size : Int) + 1 := IntWalk.i64_in _ (by omega)
  have v5 : IntKind.i64.wrap (m2 + (S.size : Int)) = m2 + (S.size : Int) := IntWalk.i64_in _ (by omega)
  have v6 : IntKind.i64.wrap (m2 + (S.size : Int) + 1) = m2 + ((S.size : Int) + 1) := by rw [IntWalk.i64_in _ (by omega)]; omega
  have v7 : IntKind.i64.wrap ((S.size : Int) - (I : Int)) = (S.size : Int) - (I : Int) := IntWalk.i64_in _ (by omega)
  have v8 : IntKind.i64.wrap ((S.size : Int) - (I : Int) + 1) = (S.size : Int) - (I : Int) + 1 := IntWalk.i64_in _ (by omega)
  have v9 : IntKind.i64.wrap (m3 + (S.size : Int)) = m3 + (S.size : Int) := IntWalk.i64_in _ (by omega)
  have v10 : IntKind.i64.wrap (m3 + (S.size : Int) - (I : Int)) = m3 + (S.size : Int) - (I : Int) := IntWalk.i64_in _ (by omega)
  have v11 : IntKind.i64.wrap (m3 + (S.size : Int) - (I : Int) + 1) = m3 + ((S.size : Int) - (I : Int) + 1) := by rw [IntWalk.i64_in _ (by omega)]; omega
  have v12 : IntKind.i64.wrap ((I : Int) + (K : Int)) = (I : Int) + (K : Int) := IntWalk.i64_in _ (by omega)
  have v13 : ((I : Int) + (K : Int) ≤ (S.size : Int)) = True := eq_true (by omega)
  have v14 : (0 ≤ (I : Int)) = True := eq_true (by omega)
  have v15 : ((I : Int) ≤ (I : Int) + (K : Int)) = True := eq_true (by omega)
  have v16 : ((I : Int) + (K : Int)).toNat = I + K := by omega
  obtain ⟨p, hp⟩ : ∃ p, S.extract I (I + K) = p := ⟨_, rfl⟩
  have hps : p.size ≤ 40 := by rw [← hp, ByteArray.size_extract]; omega
  have hocc : 0 < occOf l0 (bytesOf p) := by rw [← hp, ← hS]; exact find_occ l0 D I (I + K) hD (by omega) (by rw [hS]; omega)
  obtain ⟨ad, hA, hx0⟩ := Kd.at_string hC (D : Int) (by omega) (by omega)
  have hdoc : rdOf ByteArray.empty l0 (D : Int) = docAt l0 (D : Int) := rfl
  rw [hdoc, Int.toNat_natCast, hS] at hx0
  subst hA
  have HX := Aside0.mk hx0
  have FC := Aside0.mk (scriniumlaw3_Few.calls (l0.length + 1) (some ad) c0 l0 true w hC hc (by rw [few_all l0 hs hl _ (Nat.le_refl _), hf]))
  have RC := Aside0.mk (fun w' (hr : Kd.C Kd.string w' (some ad) l0.length l0) => rows_Right.calls (some ad) c0 l0 true w' hr hc (by unfold rows_Right.f; rw [hR]))
  have AL := Aside0.mk alive5_calls
  have SO := Aside0.mk (fun w' (hr : Kd.C Kd.string w' (some ad) l0.length l0) => rows_Sorted.calls (some ad) c0 l0 (sortedRows l0) w' hr hc rfl)
  obtain ⟨ks, hks⟩ := (symbols_ev l0).rounds
  have SY := Aside0.mk (fun w' (hr : Kd.C Kd.string w' (some ad) l0.length l0) => rows_Symbols.calls ks (some ad) c0 l0 (symbolsOf l0) w' hr hc hks)
  have HR := Aside0.mk hC
  obtain ⟨kr, hkr⟩ := (range_ev l0 hR p (by omega)).rounds
  have hrg : rangeOf l0 (bytesOf p) = ((lowOf l0 (bytesOf p) : Int), (highOf l0 (bytesOf p) : Int)) := by unfold rangeOf; rw [if_neg (by omega)]
  rw [hrg] at hkr
  obtain ⟨kn, hkn⟩ := (naive_ev l0 hR p).rounds
  have hhe := high_eq l0 hR (bytesOf p)
  have hhl := high_le l0 (bytesOf p)
  have hle := sortedRows_le l0
  have hcl := cut_len l0 hR (bytesOf p)
  have hnl := naive_len l0 (bytesOf p)
  have hcd := cut_nodup l0 hR (bytesOf p)
  have hck := cut_keys l0 hR (bytesOf p)
  have hcut : cutOf l0 (bytesOf p) = ((sortedRows l0).take (highOf l0 (bytesOf p))).drop (lowOf l0 (bytesOf p)) := rfl
  obtain ⟨C, hCe⟩ : ∃ C, cutOf l0 (bytesOf p) = C := ⟨_, rfl⟩
  obtain ⟨R, hRe⟩ : ∃ R, naiveOf l0 (bytesOf p) = R := ⟨_, rfl⟩
  obtain ⟨lo, hlo⟩ : ∃ lo, lowOf l0 (bytesOf p) = lo := ⟨_, rfl⟩
  obtain ⟨hi, hhi⟩ : ∃ hi, highOf l0 (bytesOf p) = hi := ⟨_, rfl⟩
  obtain ⟨oc, hoc⟩ : ∃ oc, occOf l0 (bytesOf p) = oc := ⟨_, rfl⟩
  obtain ⟨A, hAe⟩ : ∃ A, sortedRows l0 = A := ⟨_, rfl⟩
  rw [hCe] at hcl hcd hcut
  rw [hCe, hRe] at hck
  rw [hRe] at hnl hkn
  rw [hlo, hhi] at hkr hhe hcut
  rw [hoc] at hhe hcl hnl hocc
  rw [hhi, hAe] at hhl
  rw [hAe] at SO hle hcut
  have NV := Aside0.mk (fun w' (hr : Kd.C Kd.string w' (some ad) l0.length l0) => back_Naive.calls kn p (some ad) c0 l0 R w' hr hc hkn)
  have KF := Aside0.mk (fun k hk => keys_fresh2 C hcd k hk)
  have CK := Aside0.mk hck
  have RG := Aside0.mk (fun (A1 : Option Addr) (c1 : Nat) w' hr hc1 => back_Range.calls kr p A1 c1 (symbolsOf l0) (lo : Int) (hi : Int) w' hr hc1 hkr)
  have HCU := Aside0.mk hcut
  have NN : Aside0 (hi = lo + oc ∧ hi ≤ A.length ∧ A.length ≤ 410 ∧ C.length = oc ∧ R.length = oc ∧ 0 < oc) := ⟨⟨hhe, hhl, hle, hcl, hnl, hocc⟩⟩
  have hmm := @run_makeMap Try.prog
  have hu34 := Try.underlying34
  clear hkr hkn hhe hhl hle hcl hnl hcd hck hcut hCe hRe hlo hhi hoc hAe hrg hocc hR hll hps
  clear hC hc hs hl hf hx0 hS hks l1 l2 l3 b1 b2 b3 hsz e2 e3 hdoc
  go_enter Try.func3, Try.ntmps3
  go_wp2_with fail
  refine FC.out.mono ?_
  rintro en w1 ⟨rfl, hb⟩
  have HB1 := Aside0.mk hb.below
  clear hb
  go_wp2_with fail
  refine (RC.out _ (Kd.C_below HR.out HB1.out)).mono ?_
  rintro en w2 ⟨rfl, hb⟩
  have HB2 := Aside0.mk (below_step HB1.out hb)
  clear hb
  go_wp2_with fail
  refine (AL.out _).mono ?_
  rintro en w3 ⟨rfl, hb⟩
  have HB3 := Aside0.mk (below_step HB2.out hb)
  clear hb
  have hx0 := pw_cell_below HB3.out HX.out
  go_wp2_with fail
  clear v1 v2 v3 v4 v5 v6 v7 v8 v9 v10 v11 v12 v13 v14 v15 v16 hm1 hm2 hm3 hDe hIe hKe g1 g2 g3 hx0 hp hI hK hD
  refine (SY.out _ (Kd.C_below HR.out HB3.out)).mono ?_
  rintro en w4 ⟨vs, rfl, ho, hb⟩
  have HB4 := Aside0.mk (below_step HB3.out hb)
  have HOs := Aside0.mk (Kd.R_lower ho HB3.out.size)
  obtain ⟨As, cs, hvs⟩ := Kd.R_slice ho
  subst hvs
  clear ho hb
  go_wp2_with fail
  refine (SO.out _ (Kd.C_below HR.out HB4.out)).mono ?_
  rintro en w5 ⟨vr, rfl, ho, hb⟩
  have HB5 := Aside0.mk (below_step HB4.out hb)
  have HOr := Aside0.mk (Kd.R_lower ho HB4.out.size)
  have HCs := Aside0.mk (Kd.C_below (Kd.R_reads' HOs.out).2.2 hb)
  have hcs : (symbolsOf l0).length ≤ cs := (Kd.R_reads' HOs.out).2.1
  obtain ⟨Ar, cr, hvr⟩ := Kd.R_slice ho
  subst hvr
  clear ho hb HOs
  go_wp2_with fail
  refine (RG.out _ _ _ HCs.out hcs).mono ?_
  rintro en w6 ⟨rfl, hb⟩
  have HB6 := Aside0.mk (below_step HB5.out hb)
  have HOr6 := Aside0.mk (Kd.R_below HOr.out hb)
  clear hb HOr HCs hcs
  have hcr : A.length ≤ cr := (Kd.R_reads' HOr6.out).2.1
  have HCC : Aside0 (k34.C w6 (Option.map (fun x => x.add (lo * 2)) Ar) C.length C) := ⟨by
    have h := Kd.C_mid (lo := lo) (hi := hi) (c := cr) (Kd.R_reads' HOr6.out).2.2 (by have := NN.out; omega) NN.out.2.1 hcr
    rw [← HCU.out, if_neg (by have := NN.out; omega)] at h
    exact h⟩
  have c2 : decide (A.length < hi) = false := decide_eq_false (by have := NN.out; omega)
  have c3 : decide (hi ≤ lo) = false := decide_eq_false (by have := NN.out; omega)
  have v1 : (hi ≤ cr) = True := eq_true (by have := NN.out; omega)
  have v2 : (lo ≤ hi) = True := eq_true (by have := NN.out; omega)
  have v3 : (cr = lo) = False := eq_false (by have := NN.out; omega)
  go_wp2_with fail
  clear c2 c3 v1 v2 v3 hmm hcr
  have hn : hi - lo = C.length := by have := NN.out; omega
  rw [hn]
  clear hn
  obtain ⟨Ac, hAc⟩ : ∃ Ac, Option.map (fun x : Addr => x.add (lo * 2)) Ar = Ac := ⟨_, rfl⟩
  rw [hAc] at HCC
  rw [hAc]
  have HS7 : Aside0 (IsSet (w6.alloc (.map #[] 0)) w6.heap.size ((keysOf (C.take 0)).map encRow)) := ⟨isSet_new w6⟩
  have HB7 : Aside0 (Below w6.heap.size w6 (w6.alloc (.map #[] 0))) := ⟨below_alloc (Below.refl _ _) _⟩
  obtain ⟨W7, hW7⟩ : ∃ W7, w6.alloc (.map #[] 0) = W7 := ⟨_, rfl⟩
  obtain ⟨B, hB⟩ : ∃ B, w6.heap.size = B := ⟨_, rfl⟩
  have HBB : Aside0 (w6.heap.size ≤ B) := ⟨by rw [← hB]; exact Nat.le_refl _⟩
  rw [hW7, hB] at HS7
  rw [hW7] at HB7
  rw [hW7, hB]
  clear hW7 hB hAc HOr6
  go_loopw [121] (fun i wr => ∃ k : Nat, k ≤ C.length ∧ i = .int .i64 k ∧ Aside0 (IsSet wr B ((keysOf (C.take k)).map encRow)) ∧ Aside0 (Below w6.heap.size w6 wr)) (fun i _ => C.length - (intOf i).toNat)
  case atStart => exact ⟨0, Nat.zero_le _, rfl, HS7, HB7⟩
  case round =>
    obtain ⟨k, hk, rfl, HS, HB⟩ := hrel
    by_cases hlt : k < C.length
    · obtain ⟨ac, hA, hx0, hx1⟩ := at_T34 (Kd.C_below HCC.out HB.out) (k : Int) (by omega) (by omega)
      subst hA
      have hfr := KF.out k hlt
      have hks := keys_succ C k hlt
      rw [rd_rowx C k hlt, Int.toNat_natCast] at hx0 hx1
      have c1 : decide ((k : Int) < (C.length : Int)) = true := decide_eq_true (by omega)
      have v1 : ((k : Int) < (C.length : Int)) = True := eq_true (by omega)
      have v2 : (0 ≤ (k : Int)) = True := eq_true (by omega)
      have v3 : IntKind.i64.wrap ((k : Int) + 1) = (k : Int) + 1 := IntWalk.i64_in _ (by have := NN.out; omega)
      obtain ⟨b0, hb0⟩ : ∃ b0, C[k].f0 = b0 := ⟨_, rfl⟩
      obtain ⟨b1, hb1⟩ : ∃ b1, C[k].f1 = b1 := ⟨_, rfl⟩
      unfold keyR at hfr hks
      rw [hb0] at hx0 hfr hks
      rw [hb1] at hx1 hfr hks
      clear hb0 hb1
      obtain ⟨W2, hW2⟩ : ∃ W2, wr.alloc (.cells #[.int .i64 b0, .int .i64 b1] 34) = W2 := ⟨_, rfl⟩
      have z0 : W2.cell? ⟨wr.heap.size, 0, none⟩ = some (.int .i64 b0) := by rw [← hW2]; exact cell_new wr _ _ 0 _ rfl
      have z1 : W2.cell? ⟨wr.heap.size, 1, none⟩ = some (.int .i64 b1) := by rw [← hW2]; exact cell_new wr _ _ 1 _ rfl
      have hs2 : IsSet W2 B ((keysOf (C.take k)).map encRow) := by rw [← hW2]; exact isSet_below HS.out (below_alloc (Below.refl _ _) _) (isSet_lt HS.out)
      have HB2 : Aside0 (Below w6.heap.size w6 W2) := ⟨by rw [← hW2]; exact below_alloc HB.out _⟩
      obtain ⟨W5, hst, hst0, hs5, hu⟩ := store_drew (T := 32) (row_key) Try.underlying32 hs2 (b0, b1) hfr
      rw [← hks] at hs5
      have HS5 := Aside0.mk hs5
      have HB5 := Aside0.mk (hu.below HB2.out HBB.out)
      have W2E := Aside0.mk hW2
      unfold encRow at hst hst0
      clear hs5 hu hs2 hfr hks
      go_wp2_with fail
      go_roundw
      case rel => exact ⟨k + 1, by omega, by go_num, HS5, HB5⟩
      case measure => simp [intOf]; omega
    · obtain rfl : k = C.length := by omega
      rw [List.take_length] at HS
      have c1 : decide ((C.length : Int) < (C.length : Int)) = false := decide_eq_false (by omega)
      have HB8 := Aside0.mk (below_step HB6.out HB.out)
      clear hlt hk
      go_wp2_with fail
      refine (NV.out _ (Kd.C_below HR.out HB8.out)).mono ?_
      rintro en w9 ⟨vr, rfl, ho, hb⟩
      have HS9 := Aside0.mk (isSet_below HS.out hb (isSet_lt HS.out))
      have HB9 := Aside0.mk (below_step HB8.out hb)
      obtain ⟨Aw, cw, hvr⟩ := Kd.R_slice ho
      subst hvr
      have HC9 := Aside0.mk (Kd.R_reads' ho).2.2
      clear ho hb HS HB HB8
      go_wp2_with fail
      go_loopw [133] (fun i wq => ∃ k : Nat, k ≤ R.length ∧ i = .int .i64 k ∧ Aside0 (Below w9.heap.size w9 wq)) (fun i _ => R.length - (intOf i).toNat)
      case atStart => exact ⟨0, Nat.zero_le _, rfl, ⟨Below.refl _ _⟩⟩
      case round =>
        obtain ⟨k, hk, rfl, HB⟩ := hrel
        have HSQ := Aside0.mk (isSet_below HS9.out HB.out (isSet_lt HS9.out))
        by_cases hlt : k < R.length
        · obtain ⟨aw, hA, hx0, hx1⟩ := at_T34 (Kd.C_below HC9.out HB.out) (k : Int) (by omega) (by omega)
          subst hA
          have hck := CK.out k hlt
          rw [rd_rowx R k hlt, Int.toNat_natCast] at hx0 hx1
          have c1 : decide ((k : Int) < (R.length : Int)) = true := decide_eq_true (by omega)
          have v1 : ((k : Int) < (R.length : Int)) = True := eq_true (by omega)
          have v2 : (0 ≤ (k : Int)) = True := eq_true (by omega)
          have v3 : IntKind.i64.wrap ((k : Int) + 1) = (k : Int) + 1 := IntWalk.i64_in _ (by have := NN.out; omega)
          obtain ⟨b0, hb0⟩ : ∃ b0, R[k].f0 = b0 := ⟨_, rfl⟩
          obtain ⟨b1, hb1⟩ : ∃ b1, R[k].f1 = b1 := ⟨_, rfl⟩
          unfold keyR at hck
          rw [hb0] at hx0 hck
          rw [hb1] at hx1 hck
          clear hb0 hb1
          obtain ⟨W2, hW2⟩ : ∃ W2, wr.alloc (.cells #[.int .i64 b0, .int .i64 b1] 34) = W2 := ⟨_, rfl⟩
          have z0 : W2.cell? ⟨wr.heap.size, 0, none⟩ = some (.int .i64 b0) := by rw [← hW2]; exact cell_new wr _ _ 0 _ rfl
          have z1 : W2.cell? ⟨wr.heap.size, 1, none⟩ = some (.int .i64 b1) := by rw [← hW2]; exact cell_new wr _ _ 1 _ rfl
          have hs2 : IsSet W2 B ((keysOf C).map encRow) := by rw [← hW2]; exact isSet_below HSQ.out (below_alloc (Below.refl _ _) _) (isSet_lt HSQ.out)
          have HB2 : Aside0 (Below w9.heap.size w9 W2) := ⟨by rw [← hW2]; exact below_alloc HB.out _⟩
          obtain ⟨hlk, hlk0⟩ := lookup_bool (T := 32) (E := 4) (row_key) Try.underlying32 bool_zero5 hs2 (b0, b1) true (iff_of_true hck rfl)
          unfold encRow at hlk hlk0
          clear hs2 hck
          go_wp2_with fail
          go_roundw
          case rel => exact ⟨k + 1, by omega, by go_num, HB2⟩
          case measure => simp [intOf]; omega
        · obtain rfl : k = R.length := by omega
          have c1 : decide ((R.length : Int) < (R.length : Int)) = false := decide_eq_false (by omega)
          have hln := fun ty => len_set (P := Try.prog) (T := 32) Try.underlying32 HSQ.out ty
          have hkl : (keysOf C).length = R.length := by unfold keysOf; rw [List.length_map]; have := NN.out; omega
          rw [hkl] at hln
          have v1 : IntKind.i64.wrap ((hi : Int) - (lo : Int)) = (R.length : Int) := by rw [IntWalk.i64_in _ (by have := NN.out; omega)]; have := NN.out; omega
          have HBZ := Aside0.mk (below_step HB9.out HB.out)
          clear hkl hlt hk
          go_wp2_with fail
          go_ret
          exact ⟨by first | rfl | simp, HBZ.out⟩
set_option maxRecDepth 100000 in
theorem find_out (A0 : Option Addr) (c0 : Nat) (l0 : List ByteArray) (a1 a2 a3 : Int) (w : World) (hC : Kd.C Kd.string w A0 l0.length l0) (hc : l0.length ≤ c0) (hs : ∀ s ∈ l0, s.size ≤ 140737488351232) (hl : l0.length * 16 ≤ 140737488351232) (b r : Bool) (hf : fewB l0 = b) (hR : rightB l0 = r) (hz : b = false ∨ r = false ∨ l0.length = 0) :
    Calls Try.prog 3 #[.slice A0 l0.length c0, .int .i64 a1, .int .i64 a2, .int .i64 a3] w fun e w' => e = .returned (.bool true) ∧ Below w.heap.size w w' := by
  have FC := Aside0.mk (scriniumlaw3_Few.calls (l0.length + 1) A0 c0 l0 b w hC hc (by rw [few_all l0 hs hl _ (Nat.le_refl _), hf]))
  have RC := Aside0.mk (fun w' (hr : Kd.C Kd.string w' A0 l0.length l0) => rows_Right.calls A0 c0 l0 r w' hr hc (by unfold rows_Right.f; rw [hR]))
  have AL := Aside0.mk alive5_calls
  have HR := Aside0.mk hC
  clear hC hc hs hl hf hR
  go_enter Try.func3, Try.ntmps3
  go_wp2_with fail
  refine FC.out.mono ?_
  rintro en w1 ⟨rfl, hb⟩
  have HB1 := Aside0.mk hb.below
  clear hb
  cases b with
  | false =>
    go_wp2_with fail
    refine (AL.out _).mono ?_
    rintro en w2 ⟨rfl, hb⟩
    have HB2 := Aside0.mk (below_step HB1.out hb)
    clear hb
    go_wp2_with fail
    go_ret
    exact ⟨rfl, HB2.out⟩
  | true =>
    go_wp2_with fail
    refine (RC.out _ (Kd.C_below HR.out HB1.out)).mono ?_
    rintro en w2 ⟨rfl, hb⟩
    have HB2 := Aside0.mk (below_step HB1.out hb)
    clear hb
    cases r with
    | false =>
      go_wp2_with fail
      refine (AL.out _).mono ?_
      rintro en w3 ⟨rfl, hb⟩
      have HB3 := Aside0.mk (below_step HB2.out hb)
      clear hb
      go_wp2_with fail
      go_ret
      exact ⟨rfl, HB3.out⟩
    | true =>
      have h0 : l0.length = 0 := by simpa using hz
      have g1 : ((l0.length : Int) == 0) = true := beq_iff_eq.2 (by omega)
      clear hz h0
      go_wp2_with fail
      refine (AL.out _).mono ?_
      rintro en w3 ⟨rfl, hb⟩
      have HB3 := Aside0.mk (below_step HB2.out hb)
      clear hb
      go_wp2_with fail
      go_ret
      exact ⟨rfl, HB3.out⟩
theorem BackFinds_all (A0 : Option Addr) (c0 : Nat) (l0 : List ByteArray) (a1 a2 a3 : Int) (w : World) (hC : Kd.C Kd.string w A0 l0.length l0) (hc : l0.length ≤ c0) (hs : ∀ s ∈ l0, s.size ≤ 140737488351232) (hl : l0.length * 16 ≤ 140737488351232) (_ : (Lit.int .i64 a1).wf = true) (_ : (Lit.int .i64 a2).wf = true) (_ : (Lit.int .i64 a3).wf = true) :
    Calls Try.prog 3 #[.slice A0 l0.length c0, .int .i64 a1, .int .i64 a2, .int .i64 a3] w fun e w' => e = .returned (.bool true) ∧ Below w.heap.size w w' := by
  by_cases hz : fewB l0 = true ∧ rightB l0 = true ∧ 0 < l0.length
  · exact find_main A0 c0 l0 a1 a2 a3 w hC hc hs hl hz.1 hz.2.1 hz.2.2
  · refine find_out A0 c0 l0 a1 a2 a3 w hC hc hs hl _ _ rfl rfl ?_
    cases hf : fewB l0 with
    | false => exact Or.inl rfl
    | true =>
      cases hR : rightB l0 with
      | false => exact Or.inr (Or.inl rfl)
      | true => exact Or.inr (Or.inr (by rw [hf, hR] at hz; simp at hz; simp [hz]))
end Go.Proofs.Ytkcpkecaliegfaa.P
