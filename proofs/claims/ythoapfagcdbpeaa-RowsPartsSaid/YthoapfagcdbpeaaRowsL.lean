/- The function Less of package rows computes what the plain function lessB says. Conditions: how the list lies in memory. -/
import Derived.Test.YthoapfagcdbpeaaRowsG
import Derived.Test.YthoapfagcdbpeaaRowsO
import Derived.ScopeJumps
set_option linter.unusedVariables false
set_option linter.unusedSimpArgs false
namespace Go.Proofs.Ythoapfagcdbpeaa.P
open Go.RowKit Go.Proofs.YthoapfagcdbpeaaW.PrintWords Go.Proofs.YthoapfagcdbpeaaW.PrintLast Go.Proofs.YthoapfagcdbpeaaW.PrintMore

set_option maxRecDepth 100000 in
set_option maxHeartbeats 4000000 in
theorem less_ok (A0 : Option Addr) (c0 : Nat) (l0 : List ByteArray) (d i e j : Int) (w : World) (hr0 : Kd.C Kd.string w A0 l0.length l0) (hc0 : l0.length ≤ c0) (o1 : rowOk l0 d i = true) (o2 : rowOk l0 e j = true) (hsz0 : (docAt l0 d).size ≤ 140737488351232) :
    Calls Try.prog 24 #[.slice A0 l0.length c0, .agg #[.int .i64 d, .int .i64 i], .agg #[.int .i64 e, .int .i64 j]] w fun en w' => en = .returned (.bool (lessB l0 d i e j)) ∧ G w w' := by
  have hb1 : 0 ≤ d ∧ d < l0.length ∧ 0 ≤ i ∧ i ≤ ((docAt l0 d).size : Int) := by
    unfold rowOk at o1
    simp only [Bool.and_eq_true, decide_eq_true_eq] at o1
    exact o1
  have hb2 : 0 ≤ e ∧ e < l0.length ∧ 0 ≤ j ∧ j ≤ ((docAt l0 e).size : Int) := by
    unfold rowOk at o2
    simp only [Bool.and_eq_true, decide_eq_true_eq] at o2
    exact o2
  obtain ⟨ad, hA, hcd⟩ := str_cell hr0 d hb1.1 hb1.2.1
  obtain ⟨ad', hA', hce⟩ := str_cell hr0 e hb2.1 hb2.2.1
  rw [hA] at hA'
  injection hA' with hA'
  subst hA'
  subst hA
  obtain ⟨S, hS⟩ : ∃ S, (docAt l0 d).extract i.toNat (docAt l0 d).size = S := ⟨_, rfl⟩
  obtain ⟨T, hT⟩ : ∃ T, (docAt l0 e).extract j.toNat (docAt l0 e).size = T := ⟨_, rfl⟩
  have hinv0 : ltS ((bytesOf S).drop 0) d ((bytesOf T).drop 0) e = lessB l0 d i e j := by
    unfold lessB suf
    rw [o1, o2, List.drop_zero, List.drop_zero, ← hS, ← hT, bytesOf_extract, bytesOf_extract]
    rfl
  have I1 := Aside0.mk (fun w' (hr : Kd.C Kd.string w' (some ad) l0.length l0) => is_calls (some ad) c0 l0 d i w' hr hc0)
  have I2 := Aside0.mk (fun w' (hr : Kd.C Kd.string w' (some ad) l0.length l0) => is_calls (some ad) c0 l0 e j w' hr hc0)
  rw [o1] at I1
  rw [o2] at I2
  have HC := Aside0.mk hr0
  have HK0 : Aside0 (0 ≤ S.size ∧ 0 ≤ T.size ∧ ltS ((bytesOf S).drop 0) d ((bytesOf T).drop 0) e = lessB l0 d i e j) := ⟨⟨by omega, by omega, hinv0⟩⟩
  have HS := Aside0.mk hS
  have HT := Aside0.mk hT
  have HSZ : Aside0 ((S.size : Int) ≤ 9223372036854775806) := ⟨by rw [← hS, ByteArray.size_extract]; omega⟩
  have hu24 := Try.underlying24
  clear hr0 hinv0 o1 o2 hS hT hsz0
  obtain ⟨W0, hW0⟩ : ∃ W0, (w.alloc (.cells #[.int .i64 d, .int .i64 i] 24)).alloc (.cells #[.int .i64 e, .int .i64 j] 24) = W0 := ⟨_, rfl⟩
  have HBW0 : Aside0 (G w W0) := ⟨by rw [← hW0]; exact (G.alloc _ _).trans (G.alloc _ _)⟩
  have z1 : W0.cell? ⟨w.heap.size, 0, none⟩ = some (.int .i64 d) := by rw [← hW0]; exact pw_cell_below (below_alloc (Below.refl _ _) _) (cell_new w _ _ 0 _ rfl)
  have z2 : W0.cell? ⟨w.heap.size, 1, none⟩ = some (.int .i64 i) := by rw [← hW0]; exact pw_cell_below (below_alloc (Below.refl _ _) _) (cell_new w _ _ 1 _ rfl)
  have z3 : W0.cell? ⟨w.heap.size + 1, 0, none⟩ = some (.int .i64 e) := by rw [← hW0]; have := cell_new (w.alloc (.cells #[.int .i64 d, .int .i64 i] 24)) #[.int .i64 e, .int .i64 j] 24 0 _ rfl; rwa [size_alloc] at this
  have z4 : W0.cell? ⟨w.heap.size + 1, 1, none⟩ = some (.int .i64 j) := by rw [← hW0]; have := cell_new (w.alloc (.cells #[.int .i64 d, .int .i64 i] 24)) #[.int .i64 e, .int .i64 j] 24 1 _ rfl; rwa [size_alloc] at this
  have Z := Aside0.mk (And.intro z1 (And.intro z2 (And.intro z3 z4)))
  have HD := Aside0.mk (And.intro hcd hce)
  have W0E := Aside0.mk hW0
  clear z1 z2 z3 z4 hW0 hcd hce
  go_enter Try.func24, Try.ntmps24
  go_wp2_with fail
  rw [W0E.out]
  refine wp_scope_jumps 0 (fun a' w' => ∃ (k : Nat) (u1 u2 u3 u6 u10 u11 u12 u13 u14 u15 u16 u17 u18 u19 u20 u21 u22 u23 u24 u25 u26 u27 u28 u29 u30 u31 u32 u33 u34 u35 u36 u37 u38 u39 u40 u41 u42 u43 u44 u45 u46 u47 u48 u49 u50 u51 u52 u53 u54 u55 u56 u57 u58 u59 u60 u61 u62 u63 u64 u65 u66 u67 u68 u69 u70 u71 u72 u73 u74 u75 u76 u77 u78 : Value), a' = { tmps := #[.slice (some ad) l0.length c0, u1, u2, u3, .pointer (some ⟨w.heap.size, 0, none⟩), .pointer (some ⟨w.heap.size + 1, 0, none⟩), u6, .string S, .string T, .int .i64 k, u10, u11, u12, u13, u14, u15, u16, u17, u18, u19, u20, u21, u22, u23, u24, u25, u26, u27, u28, u29, u30, u31, u32, u33, u34, u35, u36, u37, u38, u39, u40, u41, u42, u43, u44, u45, u46, u47, u48, u49, u50, u51, u52, u53, u54, u55, u56, u57, u58, u59, u60, u61, u62, u63, u64, u65, u66, u67, u68, u69, u70, u71, u72, u73, u74, u75, u76, u77, u78], defers := [] } ∧ Aside0 (G w w') ∧ Aside0 (w'.cell? ⟨w.heap.size, 0, none⟩ = some (.int .i64 d) ∧ w'.cell? ⟨w.heap.size + 1, 0, none⟩ = some (.int .i64 e)) ∧ Aside0 (k ≤ S.size ∧ k ≤ T.size ∧ ltS ((bytesOf S).drop k) d ((bytesOf T).drop k) e = lessB l0 d i e j)) (fun a' _ => S.size - (intOf (a'.tmps.getD 9 undef)).toNat) rfl ?_ ?_
  · have z1 := Z.out.1
    have z2 := Z.out.2.1
    have z3 := Z.out.2.2.1
    have z4 := Z.out.2.2.2
    go_wp2_with fail
    refine (I1.out _ (Kd.C_below HC.out HBW0.out.below)).mono ?_
    rintro en w1 ⟨rfl, hg⟩
    have hb := hg.below
    have y1 := pw_cell_below hb z1
    have y2 := pw_cell_below hb z2
    have y3 := pw_cell_below hb z3
    have y4 := pw_cell_below hb z4
    have HB1 := Aside0.mk (HBW0.out.trans hg)
    clear z1 z2 z3 z4 hb hg
    go_wp2_with fail
    refine (I2.out _ (Kd.C_below HC.out HB1.out.below)).mono ?_
    rintro en w2 ⟨rfl, hg⟩
    have hb := hg.below
    have z1 := pw_cell_below hb y1
    have z2 := pw_cell_below hb y2
    have z3 := pw_cell_below hb y3
    have z4 := pw_cell_below hb y4
    have HBW := Aside0.mk (HB1.out.trans hg)
    have x1 := pw_cell_below HBW.out.below HD.out.1
    have x2 := pw_cell_below HBW.out.below HD.out.2
    have p1 : (0 ≤ d) = True := eq_true hb1.1
    have p2 : (d < (l0.length : Int)) = True := eq_true hb1.2.1
    have p3 : (0 ≤ i) = True := eq_true hb1.2.2.1
    have p4 : (i ≤ ((docAt l0 d).size : Int)) = True := eq_true hb1.2.2.2
    have p5 : (0 ≤ e) = True := eq_true hb2.1
    have p6 : (e < (l0.length : Int)) = True := eq_true hb2.2.1
    have p7 : (0 ≤ j) = True := eq_true hb2.2.2.1
    have p8 : (j ≤ ((docAt l0 e).size : Int)) = True := eq_true hb2.2.2.2
    clear y1 y2 y3 y4 hb hg
    go_wp2_with fail
    go_quiet (fail)
    clear p1 p2 p3 p4 p5 p6 p7 p8
    rw [HS.out, HT.out]
    have HK := HK0
    go_wp2_with fail
    go_step3
    have hks := HK.out.1
    have hkt := HK.out.2.1
    have hinv := HK.out.2.2
    have b0 := bt_at S (0 : Int)
    have b1 := bt_at T (0 : Int)
    rw [show (0 : Int).toNat = 0 from rfl] at b0 b1
    by_cases hS : 0 = S.size
    · by_cases hT : 0 = T.size
      · have c1 : ((0 : Int) == (S.size : Int)) = true := beq_iff_eq.2 (by omega)
        have c2 : ((0 : Int) == (T.size : Int)) = true := beq_iff_eq.2 (by omega)
        have hr : lessB l0 d i e j = decide (d < e) := by rw [← hinv]; exact ltS_end hS hT
        have HR := Aside0.mk hr
        clear hr hinv hks hkt hS hT
        go_wp2_with fail
        (try simp only [Exit.jump])
        (try rw [Exit.noGoto_ret])
        go_ret
        exact ⟨congrArg (fun z => Ending.returned (.bool z)) HR.out.symm, HBW.out.trans (G.drew _ _)⟩
      · have c1 : ((0 : Int) == (S.size : Int)) = true := beq_iff_eq.2 (by omega)
        have c2 : ((0 : Int) == (T.size : Int)) = false := beq_eq_false_iff_ne.2 (by omega)
        have hr : lessB l0 d i e j = true := by rw [← hinv]; exact ltS_short hS (by omega)
        have HR := Aside0.mk hr
        clear hr hinv hks hkt hS hT
        go_wp2_with fail
        (try simp only [Exit.jump])
        (try rw [Exit.noGoto_ret])
        go_ret
        exact ⟨congrArg (fun z => Ending.returned (.bool z)) HR.out.symm, HBW.out.trans (G.drew _ _)⟩
    · have c1 : ((0 : Int) == (S.size : Int)) = false := beq_eq_false_iff_ne.2 (by omega)
      by_cases hT : 0 = T.size
      · have c2 : ((0 : Int) == (T.size : Int)) = true := beq_iff_eq.2 (by omega)
        have hr : lessB l0 d i e j = false := by rw [← hinv]; exact ltS_long (by omega) hT
        have HR := Aside0.mk hr
        clear hr hinv hks hkt hS hT
        go_wp2_with fail
        (try simp only [Exit.jump])
        (try rw [Exit.noGoto_ret])
        go_ret
        exact ⟨congrArg (fun z => Ending.returned (.bool z)) HR.out.symm, HBW.out.trans (G.drew _ _)⟩
      · have c2 : ((0 : Int) == (T.size : Int)) = false := beq_eq_false_iff_ne.2 (by omega)
        have k1 : 0 < S.size := by omega
        have k2 : 0 < T.size := by omega
        have v1 : ((0 : Int) < (S.size : Int)) = True := eq_true (by omega)
        have v2 : ((0 : Int) < (T.size : Int)) = True := eq_true (by omega)
        have v3 : (0 ≤ (0 : Int)) = True := eq_true (by omega)
        have hstep := ltS_step d e k1 k2
        (try rw [show ((0 : Nat) : Int) = 0 from rfl] at hstep)
        by_cases hE : bt S (0 : Int) = bt T (0 : Int)
        · have c3 : (bt S (0 : Int) == bt T (0 : Int)) = true := beq_iff_eq.2 hE
          rw [if_pos hE] at hstep
          have HK2 : Aside0 (0 + 1 ≤ S.size ∧ 0 + 1 ≤ T.size ∧ ltS ((bytesOf S).drop (0 + 1)) d ((bytesOf T).drop (0 + 1)) e = lessB l0 d i e j) := ⟨⟨by omega, by omega, by rw [← hstep]; exact hinv⟩⟩
          have hsz : (S.size : Int) ≤ 9223372036854775807 := by have := HSZ.out; omega
          clear hstep hinv hks hkt hS hT hE
          go_wp2_with fail
          go_quiet (fail)
          clear v1 v2 v3
          go_wp2_with fail
          go_step3
          exact ⟨rfl, 1, _, _, _, _, _, _, _, _, _, _, _, _, _, _, _, _, _, _, _, _, _, _, _, _, _, _, _, _, _, _, _, _, _, _, _, _, _, _, _, _, _, _, _, _, _, _, _, _, _, _, _, _, _, _, _, _, _, _, _, _, _, _, _, _, _, _, _, _, _, _, _, _, _, rfl, ⟨HBW.out.trans (G.drew _ _)⟩, ⟨⟨z1, z3⟩⟩, HK2⟩
        · have c3 : (bt S (0 : Int) == bt T (0 : Int)) = false := beq_eq_false_iff_ne.2 hE
          rw [if_neg hE] at hstep
          have hr : lessB l0 d i e j = decide (bt S (0 : Int) < bt T (0 : Int)) := by rw [← hinv]; exact hstep
          have HR := Aside0.mk hr
          clear hstep hinv hr hks hkt hS hT hE
          go_wp2_with fail
          go_quiet (fail)
          go_wp2_with fail
          go_quiet (fail)
          clear v1 v2 v3
          go_wp2_with fail
          (try simp only [Exit.jump])
          (try rw [Exit.noGoto_ret])
          go_ret
          exact ⟨congrArg (fun z => Ending.returned (.bool z)) HR.out.symm, HBW.out.trans (G.drew _ _)⟩
  · rintro a' w' ⟨k, u1, u2, u3, u6, u10, u11, u12, u13, u14, u15, u16, u17, u18, u19, u20, u21, u22, u23, u24, u25, u26, u27, u28, u29, u30, u31, u32, u33, u34, u35, u36, u37, u38, u39, u40, u41, u42, u43, u44, u45, u46, u47, u48, u49, u50, u51, u52, u53, u54, u55, u56, u57, u58, u59, u60, u61, u62, u63, u64, u65, u66, u67, u68, u69, u70, u71, u72, u73, u74, u75, u76, u77, u78, rfl, HBW, HZ, HK⟩
    have z1 := HZ.out.1
    have z3 := HZ.out.2
    have hks := HK.out.1
    have hkt := HK.out.2.1
    have hinv := HK.out.2.2
    have b0 := bt_at S (k : Int)
    have b1 := bt_at T (k : Int)
    rw [Int.toNat_natCast] at b0 b1
    by_cases hS : k = S.size
    · by_cases hT : k = T.size
      · have c1 : ((k : Int) == (S.size : Int)) = true := beq_iff_eq.2 (by omega)
        have c2 : ((k : Int) == (T.size : Int)) = true := beq_iff_eq.2 (by omega)
        have hr : lessB l0 d i e j = decide (d < e) := by rw [← hinv]; exact ltS_end hS hT
        have HR := Aside0.mk hr
        clear hr hinv hks hkt hS hT
        go_wp2_with fail
        (try simp only [Exit.jump])
        (try rw [Exit.noGoto_ret])
        go_ret
        exact ⟨congrArg (fun z => Ending.returned (.bool z)) HR.out.symm, HBW.out⟩
      · have c1 : ((k : Int) == (S.size : Int)) = true := beq_iff_eq.2 (by omega)
        have c2 : ((k : Int) == (T.size : Int)) = false := beq_eq_false_iff_ne.2 (by omega)
        have hr : lessB l0 d i e j = true := by rw [← hinv]; exact ltS_short hS (by omega)
        have HR := Aside0.mk hr
        clear hr hinv hks hkt hS hT
        go_wp2_with fail
        (try simp only [Exit.jump])
        (try rw [Exit.noGoto_ret])
        go_ret
        exact ⟨congrArg (fun z => Ending.returned (.bool z)) HR.out.symm, HBW.out⟩
    · have c1 : ((k : Int) == (S.size : Int)) = false := beq_eq_false_iff_ne.2 (by omega)
      by_cases hT : k = T.size
      · have c2 : ((k : Int) == (T.size : Int)) = true := beq_iff_eq.2 (by omega)
        have hr : lessB l0 d i e j = false := by rw [← hinv]; exact ltS_long (by omega) hT
        have HR := Aside0.mk hr
        clear hr hinv hks hkt hS hT
        go_wp2_with fail
        (try simp only [Exit.jump])
        (try rw [Exit.noGoto_ret])
        go_ret
        exact ⟨congrArg (fun z => Ending.returned (.bool z)) HR.out.symm, HBW.out⟩
      · have c2 : ((k : Int) == (T.size : Int)) = false := beq_eq_false_iff_ne.2 (by omega)
        have k1 : k < S.size := by omega
        have k2 : k < T.size := by omega
        have v1 : ((k : Int) < (S.size : Int)) = True := eq_true (by omega)
        have v2 : ((k : Int) < (T.size : Int)) = True := eq_true (by omega)
        have v3 : (0 ≤ (k : Int)) = True := eq_true (by omega)
        have hstep := ltS_step d e k1 k2
        (try rw [show ((0 : Nat) : Int) = 0 from rfl] at hstep)
        by_cases hE : bt S (k : Int) = bt T (k : Int)
        · have c3 : (bt S (k : Int) == bt T (k : Int)) = true := beq_iff_eq.2 hE
          rw [if_pos hE] at hstep
          have HK2 : Aside0 (k + 1 ≤ S.size ∧ k + 1 ≤ T.size ∧ ltS ((bytesOf S).drop (k + 1)) d ((bytesOf T).drop (k + 1)) e = lessB l0 d i e j) := ⟨⟨by omega, by omega, by rw [← hstep]; exact hinv⟩⟩
          have hsz : (S.size : Int) ≤ 9223372036854775807 := by have := HSZ.out; omega
          clear hstep hinv hks hkt hS hT hE
          go_wp2_with fail
          go_quiet (fail)
          clear v1 v2 v3
          go_wp2_with fail
          go_step3
          exact ⟨rfl, ⟨k + 1, _, _, _, _, _, _, _, _, _, _, _, _, _, _, _, _, _, _, _, _, _, _, _, _, _, _, _, _, _, _, _, _, _, _, _, _, _, _, _, _, _, _, _, _, _, _, _, _, _, _, _, _, _, _, _, _, _, _, _, _, _, _, _, _, _, _, _, _, _, _, _, _, _, rfl, ⟨HBW.out.trans (G.drew _ _)⟩, ⟨⟨z1, z3⟩⟩, HK2⟩, by simp [intOf]; omega⟩
        · have c3 : (bt S (k : Int) == bt T (k : Int)) = false := beq_eq_false_iff_ne.2 hE
          rw [if_neg hE] at hstep
          have hr : lessB l0 d i e j = decide (bt S (k : Int) < bt T (k : Int)) := by rw [← hinv]; exact hstep
          have HR := Aside0.mk hr
          clear hstep hinv hr hks hkt hS hT hE
          go_wp2_with fail
          go_quiet (fail)
          go_wp2_with fail
          go_quiet (fail)
          clear v1 v2 v3
          go_wp2_with fail
          (try simp only [Exit.jump])
          (try rw [Exit.noGoto_ret])
          go_ret
          exact ⟨congrArg (fun z => Ending.returned (.bool z)) HR.out.symm, HBW.out.trans (G.drew _ _)⟩

end Go.Proofs.Ythoapfagcdbpeaa.P

