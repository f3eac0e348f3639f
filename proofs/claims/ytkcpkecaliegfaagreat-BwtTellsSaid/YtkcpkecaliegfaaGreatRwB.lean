/- The function Sorted of package rows computes the plain list sortedRows. Conditions: how the list lies in memory. -/
import Derived.Test.YtkcpkecaliegfaaGreatRwA
import Derived.Test.YtkcpkecaliegfaaGreatSortPlain
import Derived.Shelf.SlSortCmp.NoneTotal
import Derived.ScopeJumps
section
set_option linter.unusedVariables false
set_option linter.unusedSimpArgs false
namespace Go.Proofs.YtkcpkecaliegfaaGreat.P
open Go.Sort (flatK size_flatK get_flatK HoldsK putRowK SWO PermIn SortedIn)
open Go.RowKit Go.Proofs.YtkcpkecaliegfaaGreatW.PrintWords Go.Proofs.YtkcpkecaliegfaaGreatW.PrintLast Go.Proofs.YtkcpkecaliegfaaGreatW.PrintMore

def rows_Sorted.f (l0 : List ByteArray) : Option (List S75) := some (sortedRows l0)

theorem right_len {l : List ByteArray} (h : rightB l = true) : l.length ≤ 10 := by
  unfold rightB at h
  simp only [Bool.and_eq_true, decide_eq_true_eq] at h
  exact h.1
theorem right_doc {l : List ByteArray} (h : rightB l = true) (d : Int) : (docAt l d).size ≤ 40 := by
  unfold rightB at h
  simp only [Bool.and_eq_true, Bool.not_eq_true', List.any_eq_false] at h
  unfold docAt rdOf
  rw [List.getD_eq_getElem?_getD]
  cases he : l[d.toNat]? with
  | none => show (0 : Nat) ≤ 40; omega
  | some s =>
    have := h.2 s (List.mem_of_getElem? he)
    unfold longB at this
    simp only [decide_eq_true_eq, Nat.not_lt] at this
    exact this
theorem rowsTo_le {l : List ByteArray} (h : rightB l = true) (D : Nat) : (rowsTo l D).length ≤ D * 41 := by
  induction D with
  | zero => exact Nat.le_refl _
  | succ D ih =>
    rw [rowsTo, List.length_append, rowsOf_length]
    have := right_doc h (D : Int)
    omega

/-- The sort, called on the row of all suffixes. -/
theorem sort_all (A0 : Option Addr) (c0 : Nat) (l0 : List ByteArray) (HL : LessOk A0 c0 l0) (hR : rightB l0 = true) (g : Nat) (w0 w : World) (v : Value) (hr0 : Kd.C Kd.string w0 A0 l0.length l0) (hb : w0.cell? ⟨g, 0, none⟩ = some (.slice A0 l0.length c0)) (hB : Below w0.heap.size w0 w)
    (h : k75.R 75 w w0.heap.size (fun _ => True) v (allRows l0)) :
    Calls Tryz.prog 100 #[v, .func (.func 101) #[] #[.pointer (some ⟨g, 0, none⟩)]] w fun e w' => e = .returned (.tuple #[]) ∧ k75.R 75 w' w0.heap.size (fun _ => True) v (sortedRows l0) ∧ Below w0.heap.size w0 w' := by
  obtain ⟨A, c, hv⟩ := Kd.R_slice h
  subst hv
  by_cases hn : (allRows l0).length = 0
  · have hnil : allRows l0 = [] := List.eq_nil_of_length_eq_zero hn
    have hs : sortedRows l0 = [] := by unfold sortedRows; rw [if_pos hR, hnil, List.mergeSort_nil]
    rw [hnil] at h ⊢
    rw [hs]
    have hcon := AnyF.slices_SortFunc_none Tryz.sortRow A c (.func (.func 101) #[] #[.pointer (some ⟨g, 0, none⟩)]) w
    change Calls Tryz.prog 100 _ _ _ at hcon
    refine hcon.mono ?_
    rintro e w' ⟨rfl, rfl⟩
    exact ⟨rfl, h, hB⟩
  · have hne : ∃ r, r ∈ allRows l0 := List.exists_mem_of_length_pos (by omega)
    obtain ⟨r, hr⟩ := hne
    haveI : Inhabited (RowOf l0) := ⟨⟨(r.f0, r.f1), allRows_ok l0 r hr⟩⟩
    obtain ⟨blk, hA, hblk, hlt⟩ : ∃ blk, A = some ⟨blk, 0, none⟩ ∧ w0.heap.size ≤ blk ∧ blk < w.heap.size := by
      obtain ⟨h0, inner, ho, _⟩ := h
      rcases ho.2 with ⟨e0, hz⟩ | ⟨g', cap', cur, e0, hb', hg, _⟩
      · injection e0 with _ e0
        exact absurd e0 hn
      · injection e0 with e1
        have hl : g' < w.heap.size := by
          rcases Nat.lt_or_ge g' w.heap.size with h' | h'
          · exact h'
          · rw [Array.getElem?_eq_none h'] at hg; cases hg
        exact ⟨g', e1, hb', hl⟩
    subst hA
    have hmap := map_allOf l0
    have hsz : (allOf l0).size = (allRows l0).length := size_allOf l0
    have h' := h
    rw [← hmap] at h'
    have hH := holds_row h'
    have eg : ∀ args w, (callFunc 101 args).run Tryz.prog w = .ok (.enter 101 args) w := enters_of Tryz.func101 (by kernel_rfl) rfl
    have hle : (allRows l0).length ≤ 410 := by
      have := rowsTo_le hR l0.length
      have := right_len hR
      unfold allRows
      omega
    have hcon := AnyQ.slices_SortFunc Tryz.sortRow 2 Tryz.isAgg75 Tryz.sizeOf75 (encR (l := l0)) (fun _ => rfl) (fun x v hv => by simp [encR] at hv; rcases hv with rfl | rfl <;> rfl) (cmpR l0) (swoR l0) 101 #[.pointer (some ⟨g, 0, none⟩)] blk 0 c (allOf l0) w eg (cmpLays A0 c0 l0 HL g w0.heap.size blk 0 (allOf l0).size w0 w hr0 hb hB rfl hblk) hH hlt (by omega)
    change Calls Tryz.prog 100 _ _ _ at hcon
    rw [hsz] at hcon
    refine hcon.mono ?_
    rintro e w' ⟨rfl, d', n, os, hp, hs, rfl⟩
    rw [← hsz] at hp hs
    have hsort := sort_left l0 hR d' hp hs
    have hd' : d'.size = (allRows l0).length := by rw [← hsz]; exact hp.1
    refine ⟨rfl, ?_, below_sortWorldK encR 2 w0 w _ blk 0 n d' os hB hblk hB.size⟩
    rw [← hsort]
    have := row_sorted (l := l0) (q := n) (os := os) (d := d') hd' rfl h
    exact this

end Go.Proofs.YtkcpkecaliegfaaGreat.P

end
section
set_option linter.unusedVariables false
set_option linter.unusedSimpArgs false
namespace Go.Proofs.YtkcpkecaliegfaaGreat.P
open Go.RowKit Go.Proofs.YtkcpkecaliegfaaGreatW.PrintWords Go.Proofs.YtkcpkecaliegfaaGreatW.PrintLast Go.Proofs.YtkcpkecaliegfaaGreatW.PrintMore

set_option maxRecDepth 100000 in
set_option maxHeartbeats 4000000 in
theorem less_ok (A0 : Option Addr) (c0 : Nat) (l0 : List ByteArray) (d i e j : Int) (w : World) (hr0 : Kd.C Kd.string w A0 l0.length l0) (hc0 : l0.length ≤ c0) (o1 : rowOk l0 d i = true) (o2 : rowOk l0 e j = true) (hsz0 : (docAt l0 d).size ≤ 140737488351232) :
    Calls Tryz.prog 102 #[.slice A0 l0.length c0, .agg #[.int .i64 d, .int .i64 i], .agg #[.int .i64 e, .int .i64 j]] w fun en w' => en = .returned (.bool (lessB l0 d i e j)) ∧ G w w' := by
  have hb1 : 0 ≤ d ∧ d < l0.length ∧ 0 ≤ i ∧ i ≤ ((docAt l0 d).size : Int) := by
    unfold rowOk at o1
    simp only [Bool.and_eq_true, decide_eq_true_eq] at o1
    exact o1
  have hb2 : 0 ≤ e ∧ e < l0.length ∧ 0 ≤ j ∧ j ≤ ((docAt l0 e).size : Int) := by
    unfold rowOk at o2
    simp only [Bool.and_eq_true, decide_eq_true_eq] at o2
    exact o2
  obtain ⟨ad, hA, hcd⟩ := str_cell hr0 d hb1.1 hb1.2.1
  obtain ⟨ad', hA', hce⟩ := str_cell hr0 e hb2.1 hb2.2.1
  rw [hA] at hA'
  injection hA' with hA'
  subst hA'
  subst hA
  obtain ⟨S, hS⟩ : ∃ S, (docAt l0 d).extract i.toNat (docAt l0 d).size = S := ⟨_, rfl⟩
  obtain ⟨T, hT⟩ : ∃ T, (docAt l0 e).extract j.toNat (docAt l0 e).size = T := ⟨_, rfl⟩
  have hinv0 : ltS ((bytesOf S).drop 0) d ((bytesOf T).drop 0) e = lessB l0 d i e j := by
    unfold lessB suf
    rw [o1, o2, List.drop_zero, List.drop_zero, ← hS, ← hT, bytesOf_extract, bytesOf_extract]
    rfl
  have I1 := Aside0.mk (fun w' (hr : Kd.C Kd.string w' (some ad) l0.length l0) => is_calls (some ad) c0 l0 d i w' hr hc0)
  have I2 := Aside0.mk (fun w' (hr : Kd.C Kd.string w' (some ad) l0.length l0) => is_calls (some ad) c0 l0 e j w' hr hc0)
  rw [o1] at I1
  rw [o2] at I2
  have HC := Aside0.mk hr0
  have HK0 : Aside0 (0 ≤ S.size ∧ 0 ≤ T.size ∧ ltS ((bytesOf S).drop 0) d ((bytesOf T).drop 0) e = lessB l0 d i e j) := ⟨⟨by omega, by omega, hinv0⟩⟩
  have HS := Aside0.mk hS
  have HT := Aside0.mk hT
  have HSZ : Aside0 ((S.size : Int) ≤ 9223372036854775806) := ⟨by rw [← hS, ByteArray.size_extract]; omega⟩
  have hu24 := Tryz.underlying75
  clear hr0 hinv0 o1 o2 hS hT hsz0
  obtain ⟨W0, hW0⟩ : ∃ W0, (w.alloc (.cells #[.int .i64 d, .int .i64 i] 75)).alloc (.cells #[.int .i64 e, .int .i64 j] 75) = W0 := ⟨_, rfl⟩
  have HBW0 : Aside0 (G w W0) := ⟨by rw [← hW0]; exact (G.alloc _ _).trans (G.alloc _ _)⟩
  have z1 : W0.cell? ⟨w.heap.size, 0, none⟩ = some (.int .i64 d) := by rw [← hW0]; exact pw_cell_below (below_alloc (Below.refl _ _) _) (cell_new w _ _ 0 _ rfl)
  have z2 : W0.cell? ⟨w.heap.size, 1, none⟩ = some (.int .i64 i) := by rw [← hW0]; exact pw_cell_below (below_alloc (Below.refl _ _) _) (cell_new w _ _ 1 _ rfl)
  have z3 : W0.cell? ⟨w.heap.size + 1, 0, none⟩ = some (.int .i64 e) := by rw [← hW0]; have := cell_new (w.alloc (.cells #[.int .i64 d, .int .i64 i] 75)) #[.int .i64 e, .int .i64 j] 75 0 _ rfl; rwa [size_alloc] at this
  have z4 : W0.cell? ⟨w.heap.size + 1, 1, none⟩ = some (.int .i64 j) := by rw [← hW0]; have := cell_new (w.alloc (.cells #[.int .i64 d, .int .i64 i] 75)) #[.int .i64 e, .int .i64 j] 75 1 _ rfl; rwa [size_alloc] at this
  have Z := Aside0.mk (And.intro z1 (And.intro z2 (And.intro z3 z4)))
  have HD := Aside0.mk (And.intro hcd hce)
  have W0E := Aside0.mk hW0
  clear z1 z2 z3 z4 hW0 hcd hce
  go_enter Tryz.func102, Tryz.ntmps102
  go_wp2_with fail
  rw [W0E.out]
  refine wp_scope_jumps 0 (fun a' w' => ∃ (k : Nat) (u1 u2 u3 u6 u10 u11 u12 u13 u14 u15 u16 u17 u18 u19 u20 u21 u22 u23 u24 u25 u26 u27 u28 u29 u30 u31 u32 u33 u34 u35 u36 u37 u38 u39 u40 u41 u42 u43 u44 u45 u46 u47 u48 u49 u50 u51 u52 u53 u54 u55 u56 u57 u58 u59 u60 u61 u62 u63 u64 u65 u66 u67 u68 u69 u70 u71 u72 u73 u74 u75 u76 u77 u78 : Value), a' = { tmps := #[.slice (some ad) l0.length c0, u1, u2, u3, .pointer (some ⟨w.heap.size, 0, none⟩), .pointer (some ⟨w.heap.size + 1, 0, none⟩), u6, .string S, .string T, .int .i64 k, u10, u11, u12, u13, u14, u15, u16, u17, u18, u19, u20, u21, u22, u23, u24, u25, u26, u27, u28, u29, u30, u31, u32, u33, u34, u35, u36, u37, u38, u39, u40, u41, u42, u43, u44, u45, u46, u47, u48, u49, u50, u51, u52, u53, u54, u55, u56, u57, u58, u59, u60, u61, u62, u63, u64, u65, u66, u67, u68, u69, u70, u71, u72, u73, u74, u75, u76, u77, u78], defers := [] } ∧ Aside0 (G w w') ∧ Aside0 (w'.cell? ⟨w.heap.size, 0, none⟩ = some (.int .i64 d) ∧ w'.cell? ⟨w.heap.size + 1, 0, none⟩ = some (.int .i64 e)) ∧ Aside0 (k ≤ S.size ∧ k ≤ T.size ∧ ltS ((bytesOf S).drop k) d ((bytesOf T).drop k) e = lessB l0 d i e j)) (fun a' _ => S.size - (intOf (a'.tmps.getD 9 undef)).toNat) rfl ?_ ?_
  · have z1 := Z.out.1
    have z2 := Z.out.2.1
    have z3 := Z.out.2.2.1
    have z4 := Z.out.2.2.2
    go_wp2_with fail
    refine (I1.out _ (Kd.C_below HC.out HBW0.out.below)).mono ?_
    rintro en w1 ⟨rfl, hg⟩
    have hb := hg.below
    have y1 := pw_cell_below hb z1
    have y2 := pw_cell_below hb z2
    have y3 := pw_cell_below hb z3
    have y4 := pw_cell_below hb z4
    have HB1 := Aside0.mk (HBW0.out.trans hg)
    clear z1 z2 z3 z4 hb hg
    go_wp2_with fail
    refine (I2.out _ (Kd.C_below HC.out HB1.out.below)).mono ?_
    rintro en w2 ⟨rfl, hg⟩
    have hb := hg.below
    have z1 := pw_cell_below hb y1
    have z2 := pw_cell_below hb y2
    have z3 := pw_cell_below hb y3
    have z4 := pw_cell_below hb y4
    have HBW := Aside0.mk (HB1.out.trans hg)
    have x1 := pw_cell_below HBW.out.below HD.out.1
    have x2 := pw_cell_below HBW.out.below HD.out.2
    have p1 : (0 ≤ d) = True := eq_true hb1.1
    have p2 : (d < (l0.length : Int)) = True := eq_true hb1.2.1
    have p3 : (0 ≤ i) = True := eq_true hb1.2.2.1
    have p4 : (i ≤ ((docAt l0 d).size : Int)) = True := eq_true hb1.2.2.2
    have p5 : (0 ≤ e) = True := eq_true hb2.1
    have p6 : (e < (l0.length : Int)) = True := eq_true hb2.2.1
    have p7 : (0 ≤ j) = True := eq_true hb2.2.2.1
    have p8 : (j ≤ ((docAt l0 e).size : Int)) = True := eq_true hb2.2.2.2
    clear y1 y2 y3 y4 hb hg
    go_wp2_with fail
    go_quiet (fail)
    clear p1 p2 p3 p4 p5 p6 p7 p8
    rw [HS.out, HT.out]
    have HK := HK0
    go_wp2_with fail
    go_step3
    have hks := HK.out.1
    have hkt := HK.out.2.1
    have hinv := HK.out.2.2
    have b0 := bt_at S (0 : Int)
    have b1 := bt_at T (0 : Int)
    rw [show (0 : Int).toNat = 0 from rfl] at b0 b1
    by_cases hS : 0 = S.size
    · by_cases hT : 0 = T.size
      · have c1 : ((0 : Int) == (S.size : Int)) = true := beq_iff_eq.2 (by omega)
        have c2 : ((0 : Int) == (T.size : Int)) = true := beq_iff_eq.2 (by omega)
        have hr : lessB l0 d i e j = decide (d < e) := by rw [← hinv]; exact ltS_end hS hT
        have HR := Aside0.mk hr
        clear hr hinv hks hkt hS hT
        go_wp2_with fail
        (try simp only [Exit.jump])
        (try rw [Exit.noGoto_ret])
        go_ret
        exact ⟨congrArg (fun z => Ending.returned (.bool z)) HR.out.symm, HBW.out.trans (G.drew _ _)⟩
      · have c1 : ((0 : Int) == (S.size : Int)) = true := beq_iff_eq.2 (by omega)
        have c2 : ((0 : Int) == (T.size : Int)) = false := beq_eq_false_iff_ne.2 (by omega)
        have hr : lessB l0 d i e j = true := by rw [← hinv]; exact ltS_short hS (by omega)
        have HR := Aside0.mk hr
        clear hr hinv hks hkt hS hT
        go_wp2_with fail
        (try simp only [Exit.jump])
        (try rw [Exit.noGoto_ret])
        go_ret
        exact ⟨congrArg (fun z => Ending.returned (.bool z)) HR.out.symm, HBW.out.trans (G.drew _ _)⟩
    · have c1 : ((0 : Int) == (S.size : Int)) = false := beq_eq_false_iff_ne.2 (by omega)
      by_cases hT : 0 = T.size
      · have c2 : ((0 : Int) == (T.size : Int)) = true := beq_iff_eq.2 (by omega)
        have hr : lessB l0 d i e j = false := by rw [← hinv]; exact ltS_long (by omega) hT
        have HR := Aside0.mk hr
        clear hr hinv hks hkt hS hT
        go_wp2_with fail
        (try simp only [Exit.jump])
        (try rw [Exit.noGoto_ret])
        go_ret
        exact ⟨congrArg (fun z => Ending.returned (.bool z)) HR.out.symm, HBW.out.trans (G.drew _ _)⟩
      · have c2 : ((0 : Int) == (T.size : Int)) = false := beq_eq_false_iff_ne.2 (by omega)
        have k1 : 0 < S.size := by omega
        have k2 : 0 < T.size := by omega
        have v1 : ((0 : Int) < (S.size : Int)) = True := eq_true (by omega)
        have v2 : ((0 : Int) < (T.size : Int)) = True := eq_true (by omega)
        have v3 : (0 ≤ (0 : Int)) = True := eq_true (by omega)
        have hstep := ltS_step d e k1 k2
        (try rw [show ((0 : Nat) : Int) = 0 from rfl] at hstep)
        by_cases hE : bt S (0 : Int) = bt T (0 : Int)
        · have c3 : (bt S (0 : Int) == bt T (0 : Int)) = true := beq_iff_eq.2 hE
          rw [if_pos hE] at hstep
          have HK2 : Aside0 (0 + 1 ≤ S.size ∧ 0 + 1 ≤ T.size ∧ ltS ((bytesOf S).drop (0 + 1)) d ((bytesOf T).drop (0 + 1)) e = lessB l0 d i e j) := ⟨⟨by omega, by omega, by rw [← hstep]; exact hinv⟩⟩
          have hsz : (S.size : Int) ≤ 9223372036854775807 := by have := HSZ.out; omega
          clear hstep hinv hks hkt hS hT hE
          go_wp2_with fail
          go_quiet (fail)
          clear v1 v2 v3
          go_wp2_with fail
          go_step3
          exact ⟨rfl, 1, _, _, _, _, _, _, _, _, _, _, _, _, _, _, _, _, _, _, _, _, _, _, _, _, _, _, _, _, _, _, _, _, _, _, _, _, _, _, _, _, _, _, _, _, _, _, _, _, _, _, _, _, _, _, _, _, _, _, _, _, _, _, _, _, _, _, _, _, _, _, _, _, _, rfl, ⟨HBW.out.trans (G.drew _ _)⟩, ⟨⟨z1, z3⟩⟩, HK2⟩
        · have c3 : (bt S (0 : Int) == bt T (0 : Int)) = false := beq_eq_false_iff_ne.2 hE
          rw [if_neg hE] at hstep
          have hr : lessB l0 d i e j = decide (bt S (0 : Int) < bt T (0 : Int)) := by rw [← hinv]; exact hstep
          have HR := Aside0.mk hr
          clear hstep hinv hr hks hkt hS hT hE
          go_wp2_with fail
          go_quiet (fail)
          go_wp2_with fail
          go_quiet (fail)
          clear v1 v2 v3
          go_wp2_with fail
          (try simp only [Exit.jump])
          (try rw [Exit.noGoto_ret])
          go_ret
          exact ⟨congrArg (fun z => Ending.returned (.bool z)) HR.out.symm, HBW.out.trans (G.drew _ _)⟩
  · rintro a' w' ⟨k, u1, u2, u3, u6, u10, u11, u12, u13, u14, u15, u16, u17, u18, u19, u20, u21, u22, u23, u24, u25, u26, u27, u28, u29, u30, u31, u32, u33, u34, u35, u36, u37, u38, u39, u40, u41, u42, u43, u44, u45, u46, u47, u48, u49, u50, u51, u52, u53, u54, u55, u56, u57, u58, u59, u60, u61, u62, u63, u64, u65, u66, u67, u68, u69, u70, u71, u72, u73, u74, u75, u76, u77, u78, rfl, HBW, HZ, HK⟩
    have z1 := HZ.out.1
    have z3 := HZ.out.2
    have hks := HK.out.1
    have hkt := HK.out.2.1
    have hinv := HK.out.2.2
    have b0 := bt_at S (k : Int)
    have b1 := bt_at T (k : Int)
    rw [Int.toNat_natCast] at b0 b1
    by_cases hS : k = S.size
    · by_cases hT : k = T.size
      · have c1 : ((k : Int) == (S.size : Int)) = true := beq_iff_eq.2 (by omega)
        have c2 : ((k : Int) == (T.size : Int)) = true := beq_iff_eq.2 (by omega)
        have hr : lessB l0 d i e j = decide (d < e) := by rw [← hinv]; exact ltS_end hS hT
        have HR := Aside0.mk hr
        clear hr hinv hks hkt hS hT
        go_wp2_with fail
        (try simp only [Exit.jump])
        (try rw [Exit.noGoto_ret])
        go_ret
        exact ⟨congrArg (fun z => Ending.returned (.bool z)) HR.out.symm, HBW.out⟩
      · have c1 : ((k : Int) == (S.size : Int)) = true := beq_iff_eq.2 (by omega)
        have c2 : ((k : Int) == (T.size : Int)) = false := beq_eq_false_iff_ne.2 (by omega)
        have hr : lessB l0 d i e j = true := by rw [← hinv]; exact ltS_short hS (by omega)
        have HR := Aside0.mk hr
        clear hr hinv hks hkt hS hT
        go_wp2_with fail
        (try simp only [Exit.jump])
        (try rw [Exit.noGoto_ret])
        go_ret
        exact ⟨congrArg (fun z => Ending.returned (.bool z)) HR.out.symm, HBW.out⟩
    · have c1 : ((k : Int) == (S.size : Int)) = false := beq_eq_false_iff_ne.2 (by omega)
      by_cases hT : k = T.size
      · have c2 : ((k : Int) == (T.size : Int)) = true := beq_iff_eq.2 (by omega)
        have hr : lessB l0 d i e j = false := by rw [← hinv]; exact ltS_long (by omega) hT
        have HR := Aside0.mk hr
        clear hr hinv hks hkt hS hT
        go_wp2_with fail
        (try simp only [Exit.jump])
        (try rw [Exit.noGoto_ret])
        go_ret
        exact ⟨congrArg (fun z => Ending.returned (.bool z)) HR.out.symm, HBW.out⟩
      · have c2 : ((k : Int) == (T.size : Int)) = false := beq_eq_false_iff_ne.2 (by omega)
        have k1 : k < S.size := by omega
        have k2 : k < T.size := by omega
        have v1 : ((k : Int) < (S.size : Int)) = True := eq_true (by omega)
        have v2 : ((k : Int) < (T.size : Int)) = True := eq_true (by omega)
        have v3 : (0 ≤ (k : Int)) = True := eq_true (by omega)
        have hstep := ltS_step d e k1 k2
        (try rw [show ((0 : Nat) : Int) = 0 from rfl] at hstep)
        by_cases hE : bt S (k : Int) = bt T (k : Int)
        · have c3 : (bt S (k : Int) == bt T (k : Int)) = true := beq_iff_eq.2 hE
          rw [if_pos hE] at hstep
          have HK2 : Aside0 (k + 1 ≤ S.size ∧ k + 1 ≤ T.size ∧ ltS ((bytesOf S).drop (k + 1)) d ((bytesOf T).drop (k + 1)) e = lessB l0 d i e j) := ⟨⟨by omega, by omega, by rw [← hstep]; exact hinv⟩⟩
          have hsz : (S.size : Int) ≤ 9223372036854775807 := by have := HSZ.out; omega
          clear hstep hinv hks hkt hS hT hE
          go_wp2_with fail
          go_quiet (fail)
          clear v1 v2 v3
          go_wp2_with fail
          go_step3
          exact ⟨rfl, ⟨k + 1, _, _, _, _, _, _, _, _, _, _, _, _, _, _, _, _, _, _, _, _, _, _, _, _, _, _, _, _, _, _, _, _, _, _, _, _, _, _, _, _, _, _, _, _, _, _, _, _, _, _, _, _, _, _, _, _, _, _, _, _, _, _, _, _, _, _, _, _, _, _, _, _, _, rfl, ⟨HBW.out.trans (G.drew _ _)⟩, ⟨⟨z1, z3⟩⟩, HK2⟩, by simp [intOf]; omega⟩
        · have c3 : (bt S (k : Int) == bt T (k : Int)) = false := beq_eq_false_iff_ne.2 hE
          rw [if_neg hE] at hstep
          have hr : lessB l0 d i e j = decide (bt S (k : Int) < bt T (k : Int)) := by rw [← hinv]; exact hstep
          have HR := Aside0.mk hr
          clear hstep hinv hr hks hkt hS hT hE
          go_wp2_with fail
          go_quiet (fail)
          go_wp2_with fail
          go_quiet (fail)
          clear v1 v2 v3
          go_wp2_with fail
          (try simp only [Exit.jump])
          (try rw [Exit.noGoto_ret])
          go_ret
          exact ⟨congrArg (fun z => Ending.returned (.bool z)) HR.out.symm, HBW.out.trans (G.drew _ _)⟩

end Go.Proofs.YtkcpkecaliegfaaGreat.P


end
section
set_option linter.unusedVariables false
set_option linter.unusedSimpArgs false
namespace Go.Proofs.YtkcpkecaliegfaaGreat.P
open Go.RowKit Go.Proofs.YtkcpkecaliegfaaGreatW.PrintWords Go.Proofs.YtkcpkecaliegfaaGreatW.PrintLast Go.Proofs.YtkcpkecaliegfaaGreatW.PrintMore

set_option maxRecDepth 100000 in
set_option maxHeartbeats 4000000 in
theorem less_no (A0 : Option Addr) (c0 : Nat) (l0 : List ByteArray) (d i e j : Int) (w : World) (hr0 : Kd.C Kd.string w A0 l0.length l0) (hc0 : l0.length ≤ c0) (o : (rowOk l0 d i && rowOk l0 e j) = false) :
    Calls Tryz.prog 102 #[.slice A0 l0.length c0, .agg #[.int .i64 d, .int .i64 i], .agg #[.int .i64 e, .int .i64 j]] w fun en w' => en = .returned (.bool false) ∧ G w w' := by
  have I1 := Aside0.mk (fun w' (hr : Kd.C Kd.string w' A0 l0.length l0) => is_calls A0 c0 l0 d i w' hr hc0)
  have I2 := Aside0.mk (fun w' (hr : Kd.C Kd.string w' A0 l0.length l0) => is_calls A0 c0 l0 e j w' hr hc0)
  have HC := Aside0.mk hr0
  have hu24 := Tryz.underlying75
  obtain ⟨W0, hW0⟩ : ∃ W0, (w.alloc (.cells #[.int .i64 d, .int .i64 i] 75)).alloc (.cells #[.int .i64 e, .int .i64 j] 75) = W0 := ⟨_, rfl⟩
  have HBW0 : Aside0 (G w W0) := ⟨by rw [← hW0]; exact (G.alloc _ _).trans (G.alloc _ _)⟩
  have z1 : W0.cell? ⟨w.heap.size, 0, none⟩ = some (.int .i64 d) := by rw [← hW0]; exact pw_cell_below (below_alloc (Below.refl _ _) _) (cell_new w _ _ 0 _ rfl)
  have z2 : W0.cell? ⟨w.heap.size, 1, none⟩ = some (.int .i64 i) := by rw [← hW0]; exact pw_cell_below (below_alloc (Below.refl _ _) _) (cell_new w _ _ 1 _ rfl)
  have z3 : W0.cell? ⟨w.heap.size + 1, 0, none⟩ = some (.int .i64 e) := by rw [← hW0]; have := cell_new (w.alloc (.cells #[.int .i64 d, .int .i64 i] 75)) #[.int .i64 e, .int .i64 j] 75 0 _ rfl; rwa [size_alloc] at this
  have z4 : W0.cell? ⟨w.heap.size + 1, 1, none⟩ = some (.int .i64 j) := by rw [← hW0]; have := cell_new (w.alloc (.cells #[.int .i64 d, .int .i64 i] 75)) #[.int .i64 e, .int .i64 j] 75 1 _ rfl; rwa [size_alloc] at this
  have W0E := Aside0.mk hW0
  clear hr0 hW0
  by_cases o1 : rowOk l0 d i = true
  · rw [o1, Bool.true_and] at o
    rw [o1] at I1
    rw [o] at I2
    clear o o1
    go_enter Tryz.func102, Tryz.ntmps102
    go_wp2_with fail
    rw [W0E.out]
    refine wp_scope_jumps 0 (fun _ _ => False) (fun _ _ => 0) rfl ?_ (by rintro a' w' h; exact h.elim)
    go_wp2_with fail
    refine (I1.out _ (Kd.C_below HC.out HBW0.out.below)).mono ?_
    rintro en w1 ⟨rfl, hg⟩
    have hb := hg.below
    have y3 := pw_cell_below hb z3
    have y4 := pw_cell_below hb z4
    have HB1 := Aside0.mk (HBW0.out.trans hg)
    clear z1 z2 z3 z4 hb hg
    go_wp2_with fail
    refine (I2.out _ (Kd.C_below HC.out HB1.out.below)).mono ?_
    rintro en w2 ⟨rfl, hg⟩
    have HBW := Aside0.mk (HB1.out.trans hg)
    clear y3 y4 hg
    go_wp2_with fail
    (try simp only [Exit.jump])
    (try rw [Exit.noGoto_ret])
    go_ret
    exact ⟨rfl, HBW.out⟩
  · have o2 : rowOk l0 d i = false := by revert o1; cases rowOk l0 d i <;> simp
    rw [o2] at I1
    clear o o1 o2
    go_enter Tryz.func102, Tryz.ntmps102
    go_wp2_with fail
    rw [W0E.out]
    refine wp_scope_jumps 0 (fun _ _ => False) (fun _ _ => 0) rfl ?_ (by rintro a' w' h; exact h.elim)
    go_wp2_with fail
    refine (I1.out _ (Kd.C_below HC.out HBW0.out.below)).mono ?_
    rintro en w1 ⟨rfl, hg⟩
    have HBW := Aside0.mk (HBW0.out.trans hg)
    clear z1 z2 z3 z4 hg
    go_wp2_with fail
    (try simp only [Exit.jump])
    (try rw [Exit.noGoto_ret])
    go_ret
    exact ⟨rfl, HBW.out⟩

theorem less_any (A0 : Option Addr) (c0 : Nat) (l0 : List ByteArray) (d i e j : Int) (w : World) (hr0 : Kd.C Kd.string w A0 l0.length l0) (hc0 : l0.length ≤ c0) (hsz : (docAt l0 d).size ≤ 140737488351232) :
    Calls Tryz.prog 102 #[.slice A0 l0.length c0, .agg #[.int .i64 d, .int .i64 i], .agg #[.int .i64 e, .int .i64 j]] w fun en w' => en = .returned (.bool (lessB l0 d i e j)) ∧ G w w' := by
  by_cases o1 : rowOk l0 d i = true
  · by_cases o2 : rowOk l0 e j = true
    · exact less_ok A0 c0 l0 d i e j w hr0 hc0 o1 o2 hsz
    · have o3 : rowOk l0 e j = false := by revert o2; cases rowOk l0 e j <;> simp
      have : lessB l0 d i e j = false := by unfold lessB; rw [o3, Bool.false_and, Bool.and_false]
      rw [this]
      exact less_no A0 c0 l0 d i e j w hr0 hc0 (by rw [o3, Bool.and_false])
  · have o3 : rowOk l0 d i = false := by revert o1; cases rowOk l0 d i <;> simp
    have : lessB l0 d i e j = false := by unfold lessB; rw [o3, Bool.false_and]
    rw [this]
    exact less_no A0 c0 l0 d i e j w hr0 hc0 (by rw [o3, Bool.false_and])

theorem rows_Less.calls (A0 : Option Addr) (c0 : Nat) (l0 : List ByteArray) (a1_0 a1_1 a2_0 a2_1 : Int) (r : Bool) (w : World) (hr0 : Kd.C Kd.string w A0 l0.length l0) (hc0 : l0.length ≤ c0) (h : rows_Less.f l0 a1_0 a1_1 a2_0 a2_1 = some r) :
    Calls Tryz.prog 102 #[.slice A0 l0.length c0, .agg #[.int .i64 a1_0, .int .i64 a1_1], .agg #[.int .i64 a2_0, .int .i64 a2_1]] w fun e w' => e = .returned (.bool r) ∧ Below w.heap.size w w' := by
  unfold rows_Less.f at h
  by_cases hs : (docAt l0 a1_0).size ≤ 140737488351232
  · rw [if_pos hs] at h
    injection h with h
    subst h
    exact (less_any A0 c0 l0 a1_0 a1_1 a2_0 a2_1 w hr0 hc0 hs).mono fun en w' ⟨h1, h2⟩ => ⟨h1, h2.below⟩
  · rw [if_neg hs] at h
    cases h
end Go.Proofs.YtkcpkecaliegfaaGreat.P

end
section
set_option linter.unusedVariables false
set_option linter.unusedSimpArgs false
namespace Go.Proofs.YtkcpkecaliegfaaGreat.P
open Go.RowKit Go.Proofs.YtkcpkecaliegfaaGreatW.PrintWords Go.Proofs.YtkcpkecaliegfaaGreatW.PrintLast Go.Proofs.YtkcpkecaliegfaaGreatW.PrintMore

set_option maxRecDepth 100000 in
set_option maxHeartbeats 4000000 in
theorem sorted_no (A0 : Option Addr) (c0 : Nat) (l0 : List ByteArray) (w : World) (hr0 : Kd.C Kd.string w A0 l0.length l0) (hc0 : l0.length ≤ c0) (hR : rightB l0 = false) :
    Calls Tryz.prog 82 #[.slice A0 l0.length c0] w fun e w' => ∃ v0_ : Value, e = .returned v0_ ∧ k75.R 75 w' w.heap.size (fun _ => True) v0_ (sortedRows l0) ∧ Below w.heap.size w w' := by
  have hs : sortedRows l0 = [] := by unfold sortedRows; rw [hR]; rfl
  rw [hs]
  have hb0 : Below w.heap.size w (w.alloc (.cells #[.slice A0 l0.length c0] 23)) := below_alloc (Below.refl _ _) _
  have z5 : (w.alloc (.cells #[.slice A0 l0.length c0] 23)).cell? ⟨w.heap.size, 0, none⟩ = some (.slice A0 l0.length c0) := cell_new w _ _ 0 _ rfl
  have RC := Aside0.mk (rows_Right.calls A0 c0 l0 false _ (Kd.C_below hr0 hb0) hc0 (by unfold rows_Right.f; rw [hR]))
  have HB := Aside0.mk hb0
  clear hr0 hb0 hs hR hc0
  go_enter Tryz.func82, Tryz.ntmps82
  go_wp2_with fail
  refine RC.out.mono ?_
  rintro en w2 ⟨rfl, hb⟩
  have HB2 := Aside0.mk (below_step HB.out hb)
  clear z5 hb
  go_wp2_with fail
  go_ret
  exact ⟨_, rfl, Kd.R_nil _ _ _ _ _, HB2.out⟩

set_option maxRecDepth 100000 in
set_option maxHeartbeats 8000000 in
theorem sorted_yes (A0 : Option Addr) (c0 : Nat) (l0 : List ByteArray) (w : World) (hr0 : Kd.C Kd.string w A0 l0.length l0) (hc0 : l0.length ≤ c0) (hR : rightB l0 = true) :
    Calls Tryz.prog 82 #[.slice A0 l0.length c0] w fun e w' => ∃ v0_ : Value, e = .returned v0_ ∧ k75.R 75 w' w.heap.size (fun _ => True) v0_ (sortedRows l0) ∧ Below w.heap.size w w' := by
  have HL : LessOk A0 c0 l0 := fun d i e j w' hr => less_any A0 c0 l0 d i e j w' hr hc0 (by have := right_doc hR d; omega)
  have hlen := right_len hR
  have HT := Aside0.mk (rowsTo_le hR)
  have HD := Aside0.mk (fun d : Int => right_doc hR d)
  have hb0 : Below w.heap.size w (w.alloc (.cells #[.slice A0 l0.length c0] 23)) := below_alloc (Below.refl _ _) _
  have z5 : (w.alloc (.cells #[.slice A0 l0.length c0] 23)).cell? ⟨w.heap.size, 0, none⟩ = some (.slice A0 l0.length c0) := cell_new w _ _ 0 _ rfl
  have hrA := Kd.C_below hr0 hb0
  have RC := Aside0.mk (rows_Right.calls A0 c0 l0 true _ hrA hc0 (by unfold rows_Right.f; rw [hR]))
  have SA := Aside0.mk (fun (w1 w' : World) (v : Value) => sort_all A0 c0 l0 HL hR w.heap.size w1 w' v)
  have HB := Aside0.mk hb0
  have HRA := Aside0.mk hrA
  have Z5 := Aside0.mk z5
  clear hr0 hb0 hR hc0 hrA HL
  obtain ⟨W1, hW1⟩ : ∃ W1, w.alloc (.cells #[.slice A0 l0.length c0] 23) = W1 := ⟨_, rfl⟩
  have W1E := Aside0.mk hW1
  rw [hW1] at HB HRA Z5
  clear hW1
  go_enter Tryz.func82, Tryz.ntmps82
  go_wp2_with fail
  refine RC.out.mono ?_
  rintro en w2 ⟨rfl, hb⟩
  rw [W1E.out] at hb
  have HB2 := Aside0.mk hb
  have y5 := pw_cell_below hb Z5.out
  clear z5 hb
  go_wp2_with fail
  clear y5
  go_loopw [3, 12] (fun v3 v12 w' => ∃ D : Nat, D ≤ l0.length ∧ v12 = .int .i64 D ∧ Aside0 (k75.R 75 w' W1.heap.size (fun _ => True) v3 (rowsTo l0 D)) ∧ Aside0 (Below W1.heap.size W1 w')) (fun _ v12 _ => l0.length - (intOf v12).toNat)
  case atStart => exact ⟨0, Nat.zero_le _, rfl, ⟨Kd.R_nil _ _ _ _ _⟩, ⟨by repeat (first | (with_reducible first | exact HB2.out | apply below_alloc | apply pw_below_drewN | apply below_drew1) | exact HB2.out)⟩⟩
  case round =>
    obtain ⟨D, hD, rfl, HO, HBD⟩ := hrel
    by_cases hlt : D < l0.length
    · obtain ⟨ad, hA, hcd⟩ := str_cell (Kd.C_below HRA.out HBD.out) (D : Int) (by omega) (by omega)
      subst hA
      have hsz := HD.out (D : Int)
      have hto := HT.out D
      have hst : rowsTo l0 (D + 1) = rowsTo l0 D ++ rowsOf l0 D ((docAt l0 D).size + 1) := rfl
      have HST := Aside0.mk hst
      obtain ⟨S, hS⟩ : ∃ S, docAt l0 (D : Int) = S := ⟨_, rfl⟩
      rw [hS] at hcd hsz HST
      have c1 : decide ((D : Int) < (l0.length : Int)) = true := decide_eq_true (by omega)
      have v1 : ((D : Int) < (l0.length : Int)) = True := eq_true (by omega)
      have v2 : (0 ≤ (D : Int)) = True := eq_true (by omega)
      have v3 : IntKind.i64.wrap ((S.size : Int) + 1) = (S.size : Int) + 1 := IntWalk.i64_in _ (by omega)
      have v4 : IntKind.i64.wrap ((D : Int) + 1) = (D : Int) + 1 := IntWalk.i64_in _ (by omega)
      rw [Int.toNat_natCast] at hcd
      have LIM : Aside0 ((rowsTo l0 D).length ≤ D * 41 ∧ D < 10 ∧ S.size ≤ 40) := ⟨⟨hto, by omega, hsz⟩⟩
      clear hst hto hS hsz
      go_wp2_with fail
      clear hcd v1 v2 v3
      go_loopw [3, 20] (fun v3 v20 w' => ∃ i : Nat, i ≤ S.size + 1 ∧ v20 = .int .i64 i ∧ Aside0 (k75.R 75 w' W1.heap.size (fun _ => True) v3 (rowsTo l0 D ++ rowsOf l0 D i)) ∧ Aside0 (Below W1.heap.size W1 w')) (fun _ v20 _ => S.size + 1 - (intOf v20).toNat)
      case atStart => exact ⟨0, Nat.zero_le _, rfl, ⟨by rw [show rowsOf l0 D 0 = [] from rfl, List.append_nil]; (with_reducible repeat (first | apply Kd.R_alloc | apply Kd.R_drewN | apply Kd.R_drew)); exact HO.out⟩, ⟨by repeat (first | (with_reducible first | exact HBD.out | apply below_alloc | apply pw_below_drewN | apply below_drew1) | exact HBD.out)⟩⟩
      case round =>
        obtain ⟨i, hi, rfl, HO2, HBI⟩ := hrel
        by_cases hil : i < S.size + 1
        · have c2 : decide ((i : Int) < (S.size : Int) + 1) = true := decide_eq_true (by omega)
          have v5 : IntKind.i64.wrap ((i : Int) + 1) = (i : Int) + 1 := IntWalk.i64_in _ (by have := LIM.out; omega)
          have hrs := rowsOf_succ l0 D i
          obtain ⟨X, hX⟩ : ∃ X, X = rowsTo l0 D ++ rowsOf l0 D i := ⟨_, rfl⟩
          have hXl : X.length ≤ D * 41 + i := by rw [hX, List.length_append, rowsOf_length]; have := LIM.out.1; omega
          have hX2 : rowsTo l0 D ++ rowsOf l0 D (i + 1) = X ++ [(⟨(D : Int), (i : Int)⟩ : S75)] := by rw [hrs, hX, List.append_assoc]
          rw [← hX] at HO2
          have HX2 := Aside0.mk hX2
          have LM : Aside0 (X.length < 8000000000) := ⟨by have := LIM.out; omega⟩
          clear hrs hX hXl hX2
          go_wp2_with (first | ((with_reducible refine gate_builtin (b := .append) (xs := #[.tmp 23, .tmp 27]) rfl ?_); at_builtin; refine Kd.R_append k75 (w0 := W1) W1.heap.size rfl (.tmp 23) (.tmp 27) 32 75 (.agg #[.int .i64 0, .int .i64 0]) 16 rfl Tryz.underlying32 info75 rfl (by decide) (by omega) u3 X (⟨(D : Int), (i : Int)⟩ : S75) [.int .i64 (D : Int), .int .i64 (i : Int)] (fun _ => True) (fun _ => False) rfl (by first | (go_simp; done) | (go_simp; rfl)) ?aP (fun _ hk => hk.elim) ?aF ?aO ?aB ?aS ?aL ?_; (case aP => exact k75_mkM _ _ _ _); (case aB => exact (by repeat (first | (with_reducible first | exact HBI.out | apply below_alloc | apply pw_below_drewN | apply below_drew1) | exact HBI.out))); (case aF => exact (fun _ _ => trivial)); (case aO => exact (by (with_reducible repeat (first | apply Kd.R_alloc | apply Kd.R_drewN | apply Kd.R_drew)); exact HO2.out)); (case aS => exact (below_size (by repeat (first | (with_reducible first | exact HBI.out | apply below_alloc | apply pw_below_drewN | apply below_drew1) | exact HBI.out)))); (case aL => have := LM.out; omega); intro v110 w19 ho hb hg hat; rw [← HX2.out] at ho; have HO3 := Aside0.mk ho; have HB3 := Aside0.mk hb; clear ho hb hg hat))
          go_roundw
          case rel => exact ⟨i + 1, by omega, by go_num, HO3, HB3⟩
          case measure => simp [intOf]; omega
        · obtain rfl : i = S.size + 1 := by omega
          rw [← HST.out] at HO2
          have c2 : decide ((S.size : Int) + 1 < (S.size : Int) + 1) = false := decide_eq_false (by omega)
          go_wp2_with fail
          go_roundw
          case rel => exact ⟨D + 1, by omega, by go_num, HO2, HBI⟩
          case measure => simp [intOf]; omega
    · obtain rfl : D = l0.length := by omega
      have c1 : decide ((l0.length : Int) < (l0.length : Int)) = false := decide_eq_false (by omega)
      have SB := Aside0.mk (SA.out W1 wr _ HRA.out Z5.out HBD.out HO.out)
      obtain ⟨A, c, hv⟩ := Kd.R_slice HO.out
      subst hv
      clear HO
      go_wp2_with fail
      refine SB.out.mono ?_
      rintro en w3 ⟨rfl, hs, hb⟩
      have HS := Aside0.mk (Kd.R_lower hs HB.out.size)
      have HB3 := Aside0.mk (below_step HB.out hb)
      clear hs hb
      go_wp2_with fail
      go_ret
      exact ⟨_, rfl, HS.out, HB3.out⟩

theorem rows_Sorted.calls (A0 : Option Addr) (c0 : Nat) (l0 : List ByteArray) (r : List S75) (w : World) (hr0 : Kd.C Kd.string w A0 l0.length l0) (hc0 : l0.length ≤ c0) (h : rows_Sorted.f l0 = some r) :
    Calls Tryz.prog 82 #[.slice A0 l0.length c0] w fun e w' => ∃ v0_ : Value, e = .returned (v0_) ∧ k75.R 75 w' w.heap.size (fun _ => True) v0_ r ∧ Below w.heap.size w w' := by
  obtain rfl := Option.some.inj h
  cases hR : rightB l0 with
  | true => exact sorted_yes A0 c0 l0 w hr0 hc0 hR
  | false => exact sorted_no A0 c0 l0 w hr0 hc0 hR
end Go.Proofs.YtkcpkecaliegfaaGreat.P

end
