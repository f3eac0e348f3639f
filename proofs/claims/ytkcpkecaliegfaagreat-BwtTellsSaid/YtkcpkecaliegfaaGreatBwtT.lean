/- The function Text of package bwt computes what the plain function textB says: the walk. Conditions: how the list lies in memory. -/
import Derived.Test.YtkcpkecaliegfaaGreatTextB
import Derived.Test.YtkcpkecaliegfaaGreatPj
import Derived.ScopeJumps
set_option linter.unusedVariables false
set_option linter.unusedSimpArgs false
namespace Go.Proofs.YtkcpkecaliegfaaGreat.P
open Go.RowKit Go.Proofs.YtkcpkecaliegfaaGreatW.PrintWords Go.Proofs.YtkcpkecaliegfaaGreatW.PrintLast Go.Proofs.YtkcpkecaliegfaaGreatW.PrintMore

def lenV : Value → Nat
 | .slice _ n _ => n
 | _ => 0
set_option maxRecDepth 100000 in
set_option maxHeartbeats 8000000 in
theorem text_yes (d : Nat) (A1 : Option Addr) (c1 : Nat) (l1 : List Int) (w : World) (hr1 : Kd.C (Kd.int .i64) w A1 l1.length l1) (hc1 : l1.length ≤ c1) (hn : l1.length ≤ 1000000) (hcol : colB l1 = true) (hd : d < rank 0 l1.length l1) :
  Calls Tryz.prog 23 #[.int .i64 d, .slice A1 l1.length c1] w fun e w' => e = .returned (.tuple #[.string (textR (textGo l1 l1.length d [])).1, .bool (textR (textGo l1 l1.length d [])).2]) ∧ Below w.heap.size w w' := by
 have hrl := rank_le 0 l1.length l1
 have hd1 : d < l1.length := by omega
 obtain ⟨ad1, hA1, _⟩ := Kd.at_int hr1 (0 : Int) (by omega) (by omega)
 subst hA1
 obtain ⟨T, hT0⟩ : ∃ T, textGo l1 l1.length d [] = T := ⟨_, rfl⟩
 rw [hT0]
 have RK := Aside0.mk (fun w' (hr : Kd.C (Kd.int .i64) w' (some ad1) l1.length l1) => bwt_Rank.calls (l1.length + 2) 0 (l1.length : Int) (some ad1) c1 l1 (rank 0 l1.length l1 : Int) w' hr hc1 (by
  rw [rank_ok l1 0 (l1.length : Int) hn _ (by omega), hcol, if_pos rfl, clamp_nat _ _ (Nat.le_refl _)]))
 have BY : Aside0 (∀ x, 0 ≤ x → x ≤ 256 → x < 1 → ∀ w', Calls Tryz.prog 77 #[.int .i64 x] w' fun e w2 => e = .returned (.tuple #[.int .u8 0, .bool false]) ∧ Drawn0 w' w2) := ⟨fun x h0 h1 h2 w' => sym_Byte.calls x 0 false w' (by unfold sym_Byte.f; rw [if_pos h2])⟩
 have BZ : Aside0 (∀ x, x ≤ 256 → 1 ≤ x → ∀ w', Calls Tryz.prog 77 #[.int .i64 x] w' fun e w2 => e = .returned (.tuple #[.int .u8 (x - 1), .bool true]) ∧ Drawn0 w' w2) := ⟨fun x h1 h2 w' => sym_Byte.calls x (x - 1) true w' (by unfold sym_Byte.f; rw [if_neg (by omega), if_neg (by omega), w64i _ (by omega), show (x - 1) % 256 = x - 1 by omega])⟩
 have NX := Aside0.mk (fun (row : Nat) (hrow : row < l1.length) (h0 : symOf l1 row ≠ 0) w' (hr : Kd.C (Kd.int .i64) w' (some ad1) l1.length l1) => bwt_Next.calls (l1.length + 2) (row : Int) (some ad1) c1 l1 (nextOf l1 row : Int) true w' hr hc1 (next_ok l1 hn row hrow hcol h0 _ (Nat.le_refl _)))
 have RV := Aside0.mk (fun (acc : List Int) (ha : acc.length ≤ 1000000) (v : Value) (w0 w' : World) (hB : Below w0.heap.size w0 w') (ho : Kd.R (Kd.int .u8) 5 w' w0.heap.size (fun _ => True) v acc.reverse) => by
  obtain ⟨k, hk⟩ := reverse_ok acc ha
  exact slices_Reverse_byte_byte.calls k (fun _ => True) v acc.reverse acc w0 w' hB ho hk)
 have SX := Aside0.mk (fun (row : Nat) (hrow : row < l1.length) => col_sym l1 hcol row hrow)
 have TN := Aside0.mk (fun (row n : Nat) (acc : List Int) (h : symOf l1 row < 1) => text_end l1 row n acc h)
 have HR1 := Aside0.mk hr1
 have HN := Aside0.mk hn
 have HF0 : Aside0 (d < l1.length ∧ ([] : List Int).length ≤ l1.length ∧ 0 = ([] : List Int).length ∧ textGo l1 (l1.length - ([] : List Int).length) d [] = T) := ⟨⟨hd1, Nat.zero_le _, rfl, hT0⟩⟩
 have t1 : decide ((d : Int) < 0) = false := decide_eq_false (by omega)
 have t2 : decide (rank 0 l1.length l1 ≤ d) = false := decide_eq_false (by omega)
 clear hr1 hc1 hn hcol hd hrl hd1 hT0
 go_enter Tryz.func23, Tryz.ntmps23
 go_wp2_with fail
 refine wp_scope_jumps 0 (fun a' w' => ∃ (A : Option Addr) (n c : Nat) (acc : List Int) (row : Nat) (u2 u3 u4 u5 u8 u9 u10 u11 u12 u13 u14 u15 u16 u17 u18 u19 u20 u21 u22 u23 u24 u25 u26 u27 u28 u29 u30 u31 u32 u33 u34 u35 u36 u37 u38 u39 u40 u41 u42 u43 u44 u45 u46 u47 u48 u49 : Value), a' = { tmps := #[.int .i64 d, .slice (some ad1) l1.length c1, u2, u3, u4, u5, .slice A n c, .int .i64 row, u8, u9, u10, u11, u12, u13, u14, u15, u16, u17, u18, u19, u20, u21, u22, u23, u24, u25, u26, u27, u28, u29, u30, u31, u32, u33, u34, u35, u36, u37, u38, u39, u40, u41, u42, u43, u44, u45, u46, u47, u48, u49], defers := [] } ∧ Aside0 (Kd.R (Kd.int .u8) 5 w' w.heap.size (fun _ => True) (.slice A n c) acc.reverse) ∧ Aside0 (Below w.heap.size w w') ∧ Aside0 (row < l1.length ∧ acc.length ≤ l1.length ∧ n = acc.length ∧ textGo l1 (l1.length - acc.length) row acc = T)) (fun a' _ => l1.length - lenV (a'.tmps.getD 6 undef)) rfl ?_ ?_
 ·go_wp2_with fail
  refine (RK.out _ HR1.out).mono ?_
  rintro en w1 ⟨rfl, hb⟩
  have HB := Aside0.mk hb
  clear hb
  go_wp2_with fail
  clear t1 t2
  have HF := HF0
  have HO : Aside0 (Kd.R (Kd.int .u8) 5 w1 w.heap.size (fun _ => True) (.slice none 0 0) ([] : List Int).reverse) := ⟨Kd.R_nil _ _ _ _ _⟩
  go_step3
  obtain ⟨hrow, hacc, hnl, hT⟩ := HF.out
  have px : (0 ≤ (d : Int)) = True := eq_true (by omega)
  have qx : ((d : Int) < (l1.length : Int)) = True := eq_true (by omega)
  obtain ⟨adx, ex, hx0⟩ := Kd.at_int HR1.out (d : Int) (by omega) (by omega)
  obtain rfl : ad1 = adx := by injection ex
  replace hx0 := (HB.out.cell (World.block_lt_of_cell? w _ hx0)).trans hx0
  have hxs : rd l1 (d : Int) = symOf l1 d := by rw [rd_get l1 d hrow, symOf_get l1 d hrow]
  rw [Int.toNat_natCast, hxs] at hx0
  have hsx := SX.out d hrow
  have hNX := NX.out d hrow
  obtain ⟨x, hxd⟩ : ∃ x, symOf l1 d = x := ⟨_, rfl⟩
  have hTN := TN.out d (l1.length - (([] : List Int)).length) ([] : List Int)
  have hTS := fun (m : Nat) (h : l1.length - (([] : List Int)).length = m + 1) (h1 : ¬ symOf l1 d < 1) => text_step l1 d m ([] : List Int) h1
  have hTZ := fun (h : l1.length - (([] : List Int)).length = 0) (h1 : ¬ symOf l1 d < 1) => text_zero l1 d ([] : List Int) h1
  rw [hxd] at hx0 hsx hNX hTN hTS hTZ
  clear hxs
  by_cases h1 : x < 1
  ·rw [hTN h1] at hT
   subst hT
   have BC := Aside0.mk (BY.out x hsx.1 hsx.2 h1)
   have LA : Aside0 ((([] : List Int)).length ≤ 1000000) := ⟨by have := HN.out; omega⟩
   clear hrow hacc hnl hTN hTS hTZ hNX hsx h1 hxd
   go_wp2_with fail
   refine (BC.out _).mono ?_
   rintro en w2 ⟨rfl, ⟨nd, rfl⟩⟩
   clear px qx hx0
   go_wp2_with fail
   refine (RV.out ([] : List Int) LA.out _ w _ (by repeat (first | (with_reducible first | exact HB.out | apply below_alloc | apply pw_below_drewN | apply below_drew1) | exact HB.out)) (by (with_reducible repeat (first | apply Kd.R_alloc | apply Kd.R_drewN | apply Kd.R_drew)); exact HO.out)).mono ?_
   rintro en w3 ⟨rfl, ho, hb, _⟩
   have hcv := own_string (P := Tryz.prog) Tryz.underlying94 Tryz.underlying5 Tryz.underlying9 (Kd.own_of_R ho)
   have HB3 := Aside0.mk hb
   clear ho hb
   go_wp2_with fail
   (try simp only [Exit.jump])
   (try rw [Exit.noGoto_ret])
   go_ret2
   exact ⟨rfl, HB3.out⟩
  ·have hbx : (x - 1) % 256 = x - 1 := by omega
   have BC := Aside0.mk (BZ.out x hsx.2 (by omega))
   have NC := Aside0.mk (hNX (by omega))
   by_cases he : 0 = l1.length
   ·have t3 : ((0 : Int) == (l1.length : Int)) = true := beq_iff_eq.2 (by omega)
    rw [show l1.length - (([] : List Int)).length = 0 by omega, hTZ (by omega) h1] at hT
    subst hT
    clear hrow hacc hnl hTN hTS hTZ hNX hsx h1 hxd he hbx
    go_wp2_with fail
    refine (BC.out _).mono ?_
    rintro en w2 ⟨rfl, ⟨nd, rfl⟩⟩
    clear px qx hx0
    go_wp2_with fail
    (try simp only [Exit.jump])
    (try rw [Exit.noGoto_ret])
    go_ret2
    exact ⟨rfl, by repeat (first | (with_reducible first | exact HB.out | apply below_alloc | apply pw_below_drewN | apply below_drew1) | exact HB.out)⟩
   ·have t3 : ((0 : Int) == (l1.length : Int)) = false := beq_eq_false_iff_ne.2 (by omega)
    have hlt := before_rank_lt l1 d hrow
    obtain ⟨m, hm⟩ : ∃ m, l1.length - (([] : List Int)).length = m + 1 := ⟨l1.length - (([] : List Int)).length - 1, by omega⟩
    rw [hm, hTS m hm h1] at hT
    have HF2 : Aside0 (nextOf l1 d < l1.length ∧ ((x - 1) :: ([] : List Int)).length ≤ l1.length ∧ (([] : List Int)).length + 1 = ((x - 1) :: ([] : List Int)).length ∧ textGo l1 (l1.length - ((x - 1) :: ([] : List Int)).length) (nextOf l1 d) ((x - 1) :: ([] : List Int)) = T) := ⟨⟨hlt, by rw [List.length_cons]; omega, by rw [List.length_cons], by rw [List.length_cons, show l1.length - ((([] : List Int)).length + 1) = m by omega]; exact hT⟩⟩
    have LM : Aside0 ((([] : List Int)).reverse.length < 1000001 ∧ (([] : List Int)).length = 0 ∧ ((([] : List Int)).reverse ++ [x - 1]).length = (([] : List Int)).length + 1 ∧ 0 < l1.length) := ⟨⟨by rw [List.length_reverse]; have := HN.out; omega, by omega, by rw [List.length_append, List.length_reverse, List.length_singleton], by omega⟩⟩
    have HX2 : Aside0 ((([] : List Int)).reverse ++ [x - 1] = ((x - 1) :: ([] : List Int)).reverse) := ⟨by rw [List.reverse_cons]⟩
    clear hrow hacc hnl hTN hTS hTZ hNX hsx h1 hxd he hm hT hlt hbx
    go_wp2_with fail
    refine (BC.out _).mono ?_
    rintro en w2 ⟨rfl, ⟨nd, rfl⟩⟩
    clear px qx hx0
    go_wp2_with (first | ((with_reducible refine gate_builtin (b := .append) (xs := #[.tmp 40, .tmp 42]) rfl ?_); at_builtin; refine Kd.R_append (Kd.int .u8) (w0 := w) w.heap.size rfl (.tmp 40) (.tmp 42) 94 5 (.int .u8 0) 1 rfl Tryz.underlying94 info5 rfl (by decide) (by omega) (.slice none 0 0) (([] : List Int)).reverse (x - 1) [.int .u8 (x - 1)] (fun _ => True) (fun _ => False) rfl (by first | (go_simp; done) | (go_simp; rfl)) ?aP (fun _ hk => hk.elim) ?aF ?aO ?aB ?aS ?aL ?_; (case aP => exact rfl); (case aB => exact (by repeat (first | (with_reducible first | exact HB.out | apply below_alloc | apply pw_below_drewN | apply below_drew1) | exact HB.out))); (case aF => exact (fun _ _ => trivial)); (case aO => exact (by (with_reducible repeat (first | apply Kd.R_alloc | apply Kd.R_drewN | apply Kd.R_drew)); exact HO.out)); (case aS => exact (below_size (by repeat (first | (with_reducible first | exact HB.out | apply below_alloc | apply pw_below_drewN | apply below_drew1) | exact HB.out)))); (case aL => have := LM.out.1; omega); intro v110 w19 ho hb hg hat; obtain ⟨A2, c2, hv2⟩ := Kd.R_slice ho; rw [LM.out.2.2.1] at hv2; subst hv2; rw [HX2.out] at ho; have HO2 := Aside0.mk ho; have HB2 := Aside0.mk hb; clear ho hb hg hat))
    refine (NC.out _ (Kd.C_below HR1.out (by repeat (first | (with_reducible first | exact HB2.out | apply below_alloc | apply pw_below_drewN | apply below_drew1) | exact HB2.out)))).mono ?_
    rintro en w4 ⟨rfl, hb⟩
    have HO4 := Aside0.mk (Kd.R_below (by (with_reducible repeat (first | apply Kd.R_alloc | apply Kd.R_drewN | apply Kd.R_drew)); exact HO2.out) hb)
    have HB4 := Aside0.mk (below_step (by repeat (first | (with_reducible first | exact HB2.out | apply below_alloc | apply pw_below_drewN | apply below_drew1) | exact HB2.out)) hb)
    clear hb
    go_wp2_with fail
    go_step3
    exact ⟨rfl, A2, _, c2, ((x - 1) :: []), nextOf l1 d, _, _, _, _, _, _, _, _, _, _, _, _, _, _, _, _, _, _, _, _, _, _, _, _, _, _, _, _, _, _, _, _, _, _, _, _, _, _, _, _, _, _, _, _, _, _, rfl, HO4, HB4, HF2⟩
 ·rintro a' wr ⟨A, n, c, acc, row, u2, u3, u4, u5, u8, u9, u10, u11, u12, u13, u14, u15, u16, u17, u18, u19, u20, u21, u22, u23, u24, u25, u26, u27, u28, u29, u30, u31, u32, u33, u34, u35, u36, u37, u38, u39, u40, u41, u42, u43, u44, u45, u46, u47, u48, u49, rfl, HO, HB, HF⟩
  obtain ⟨hrow, hacc, hnl, hT⟩ := HF.out
  have px : (0 ≤ (row : Int)) = True := eq_true (by omega)
  have qx : ((row : Int) < (l1.length : Int)) = True := eq_true (by omega)
  obtain ⟨adx, ex, hx0⟩ := Kd.at_int HR1.out (row : Int) (by omega) (by omega)
  obtain rfl : ad1 = adx := by injection ex
  replace hx0 := (HB.out.cell (World.block_lt_of_cell? w _ hx0)).trans hx0
  have hxs : rd l1 (row : Int) = symOf l1 row := by rw [rd_get l1 row hrow, symOf_get l1 row hrow]
  rw [Int.toNat_natCast, hxs] at hx0
  have hsx := SX.out row hrow
  have hNX := NX.out row hrow
  obtain ⟨x, hxd⟩ : ∃ x, symOf l1 row = x := ⟨_, rfl⟩
  have hTN := TN.out row (l1.length - (acc).length) acc
  have hTS := fun (m : Nat) (h : l1.length - (acc).length = m + 1) (h1 : ¬ symOf l1 row < 1) => text_step l1 row m acc h1
  have hTZ := fun (h : l1.length - (acc).length = 0) (h1 : ¬ symOf l1 row < 1) => text_zero l1 row acc h1
  rw [hxd] at hx0 hsx hNX hTN hTS hTZ
  clear hxs
  by_cases h1 : x < 1
  ·rw [hTN h1] at hT
   subst hT
   have BC := Aside0.mk (BY.out x hsx.1 hsx.2 h1)
   have LA : Aside0 ((acc).length ≤ 1000000) := ⟨by have := HN.out; omega⟩
   clear hrow hacc hnl hTN hTS hTZ hNX hsx h1 hxd
   go_wp2_with fail
   refine (BC.out _).mono ?_
   rintro en w2 ⟨rfl, ⟨nd, rfl⟩⟩
   clear px qx hx0
   go_wp2_with fail
   refine (RV.out acc LA.out _ w _ (by repeat (first | (with_reducible first | exact HB.out | apply below_alloc | apply pw_below_drewN | apply below_drew1) | exact HB.out)) (by (with_reducible repeat (first | apply Kd.R_alloc | apply Kd.R_drewN | apply Kd.R_drew)); exact HO.out)).mono ?_
   rintro en w3 ⟨rfl, ho, hb, _⟩
   have hcv := own_string (P := Tryz.prog) Tryz.underlying94 Tryz.underlying5 Tryz.underlying9 (Kd.own_of_R ho)
   have HB3 := Aside0.mk hb
   clear ho hb
   go_wp2_with fail
   (try simp only [Exit.jump])
   (try rw [Exit.noGoto_ret])
   go_ret2
   exact ⟨rfl, HB3.out⟩
  ·have hbx : (x - 1) % 256 = x - 1 := by omega
   have BC := Aside0.mk (BZ.out x hsx.2 (by omega))
   have NC := Aside0.mk (hNX (by omega))
   by_cases he : n = l1.length
   ·have t3 : ((n : Int) == (l1.length : Int)) = true := beq_iff_eq.2 (by omega)
    rw [show l1.length - (acc).length = 0 by omega, hTZ (by omega) h1] at hT
    subst hT
    clear hrow hacc hnl hTN hTS hTZ hNX hsx h1 hxd he hbx
    go_wp2_with fail
    refine (BC.out _).mono ?_
    rintro en w2 ⟨rfl, ⟨nd, rfl⟩⟩
    clear px qx hx0
    go_wp2_with fail
    (try simp only [Exit.jump])
    (try rw [Exit.noGoto_ret])
    go_ret2
    exact ⟨rfl, by repeat (first | (with_reducible first | exact HB.out | apply below_alloc | apply pw_below_drewN | apply below_drew1) | exact HB.out)⟩
   ·have t3 : ((n : Int) == (l1.length : Int)) = false := beq_eq_false_iff_ne.2 (by omega)
    have hlt := before_rank_lt l1 row hrow
    obtain ⟨m, hm⟩ : ∃ m, l1.length - (acc).length = m + 1 := ⟨l1.length - (acc).length - 1, by omega⟩
    rw [hm, hTS m hm h1] at hT
    have HF2 : Aside0 (nextOf l1 row < l1.length ∧ ((x - 1) :: acc).length ≤ l1.length ∧ (acc).length + 1 = ((x - 1) :: acc).length ∧ textGo l1 (l1.length - ((x - 1) :: acc).length) (nextOf l1 row) ((x - 1) :: acc) = T) := ⟨⟨hlt, by rw [List.length_cons]; omega, by rw [List.length_cons], by rw [List.length_cons, show l1.length - ((acc).length + 1) = m by omega]; exact hT⟩⟩
    have LM : Aside0 ((acc).reverse.length < 1000001 ∧ (acc).length = n ∧ ((acc).reverse ++ [x - 1]).length = (acc).length + 1 ∧ n < l1.length) := ⟨⟨by rw [List.length_reverse]; have := HN.out; omega, by omega, by rw [List.length_append, List.length_reverse, List.length_singleton], by omega⟩⟩
    have HX2 : Aside0 ((acc).reverse ++ [x - 1] = ((x - 1) :: acc).reverse) := ⟨by rw [List.reverse_cons]⟩
    clear hrow hacc hnl hTN hTS hTZ hNX hsx h1 hxd he hm hT hlt hbx
    go_wp2_with fail
    refine (BC.out _).mono ?_
    rintro en w2 ⟨rfl, ⟨nd, rfl⟩⟩
    clear px qx hx0
    go_wp2_with (first | ((with_reducible refine gate_builtin (b := .append) (xs := #[.tmp 40, .tmp 42]) rfl ?_); at_builtin; refine Kd.R_append (Kd.int .u8) (w0 := w) w.heap.size rfl (.tmp 40) (.tmp 42) 94 5 (.int .u8 0) 1 rfl Tryz.underlying94 info5 rfl (by decide) (by omega) (.slice A n c) (acc).reverse (x - 1) [.int .u8 (x - 1)] (fun _ => True) (fun _ => False) rfl (by first | (go_simp; done) | (go_simp; rfl)) ?aP (fun _ hk => hk.elim) ?aF ?aO ?aB ?aS ?aL ?_; (case aP => exact rfl); (case aB => exact (by repeat (first | (with_reducible first | exact HB.out | apply below_alloc | apply pw_below_drewN | apply below_drew1) | exact HB.out))); (case aF => exact (fun _ _ => trivial)); (case aO => exact (by (with_reducible repeat (first | apply Kd.R_alloc | apply Kd.R_drewN | apply Kd.R_drew)); exact HO.out)); (case aS => exact (below_size (by repeat (first | (with_reducible first | exact HB.out | apply below_alloc | apply pw_below_drewN | apply below_drew1) | exact HB.out)))); (case aL => have := LM.out.1; omega); intro v110 w19 ho hb hg hat; obtain ⟨A2, c2, hv2⟩ := Kd.R_slice ho; rw [LM.out.2.2.1] at hv2; subst hv2; rw [HX2.out] at ho; have HO2 := Aside0.mk ho; have HB2 := Aside0.mk hb; clear ho hb hg hat))
    refine (NC.out _ (Kd.C_below HR1.out (by repeat (first | (with_reducible first | exact HB2.out | apply below_alloc | apply pw_below_drewN | apply below_drew1) | exact HB2.out)))).mono ?_
    rintro en w4 ⟨rfl, hb⟩
    have HO4 := Aside0.mk (Kd.R_below (by (with_reducible repeat (first | apply Kd.R_alloc | apply Kd.R_drewN | apply Kd.R_drew)); exact HO2.out) hb)
    have HB4 := Aside0.mk (below_step (by repeat (first | (with_reducible first | exact HB2.out | apply below_alloc | apply pw_below_drewN | apply below_drew1) | exact HB2.out)) hb)
    clear hb
    go_wp2_with fail
    go_step3
    exact ⟨rfl, ⟨A2, _, c2, ((x - 1) :: acc), nextOf l1 row, _, _, _, _, _, _, _, _, _, _, _, _, _, _, _, _, _, _, _, _, _, _, _, _, _, _, _, _, _, _, _, _, _, _, _, _, _, _, _, _, _, _, _, _, _, _, rfl, HO4, HB4, HF2⟩, by (try simp only [Array.getD_eq_getD_getElem?]); simp [lenV]; have := LM.out; omega⟩

theorem text_low (d : Int) (A1 : Option Addr) (c1 : Nat) (l1 : List Int) (w : World) (hd : d < 0) :
  Calls Tryz.prog 23 #[.int .i64 d, .slice A1 l1.length c1] w fun e w' => e = .returned (.tuple #[.string ⟨#[]⟩, .bool false]) ∧ Below w.heap.size w w' := by
 have t1 : decide (d < 0) = true := decide_eq_true hd
 clear hd
 go_enter Tryz.func23, Tryz.ntmps23
 go_wp2_with fail
 refine wp_scope_jumps 0 (fun _ _ => False) (fun _ _ => 0) rfl ?_ (by rintro a' w' h; exact h.elim)
 go_wp2_with fail
 (try simp only [Exit.jump])
 (try rw [Exit.noGoto_ret])
 go_ret2
 exact ⟨rfl, Below.refl _ _⟩
theorem text_high (d : Int) (A1 : Option Addr) (c1 : Nat) (l1 : List Int) (r : Int) (w : World) (hr1 : Kd.C (Kd.int .i64) w A1 l1.length l1) (hc1 : l1.length ≤ c1) (hd : ¬ d < 0) (hr : r ≤ d) (k : Nat) (hk : bwt_Rank.f k 0 (l1.length : Int) l1 = some r) :
  Calls Tryz.prog 23 #[.int .i64 d, .slice A1 l1.length c1] w fun e w' => e = .returned (.tuple #[.string ⟨#[]⟩, .bool false]) ∧ Below w.heap.size w w' := by
 have t1 : decide (d < 0) = false := decide_eq_false hd
 have t2 : decide (r ≤ d) = true := decide_eq_true hr
 have RK := Aside0.mk (bwt_Rank.calls k 0 (l1.length : Int) A1 c1 l1 r w hr1 hc1 hk)
 clear hd hr hr1 hk hc1
 go_enter Tryz.func23, Tryz.ntmps23
 go_wp2_with fail
 refine wp_scope_jumps 0 (fun _ _ => False) (fun _ _ => 0) rfl ?_ (by rintro a' w' h; exact h.elim)
 go_wp2_with fail
 refine RK.out.mono ?_
 rintro en w1 ⟨rfl, hb⟩
 have HB := Aside0.mk hb
 clear hb
 go_wp2_with fail
 (try simp only [Exit.jump])
 (try rw [Exit.noGoto_ret])
 go_ret2
 exact ⟨rfl, HB.out⟩
theorem bwt_Text.calls (a0 : Int) (A1 : Option Addr) (c1 : Nat) (l1 : List Int) (r1 : ByteArray) (r2 : Bool) (w : World) (hr1 : Kd.C (Kd.int .i64) w A1 l1.length l1) (hc1 : l1.length ≤ c1) (h : bwt_Text.f a0 l1 = some (r1, r2)) :
  Calls Tryz.prog 23 #[.int .i64 a0, .slice A1 l1.length c1] w fun e w' => e = .returned (.tuple #[.string r1, .bool r2]) ∧ Below w.heap.size w w' := by
 unfold bwt_Text.f at h
 by_cases hn : l1.length ≤ 1000000
 case neg => rw [if_neg hn] at h; cases h
 rw [if_pos hn] at h
 have h := Option.some.inj h
 unfold textB at h
 by_cases h0 : a0 < 0
 ·rw [if_neg (by simp; omega)] at h
  obtain ⟨rfl, rfl⟩ := Prod.mk.inj h
  exact text_low a0 A1 c1 l1 w h0
 have hk := rank_ok l1 0 (l1.length : Int) hn (l1.length + 1) (Nat.le_refl _)
 rw [clamp_nat _ _ (Nat.le_refl _)] at hk
 by_cases hc : colB l1 = true
 case neg =>
  rw [if_neg (by simp [hc])] at h
  rw [if_neg hc] at hk
  obtain ⟨rfl, rfl⟩ := Prod.mk.inj h
  exact text_high a0 A1 c1 l1 0 w hr1 hc1 h0 (by omega) _ hk
 rw [if_pos hc] at hk
 by_cases hlt : a0 < (rank 0 l1.length l1 : Int)
 ·rw [if_pos (by simp [hc]; omega)] at h
  obtain ⟨d, rfl⟩ : ∃ d : Nat, a0 = d := ⟨a0.toNat, by omega⟩
  rw [Int.toNat_natCast] at h
  have ht := text_yes d A1 c1 l1 w hr1 hc1 hn hc (by omega)
  rw [h] at ht
  exact ht
 ·rw [if_neg (by simp [hc]; omega)] at h
  obtain ⟨rfl, rfl⟩ := Prod.mk.inj h
  exact text_high a0 A1 c1 l1 _ w hr1 hc1 h0 (by omega) _ hk
end Go.Proofs.YtkcpkecaliegfaaGreat.P

