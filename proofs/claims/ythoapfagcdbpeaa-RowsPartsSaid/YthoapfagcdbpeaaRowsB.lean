/- The function Sorted of package rows computes the plain list sortedRows: the walk. Conditions: how the list lies in memory. -/
import Derived.Test.YthoapfagcdbpeaaRowsW
import Derived.Test.YthoapfagcdbpeaaRowsM
set_option linter.unusedVariables false
set_option linter.unusedSimpArgs false
namespace Go.Proofs.Ythoapfagcdbpeaa.P
open Go.RowKit Go.Proofs.YthoapfagcdbpeaaW.PrintWords Go.Proofs.YthoapfagcdbpeaaW.PrintLast Go.Proofs.YthoapfagcdbpeaaW.PrintMore

set_option maxRecDepth 100000 in
set_option maxHeartbeats 4000000 in
theorem sorted_no (A0 : Option Addr) (c0 : Nat) (l0 : List ByteArray) (w : World) (hr0 : Kd.C Kd.string w A0 l0.length l0) (hc0 : l0.length ≤ c0) (hR : rightB l0 = false) :
    Calls Try.prog 16 #[.slice A0 l0.length c0] w fun e w' => ∃ v0_ : Value, e = .returned v0_ ∧ k24.R 24 w' w.heap.size (fun _ => True) v0_ (sortedRows l0) ∧ Below w.heap.size w w' := by
  have hs : sortedRows l0 = [] := by unfold sortedRows; rw [hR]; rfl
  rw [hs]
  have hb0 : Below w.heap.size w (w.alloc (.cells #[.slice A0 l0.length c0] 22)) := below_alloc (Below.refl _ _) _
  have z5 : (w.alloc (.cells #[.slice A0 l0.length c0] 22)).cell? ⟨w.heap.size, 0, none⟩ = some (.slice A0 l0.length c0) := cell_new w _ _ 0 _ rfl
  have RC := Aside0.mk (rows_Right.calls A0 c0 l0 false _ (Kd.C_below hr0 hb0) hc0 (by unfold rows_Right.f; rw [hR]))
  have HB := Aside0.mk hb0
  clear hr0 hb0 hs hR hc0
  go_enter Try.func16, Try.ntmps16
  go_wp2_with fail
  refine RC.out.mono ?_
  rintro en w2 ⟨rfl, hb⟩
  have HB2 := Aside0.mk (below_step HB.out hb)
  clear z5 hb
  go_wp2_with fail
  go_ret
  exact ⟨_, rfl, Kd.R_nil _ _ _ _ _, HB2.out⟩

set_option maxRecDepth 100000 in
set_option maxHeartbeats 8000000 in
theorem sorted_yes (A0 : Option Addr) (c0 : Nat) (l0 : List ByteArray) (w : World) (hr0 : Kd.C Kd.string w A0 l0.length l0) (hc0 : l0.length ≤ c0) (hR : rightB l0 = true) :
    Calls Try.prog 16 #[.slice A0 l0.length c0] w fun e w' => ∃ v0_ : Value, e = .returned v0_ ∧ k24.R 24 w' w.heap.size (fun _ => True) v0_ (sortedRows l0) ∧ Below w.heap.size w w' := by
  have HL : LessOk A0 c0 l0 := fun d i e j w' hr => less_any A0 c0 l0 d i e j w' hr hc0 (by have := right_doc hR d; omega)
  have hlen := right_len hR
  have HT := Aside0.mk (rowsTo_le hR)
  have HD := Aside0.mk (fun d : Int => right_doc hR d)
  have hb0 : Below w.heap.size w (w.alloc (.cells #[.slice A0 l0.length c0] 22)) := below_alloc (Below.refl _ _) _
  have z5 : (w.alloc (.cells #[.slice A0 l0.length c0] 22)).cell? ⟨w.heap.size, 0, none⟩ = some (.slice A0 l0.length c0) := cell_new w _ _ 0 _ rfl
  have hrA := Kd.C_below hr0 hb0
  have RC := Aside0.mk (rows_Right.calls A0 c0 l0 true _ hrA hc0 (by unfold rows_Right.f; rw [hR]))
  have SA := Aside0.mk (fun (w1 w' : World) (v : Value) => sort_all A0 c0 l0 HL hR w.heap.size w1 w' v)
  have HB := Aside0.mk hb0
  have HRA := Aside0.mk hrA
  have Z5 := Aside0.mk z5
  clear hr0 hb0 hR hc0 hrA HL
  obtain ⟨W1, hW1⟩ : ∃ W1, w.alloc (.cells #[.slice A0 l0.length c0] 22) = W1 := ⟨_, rfl⟩
  have W1E := Aside0.mk hW1
  rw [hW1] at HB HRA Z5
  clear hW1
  go_enter Try.func16, Try.ntmps16
  go_wp2_with fail
  refine RC.out.mono ?_
  rintro en w2 ⟨rfl, hb⟩
  rw [W1E.out] at hb
  have HB2 := Aside0.mk hb
  have y5 := pw_cell_below hb Z5.out
  clear z5 hb
  go_wp2_with fail
  clear y5
  go_loopw [3, 12] (fun v3 v12 w' => ∃ D : Nat, D ≤ l0.length ∧ v12 = .int .i64 D ∧ Aside0 (k24.R 24 w' W1.heap.size (fun _ => True) v3 (rowsTo l0 D)) ∧ Aside0 (Below W1.heap.size W1 w')) (fun _ v12 _ => l0.length - (intOf v12).toNat)
  case atStart => exact ⟨0, Nat.zero_le _, rfl, ⟨Kd.R_nil _ _ _ _ _⟩, ⟨by repeat (first | (with_reducible first | exact HB2.out | apply below_alloc | apply pw_below_drewN | apply below_drew1) | exact HB2.out)⟩⟩
  case round =>
    obtain ⟨D, hD, rfl, HO, HBD⟩ := hrel
    by_cases hlt : D < l0.length
    · obtain ⟨ad, hA, hcd⟩ := str_cell (Kd.C_below HRA.out HBD.out) (D : Int) (by omega) (by omega)
      subst hA
      have hsz := HD.out (D : Int)
      have hto := HT.out D
      have hst : rowsTo l0 (D + 1) = rowsTo l0 D ++ rowsOf l0 D ((docAt l0 D).size + 1) := rfl
      have HST := Aside0.mk hst
      obtain ⟨S, hS⟩ : ∃ S, docAt l0 (D : Int) = S := ⟨_, rfl⟩
      rw [hS] at hcd hsz HST
      have c1 : decide ((D : Int) < (l0.length : Int)) = true := decide_eq_true (by omega)
      have v1 : ((D : Int) < (l0.length : Int)) = True := eq_true (by omega)
      have v2 : (0 ≤ (D : Int)) = True := eq_true (by omega)
      have v3 : IntKind.i64.wrap ((S.size : Int) + 1) = (S.size : Int) + 1 := IntWalk.i64_in _ (by omega)
      have v4 : IntKind.i64.wrap ((D : Int) + 1) = (D : Int) + 1 := IntWalk.i64_in _ (by omega)
      rw [Int.toNat_natCast] at hcd
      have LIM : Aside0 ((rowsTo l0 D).length ≤ D * 41 ∧ D < 10 ∧ S.size ≤ 40) := ⟨⟨hto, by omega, hsz⟩⟩
      clear hst hto hS hsz
      go_wp2_with fail
      clear hcd v1 v2 v3
      go_loopw [3, 20] (fun v3 v20 w' => ∃ i : Nat, i ≤ S.size + 1 ∧ v20 = .int .i64 i ∧ Aside0 (k24.R 24 w' W1.heap.size (fun _ => True) v3 (rowsTo l0 D ++ rowsOf l0 D i)) ∧ Aside0 (Below W1.heap.size W1 w')) (fun _ v20 _ => S.size + 1 - (intOf v20).toNat)
      case atStart => exact ⟨0, Nat.zero_le _, rfl, ⟨by rw [show rowsOf l0 D 0 = [] from rfl, List.append_nil]; (with_reducible repeat (first | apply Kd.R_alloc | apply Kd.R_drewN | apply Kd.R_drew)); exact HO.out⟩, ⟨by repeat (first | (with_reducible first | exact HBD.out | apply below_alloc | apply pw_below_drewN | apply below_drew1) | exact HBD.out)⟩⟩
      case round =>
        obtain ⟨i, hi, rfl, HO2, HBI⟩ := hrel
        by_cases hil : i < S.size + 1
        · have c2 : decide ((i : Int) < (S.size : Int) + 1) = true := decide_eq_true (by omega)
          have v5 : IntKind.i64.wrap ((i : Int) + 1) = (i : Int) + 1 := IntWalk.i64_in _ (by have := LIM.out; omega)
          have hrs := rowsOf_succ l0 D i
          obtain ⟨X, hX⟩ : ∃ X, X = rowsTo l0 D ++ rowsOf l0 D i := ⟨_, rfl⟩
          have hXl : X.length ≤ D * 41 + i := by rw [hX, List.length_append, rowsOf_length]; have := LIM.out.1; omega
          have hX2 : rowsTo l0 D ++ rowsOf l0 D (i + 1) = X ++ [(⟨(D : Int), (i : Int)⟩ : S24)] := by rw [hrs, hX, List.append_assoc]
          rw [← hX] at HO2
          have HX2 := Aside0.mk hX2
          have LM : Aside0 (X.length < 8000000000) := ⟨by have := LIM.out; omega⟩
          clear hrs hX hXl hX2
          go_wp2_with (first | ((with_reducible refine gate_builtin (b := .append) (xs := #[.tmp 23, .tmp 27]) rfl ?_); at_builtin; refine Kd.R_append k24 (w0 := W1) W1.heap.size rfl (.tmp 23) (.tmp 27) 28 24 (.agg #[.int .i64 0, .int .i64 0]) 16 rfl Try.underlying28 info24 rfl (by decide) (by omega) u3 X (⟨(D : Int), (i : Int)⟩ : S24) [.int .i64 (D : Int), .int .i64 (i : Int)] (fun _ => True) (fun _ => False) rfl (by first | (go_simp; done) | (go_simp; rfl)) ?aP (fun _ hk => hk.elim) ?aF ?aO ?aB ?aS ?aL ?_; (case aP => exact k24_mkM _ _ _ _); (case aB => exact (by repeat (first | (with_reducible first | exact HBI.out | apply below_alloc | apply pw_below_drewN | apply below_drew1) | exact HBI.out))); (case aF => exact (fun _ _ => trivial)); (case aO => exact (by (with_reducible repeat (first | apply Kd.R_alloc | apply Kd.R_drewN | apply Kd.R_drew)); exact HO2.out)); (case aS => exact (below_size (by repeat (first | (with_reducible first | exact HBI.out | apply below_alloc | apply pw_below_drewN | apply below_drew1) | exact HBI.out)))); (case aL => have := LM.out; omega); intro v110 w19 ho hb hg hat; rw [← HX2.out] at ho; have HO3 := Aside0.mk ho; have HB3 := Aside0.mk hb; clear ho hb hg hat))
          go_roundw
          case rel => exact ⟨i + 1, by omega, by go_num, HO3, HB3⟩
          case measure => simp [intOf]; omega
        · obtain rfl : i = S.size + 1 := by omega
          rw [← HST.out] at HO2
          have c2 : decide ((S.size : Int) + 1 < (S.size : Int) + 1) = false := decide_eq_false (by omega)
          go_wp2_with fail
          go_roundw
          case rel => exact ⟨D + 1, by omega, by go_num, HO2, HBI⟩
          case measure => simp [intOf]; omega
    · obtain rfl : D = l0.length := by omega
      have c1 : decide ((l0.length : Int) < (l0.length : Int)) = false := decide_eq_false (by omega)
      have SB := Aside0.mk (SA.out W1 wr _ HRA.out Z5.out HBD.out HO.out)
      obtain ⟨A, c, hv⟩ := Kd.R_slice HO.out
      subst hv
      clear HO
      go_wp2_with fail
      refine SB.out.mono ?_
      rintro en w3 ⟨rfl, hs, hb⟩
      have HS := Aside0.mk (Kd.R_lower hs HB.out.size)
      have HB3 := Aside0.mk (below_step HB.out hb)
      clear hs hb
      go_wp2_with fail
      go_ret
      exact ⟨_, rfl, HS.out, HB3.out⟩

theorem rows_Sorted.calls (A0 : Option Addr) (c0 : Nat) (l0 : List ByteArray) (r : List S24) (w : World) (hr0 : Kd.C Kd.string w A0 l0.length l0) (hc0 : l0.length ≤ c0) (h : rows_Sorted.f l0 = some r) :
    Calls Try.prog 16 #[.slice A0 l0.length c0] w fun e w' => ∃ v0_ : Value, e = .returned (v0_) ∧ k24.R 24 w' w.heap.size (fun _ => True) v0_ r ∧ Below w.heap.size w w' := by
  obtain rfl := Option.some.inj h
  cases hR : rightB l0 with
  | true => exact sorted_yes A0 c0 l0 w hr0 hc0 hR
  | false => exact sorted_no A0 c0 l0 w hr0 hc0 hR
end Go.Proofs.Ythoapfagcdbpeaa.P
