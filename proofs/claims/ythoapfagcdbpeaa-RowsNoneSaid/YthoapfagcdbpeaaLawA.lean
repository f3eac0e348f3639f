/- The plain laws of RowsOrder and RowsNone, and their walks. Conditions: the row's: sizes, and how the list lies in memory. -/
import Derived.Test.YthoapfagcdbpeaaPure0
import Derived.Test.YthoapfagcdbpeaaP4
import Derived.Test.YthoapfagcdbpeaaP9
set_option linter.unusedVariables false
set_option linter.unusedSimpArgs false
namespace Go.Proofs.Ythoapfagcdbpeaa.P
open Go.RowKit Go.Proofs.YthoapfagcdbpeaaW.PrintWords Go.Proofs.YthoapfagcdbpeaaW.PrintLast Go.Proofs.YthoapfagcdbpeaaW.PrintMore

theorem doc_le (l : List ByteArray) (M : Nat) (hs : ∀ s ∈ l, s.size ≤ M) (d : Int) : (docAt l d).size ≤ M := by
  unfold docAt rdOf
  rw [List.getD_eq_getElem?_getD]
  cases h : l[d.toNat]? with
  | none => exact Nat.zero_le _
  | some s => exact hs s (List.mem_of_getElem? h)
theorem less_fs (l : List ByteArray) (hs : ∀ s ∈ l, s.size ≤ 140737488351232) (d i e j : Int) : rows_Less.f l d i e j = some (lessB l d i e j) := if_pos (doc_le l _ hs d)
theorem order_step (l : List ByteArray) (ys : List S24) (hy : ys.length ≤ 9) (j : Nat) (hj : j < ys.length) (k : Nat) (a b c d e f : Int) :
    scriniumlaw3_RowsOrder.l0 (k + 1) l ys ys.length j a b c d e f = if okR l ys[j] = true then scriniumlaw3_RowsOrder.l0 k l ys ys.length ((j + 1 : Nat) : Int) a b c d e f else some true := by
  have hw : wrap64 ((j : Int) + 1) = ((j + 1 : Nat) : Int) := w64 (j + 1) (by omega)
  have hd : (rdOf ByteArray.empty l ys[j].f0) = docAt l ys[j].f0 := rfl
  rw [scriniumlaw3_RowsOrder.l0]
  rw [if_pos (by omega), if_pos (by omega), if_pos (by omega), rd_row ys j hj, hw, hd]
  by_cases hok : okR l ys[j] = true
  · obtain ⟨o1, o2, o3, o4⟩ := rowOk_iff.1 hok
    rw [if_pos hok, if_neg (by omega), if_neg (by omega), if_neg (by omega), if_pos o1, if_pos o2, if_neg (by omega)]
  · rw [if_neg hok]
    by_cases h1 : ys[j].f0 < 0
    · rw [if_pos h1]
    rw [if_neg h1]
    by_cases h2 : ys[j].f0 ≥ (l.length : Int)
    · rw [if_pos h2]
    rw [if_neg h2]
    by_cases h3 : ys[j].f1 < 0
    · rw [if_pos h3]
    rw [if_neg h3, if_pos (by omega), if_pos (by omega)]
    by_cases h4 : ys[j].f1 > ((docAt l ys[j].f0).size : Int)
    · rw [if_pos h4]
    · exact absurd (rowOk_iff.2 ⟨by omega, by omega, by omega, by omega⟩) hok
theorem less_ok_of {l : List ByteArray} {d i e j : Int} (h : lessB l d i e j = true) : rowOk l d i = true ∧ rowOk l e j = true := by
  unfold lessB at h
  rw [Bool.and_eq_true, Bool.and_eq_true] at h
  exact ⟨h.1, h.2.1⟩
theorem order_j2 (l : List ByteArray) (hs : ∀ s ∈ l, s.size ≤ 140737488351232) (k : Nat) (a b c d e f : Int) (x : Bool) (hx : x = lessB l a b c d) :
    scriniumlaw3_RowsOrder.j2 (k + 1) l x false a b c d e f = some true := by
  rw [scriniumlaw3_RowsOrder.j2, if_neg (by simp)]
  cases x with
  | false => rw [if_neg (by simp)]
  | true =>
    rw [if_pos rfl, less_fs l hs, Option.bind_some]
    by_cases h2 : lessB l c d e f = true
    · rw [if_pos h2, less_fs l hs, Option.bind_some]
      exact congrArg some (ltB_trans (a := ⟨a, b⟩) (b := ⟨c, d⟩) (c := ⟨e, f⟩) hx.symm h2)
    · rw [if_neg h2]
theorem order_end (l : List ByteArray) (hs : ∀ s ∈ l, s.size ≤ 140737488351232) (ys : List S24) (k : Nat) (a b c d e f : Int) (h1 : rowOk l a b = true) (h2 : rowOk l c d = true) :
    scriniumlaw3_RowsOrder.l0 (k + 2) l ys ys.length ys.length a b c d e f = some true := by
  rw [scriniumlaw3_RowsOrder.l0, if_neg (by omega), less_fs l hs, less_fs l hs, Option.bind_some, Option.bind_some]
  by_cases x : lessB l a b c d = true
  · have y : lessB l c d a b = false := ltB_asymm (a := ⟨a, b⟩) (b := ⟨c, d⟩) x
    rw [if_pos x, if_neg (by rw [y]; simp), x]
    exact order_j2 l hs k a b c d e f true x.symm
  · have x' : lessB l a b c d = false := by simpa using x
    rw [if_neg x]
    by_cases y : lessB l c d a b = true
    · rw [if_pos y, x']
      exact order_j2 l hs k a b c d e f false x'.symm
    · have y' : lessB l c d a b = false := by simpa using y
      have heq := ltB_total (a := ⟨a, b⟩) (b := ⟨c, d⟩) h1 h2 x' y'
      injection heq with e1 e2
      subst e1 e2
      rw [if_neg y, x', show (!(a == a) || !(b == b)) = false by simp]
      exact order_j2 l hs k a b a b e f false x'.symm
theorem RowsOrder_pure (l : List ByteArray) (hs : ∀ s ∈ l, s.size ≤ 140737488351232) (hl : l.length * 16 ≤ 140737488351232) (a b c d e f : Int) : ∃ k, scriniumlaw3_RowsOrder.f k l a b c d e f = some true := by
  obtain ⟨q, hq⟩ : ∃ q : Nat, q = l.length + 20 := ⟨_, rfl⟩
  refine ⟨q, ?_⟩
  have ht : scriniumlaw3_RowsOrder.j0 q l true a b c d e f = some true := by
    obtain ⟨k, rfl⟩ : ∃ k, q = k + 1 := ⟨q - 1, by omega⟩
    rw [scriniumlaw3_RowsOrder.j0, if_pos rfl, alive_ok k (by omega)]
    rfl
  unfold scriniumlaw3_RowsOrder.f
  rw [few_all l hs hl q (by omega), Option.bind_some]
  by_cases hf : fewB l = true
  · rw [if_pos hf, alive_ok q (by omega), Option.bind_some]
    show scriniumlaw3_RowsOrder.j0 q l false a b c d e f = some true
    obtain ⟨k, rfl⟩ : ∃ k, q = k + 6 := ⟨q - 6, by omega⟩
    rw [scriniumlaw3_RowsOrder.j0, if_neg (by simp), Option.bind_some]
    have s0 := order_step l [⟨a, b⟩, ⟨c, d⟩, ⟨e, f⟩] (by simp) 0 (by simp) (k + 4) a b c d e f
    have s1 := order_step l [⟨a, b⟩, ⟨c, d⟩, ⟨e, f⟩] (by simp) 1 (by simp) (k + 3) a b c d e f
    have s2 := order_step l [⟨a, b⟩, ⟨c, d⟩, ⟨e, f⟩] (by simp) 2 (by simp) (k + 2) a b c d e f
    refine s0.trans ?_
    by_cases h1 : rowOk l a b = true
    · rw [if_pos (show okR l [(⟨a, b⟩ : S24), ⟨c, d⟩, ⟨e, f⟩][0] = true from h1)]
      refine s1.trans ?_
      by_cases h2 : rowOk l c d = true
      · rw [if_pos (show okR l [(⟨a, b⟩ : S24), ⟨c, d⟩, ⟨e, f⟩][1] = true from h2)]
        refine s2.trans ?_
        by_cases h3 : rowOk l e f = true
        · rw [if_pos (show okR l [(⟨a, b⟩ : S24), ⟨c, d⟩, ⟨e, f⟩][2] = true from h3)]
          exact order_end l hs [⟨a, b⟩, ⟨c, d⟩, ⟨e, f⟩] k a b c d e f h1 h2
        · exact if_neg h3
      · exact if_neg h2
    · exact if_neg h1
  · rw [if_neg hf]
    exact ht
theorem RowsOrder_all (A0 : Option Addr) (c0 : Nat) (l0 : List ByteArray) (a1_0 a1_1 a2_0 a2_1 a3_0 a3_1 : Int) (w : World) (hC : Kd.C Kd.string w A0 l0.length l0) (hc : l0.length ≤ c0) (hs : ∀ s ∈ l0, s.size ≤ 140737488351232) (hl : l0.length * 16 ≤ 140737488351232)
    (_ : (Lit.int .i64 a1_0).wf = true) (_ : (Lit.int .i64 a1_1).wf = true) (_ : (Lit.int .i64 a2_0).wf = true) (_ : (Lit.int .i64 a2_1).wf = true) (_ : (Lit.int .i64 a3_0).wf = true) (_ : (Lit.int .i64 a3_1).wf = true) :
    Calls Try.prog 4 #[.slice A0 l0.length c0, .agg #[.int .i64 a1_0, .int .i64 a1_1], .agg #[.int .i64 a2_0, .int .i64 a2_1], .agg #[.int .i64 a3_0, .int .i64 a3_1]] w fun e w' => e = .returned (.bool true) ∧ Below w.heap.size w w' := by
  obtain ⟨k, h⟩ := RowsOrder_pure l0 hs hl a1_0 a1_1 a2_0 a2_1 a3_0 a3_1
  exact scriniumlaw3_RowsOrder.calls k A0 c0 l0 a1_0 a1_1 a2_0 a2_1 a3_0 a3_1 true w hC hc h

/-! ### RowsNone -/
theorem none_less (l : List ByteArray) (d i e j : Int) (h : rowOk l e j = false) : lessB l d i e j = false ∧ lessB l e j d i = false := by
  unfold lessB
  rw [h]
  simp
theorem sum_mem (l : List ByteArray) (s : ByteArray) (h : s ∈ l) : s.size ≤ sumTo l := by
  unfold sumTo
  induction l with
  | nil => cases h
  | cons t l ih =>
    rw [List.map_cons, List.sum_cons]
    rcases List.mem_cons.1 h with rfl | hm
    · omega
    · have := ih hm; omega
theorem RowsNone_pure (l : List ByteArray) (hs : ∀ s ∈ l, s.size ≤ 140737488351232) (hl : l.length * 16 ≤ 140737488351232) (a b how : Int) (hw : -9223372036854775808 ≤ how ∧ how ≤ 9223372036854775807) : ∃ k, scriniumlaw3_RowsNone.f k l a b how = some true := by
  obtain ⟨q, hq⟩ : ∃ q : Nat, q = l.length + 20 := ⟨_, rfl⟩
  refine ⟨q, ?_⟩
  have ht : scriniumlaw3_RowsNone.j0 q l how true a b = some true := by
    obtain ⟨k, rfl⟩ : ∃ k, q = k + 1 := ⟨q - 1, by omega⟩
    rw [scriniumlaw3_RowsNone.j0, if_pos rfl, alive_ok k (by omega)]
    rfl
  unfold scriniumlaw3_RowsNone.f
  rw [few_all l hs hl q (by omega), Option.bind_some]
  by_cases hf : fewB l = true
  · rw [if_pos hf, alive_ok q (by omega), Option.bind_some]
    show scriniumlaw3_RowsNone.j0 q l how false a b = some true
    obtain ⟨k, rfl⟩ : ∃ k, q = k + 6 := ⟨q - 6, by omega⟩
    rw [scriniumlaw3_RowsNone.j0, if_neg (by simp), Option.bind_some]
    have h160 : sumTo l ≤ 160 := by
      unfold fewB at hf
      rw [Bool.and_eq_true, decide_eq_true_eq, decide_eq_true_eq] at hf
      exact hf.2
    have hdoc : ∀ d : Int, (docAt l d).size ≤ 160 := doc_le l 160 (fun s h => Nat.le_trans (sum_mem l s h) h160)
    have ht4 : -3 ≤ Int.tmod how 4 ∧ Int.tmod how 4 ≤ 3 := by
      have h1 := Int.tmod_lt_of_pos how (show (0 : Int) < 4 by omega)
      have h2 := Int.lt_tmod_of_pos how (show (0 : Int) < 4 by omega)
      omega
    obtain ⟨y, hy⟩ : ∃ y : Int, Int.tmod (wrap64 (Int.tmod how 4 + 4)) 4 = y := ⟨_, rfl⟩
    have hyr : 0 ≤ y ∧ y < 4 := by
      rw [w64i _ (by omega), Int.tmod_eq_emod_of_nonneg (by omega)] at hy
      omega
    rw [hy, if_pos hyr.1, if_pos (show y < (([(⟨(l.length : Int), 0⟩ : S24), ⟨-1, 0⟩, ⟨0, 1000⟩, ⟨0, -1⟩] : List S24).length : Int) from hyr.2)]
    have key : ∀ r : S24, rd_T24 [(⟨(l.length : Int), 0⟩ : S24), ⟨-1, 0⟩, ⟨0, 1000⟩, ⟨0, -1⟩] y = r → rowOk l r.f0 r.f1 = false := by
      intro r hr
      obtain ⟨n, rfl⟩ : ∃ n : Nat, y = n := ⟨y.toNat, by omega⟩
      have hn : n < 4 := by omega
      have hn' : n < [(⟨(l.length : Int), 0⟩ : S24), ⟨-1, 0⟩, ⟨0, 1000⟩, ⟨0, -1⟩].length := hn
      rw [rd_row _ n hn'] at hr
      cases hok : rowOk l r.f0 r.f1 with
      | false => rfl
      | true =>
        obtain ⟨o1, o2, o3, o4⟩ := rowOk_iff.1 hok
        have hd := hdoc r.f0
        match n, hn with
        | 0, _ => subst hr; dsimp at o2; omega
        | 1, _ => subst hr; dsimp at o1; omega
        | 2, _ => subst hr; dsimp at o4 hd; omega
        | 3, _ => subst hr; dsimp at o3; omega
    obtain ⟨r, hr⟩ : ∃ r, rd_T24 [(⟨(l.length : Int), 0⟩ : S24), ⟨-1, 0⟩, ⟨0, 1000⟩, ⟨0, -1⟩] y = r := ⟨_, rfl⟩
    have hno := key r hr
    rw [hr]
    have n1 := none_less l a b r.f0 r.f1 hno
    have n2 : lessB [] a b a b = false := ltB_irrefl [] ⟨a, b⟩
    rw [less_fs l hs, Option.bind_some, n1.1, if_neg (by simp), less_fs l hs, Option.bind_some, n1.2, if_neg (by simp), less_fs [] (by simp), Option.bind_some, n2]
    rfl
  · rw [if_neg hf]
    exact ht
theorem wf_range (x : Int) (h : (Lit.int .i64 x).wf = true) : -9223372036854775808 ≤ x ∧ x ≤ 9223372036854775807 := by
  simp only [Lit.wf, Bool.and_eq_true, decide_eq_true_eq] at h
  have h1 : IntKind.i64.min = -9223372036854775808 := by decide
  have h2 : IntKind.i64.max = 9223372036854775807 := by decide
  omega
theorem RowsNone_all (A0 : Option Addr) (c0 : Nat) (l0 : List ByteArray) (a1_0 a1_1 a2 : Int) (w : World) (hC : Kd.C Kd.string w A0 l0.length l0) (hc : l0.length ≤ c0) (hs : ∀ s ∈ l0, s.size ≤ 140737488351232) (hl : l0.length * 16 ≤ 140737488351232)
    (_ : (Lit.int .i64 a1_0).wf = true) (_ : (Lit.int .i64 a1_1).wf = true) (h2 : (Lit.int .i64 a2).wf = true) :
    Calls Try.prog 11 #[.slice A0 l0.length c0, .agg #[.int .i64 a1_0, .int .i64 a1_1], .int .i64 a2] w fun e w' => e = .returned (.bool true) ∧ Below w.heap.size w w' := by
  obtain ⟨k, h⟩ := RowsNone_pure l0 hs hl a1_0 a1_1 a2 (wf_range a2 h2)
  exact scriniumlaw3_RowsNone.calls k A0 c0 l0 a1_0 a1_1 a2 true w hC hc h
end Go.Proofs.Ythoapfagcdbpeaa.P
