/- The document's order of rows: what the printed functions Right and Less of package scriniumref1 compute, and a list into which row after row is put at its place. Conditions: none. -/
import Derived.Test.YtkcpkecaliegfaaGreatRwA
import Derived.Test.YtkcpkecaliegfaaGreatPg
section
set_option linter.unusedVariables false
set_option linter.unusedSimpArgs false
namespace Go.Proofs.YtkcpkecaliegfaaGreat.P
open Go.RowKit Go.Proofs.YtkcpkecaliegfaaGreatW.PrintWords Go.Proofs.YtkcpkecaliegfaaGreatW.PrintLast Go.Proofs.YtkcpkecaliegfaaGreatW.PrintMore

theorem refRight_l (l : List ByteArray) (hl : l.length ≤ 1000000) : ∀ (m j k : Nat), m = l.length - j → j ≤ l.length → m + 1 ≤ k → scriniumref1_Right.l0 k l (j : Int) = some (decide (l.length ≤ 10) && !(l.drop j).any longB) := by
 intro m
 induction m with
 | zero =>
  intro j k hm hj hk
  obtain rfl : j = l.length := by omega
  obtain ⟨k1, rfl⟩ : ∃ k1, k = k1 + 1 := ⟨k - 1, by omega⟩
  rw [scriniumref1_Right.l0, if_neg (by omega), List.drop_eq_nil_of_le (Nat.le_refl _)]
  simp
  omega
 | succ m ih =>
  intro j k hm hj hk
  obtain ⟨k1, rfl⟩ : ∃ k1, k = k1 + 1 := ⟨k - 1, by omega⟩
  have hrec := ih (j + 1) k1 (by omega) (by omega) (by omega)
  have hw : wrap64 ((j : Int) + 1) = ((j + 1 : Nat) : Int) := by unfold wrap64; omega
  have hjl : j < l.length := by omega
  have hget : rdOf ByteArray.empty l (j : Int) = l[j] := by
   unfold rdOf
   rw [Int.toNat_natCast, List.getD_eq_getElem?_getD, List.getElem?_eq_getElem hjl]
   rfl
  rw [scriniumref1_Right.l0, if_pos (by omega), if_pos (by omega), hget, hw, List.drop_eq_getElem_cons hjl, List.any_cons]
  by_cases h : (l[j].size : Int) > 40
  ·rw [if_pos h, show longB l[j] = true from decide_eq_true (by omega)]
   simp
  ·rw [if_neg h, hrec, show longB l[j] = false from decide_eq_false (by omega)]
   simp
theorem refRight_ok (l : List ByteArray) (hl : l.length ≤ 1000000) (k : Nat) (hk : l.length + 1 ≤ k) : scriniumref1_Right.f k l = some (rightB l) := refRight_l l hl l.length 0 k rfl (Nat.zero_le _) hk
theorem refRow_ok (l : List ByteArray) (d i : Int) : scriniumref1_row.f l d i = some (rowOk l d i) := by
 unfold scriniumref1_row.f rowOk docAt
 by_cases h1 : d ≥ 0
 ·rw [if_pos h1, decide_eq_true (show 0 ≤ d from h1), Bool.true_and]
  by_cases h2 : d < (l.length : Int)
  ·rw [if_pos h2, decide_eq_true h2, Bool.true_and]
   by_cases h3 : i ≥ 0
   ·rw [if_pos h3, if_pos (show 0 ≤ d from h1), decide_eq_true (show 0 ≤ i from h3), Bool.true_and]
   ·rw [if_neg h3, decide_eq_false (show ¬ 0 ≤ i from h3), Bool.false_and]
  ·rw [if_neg h2, decide_eq_false h2, Bool.false_and]
 ·rw [if_neg h1, decide_eq_false (show ¬ 0 ≤ d from h1), Bool.false_and]
theorem refLess_l (S T : ByteArray) (d e u v : Int) (hS : S.size ≤ 140737488351232) : ∀ (m i k : Nat), m = S.size - i → i ≤ S.size → i ≤ T.size → 3 * m + 3 ≤ k → scriniumref1_Less.l0 k S T (i : Int) d u e v = some (ltS ((bytesOf S).drop i) d ((bytesOf T).drop i) e) := by
 intro m
 induction m with
 | zero =>
  intro i k hm h1 h2 hk
  obtain ⟨k1, rfl⟩ : ∃ k1, k = k1 + 3 := ⟨k - 3, by omega⟩
  obtain rfl : i = S.size := by omega
  rw [scriniumref1_Less.l0, if_pos rfl]
  by_cases h3 : S.size = T.size
  ·rw [scriniumref1_Less.j2, if_pos (by simp; omega), ltS_end rfl h3]
  ·rw [scriniumref1_Less.j2, if_neg (by simp; omega), if_pos rfl, scriniumref1_Less.j3, if_pos rfl, ltS_short rfl (by omega)]
   simp
 | succ m ih =>
  intro i k hm h1 h2 hk
  obtain ⟨k1, rfl⟩ : ∃ k1, k = k1 + 3 := ⟨k - 3, by omega⟩
  have hw : wrap64 ((i : Int) + 1) = ((i + 1 : Nat) : Int) := by unfold wrap64; omega
  rw [scriniumref1_Less.l0, if_neg (by omega), scriniumref1_Less.j2, if_neg (by decide), if_neg (by omega)]
  by_cases h3 : i = T.size
  ·rw [scriniumref1_Less.j3, if_pos (by simp; omega), ltS_long (by omega) h3]
   simp
   omega
  ·rw [scriniumref1_Less.j3, if_neg (by simp; omega), if_pos (by omega), if_pos (by omega), if_pos (by omega), ltS_step d e (by omega) (by omega), hw]
   by_cases h4 : bt S (i : Int) = bt T (i : Int)
   ·rw [if_pos h4, if_pos h4]
    exact ih (i + 1) k1 (by omega) (by omega) (by omega) (by omega)
   ·rw [if_neg h4, if_neg h4]
theorem refLess_ok (l : List ByteArray) (d i e j : Int) (hd : (docAt l d).size ≤ 140737488351232) (k : Nat) (hk : 3 * (docAt l d).size + 10 ≤ k) : scriniumref1_Less.f k l d i e j = some (lessB l d i e j) := by
 obtain ⟨k1, rfl⟩ : ∃ k1, k = k1 + 1 := ⟨k - 1, by omega⟩
 unfold scriniumref1_Less.f lessB
 rw [refRow_ok, Option.bind_some]
 cases h1 : rowOk l d i with
 | false => rw [if_neg (by decide), scriniumref1_Less.j0, if_pos rfl, Bool.false_and]
 | true =>
  rw [if_pos rfl, refRow_ok, Option.bind_some, Bool.true_and]
  cases h2 : rowOk l e j with
  | false => rw [scriniumref1_Less.j0, if_pos (by rfl), Bool.false_and]
  | true =>
   obtain ⟨a1, a2, a3, a4⟩ := rowOk_iff.1 h1
   obtain ⟨b1, b2, b3, b4⟩ := rowOk_iff.1 h2
   unfold docAt at a4 b4 hd hk
   rw [scriniumref1_Less.j0, if_neg (by decide), if_pos a1, if_pos a2, if_pos a3, if_pos a4, if_pos b1, if_pos b2, if_pos b3, if_pos b4, Bool.true_and]
   have hz : ∀ (s : ByteArray) (n : Nat), (s.extract n s.size).size ≤ s.size := fun s n => by rw [ByteArray.size_extract]; omega
   have := refLess_l ((rdOf ByteArray.empty l d).extract i.toNat (rdOf ByteArray.empty l d).size) ((rdOf ByteArray.empty l e).extract j.toNat (rdOf ByteArray.empty l e).size) d e i j (by have := hz (rdOf ByteArray.empty l d) i.toNat; omega) ((rdOf ByteArray.empty l d).extract i.toNat (rdOf ByteArray.empty l d).size).size 0 k1 rfl (Nat.zero_le _) (Nat.zero_le _) (by have := hz (rdOf ByteArray.empty l d) i.toNat; omega)
   rw [bytesOf_extract, bytesOf_extract, List.drop_zero, List.drop_zero] at this
   exact this
/-- Rows of the first d documents, and of document d those from bytes ahead of at: rising. -/
def Ins (l : List ByteArray) (d at_ : Nat) (X : List S75) : Prop := X.Pairwise (fun a b => ltB l a b = true) ∧ X.Perm (rowsTo l d ++ rowsOf l d at_)
theorem ins_start (l : List ByteArray) : Ins l 0 0 [] := ⟨List.Pairwise.nil, List.Perm.refl _⟩
theorem ins_doc {l : List ByteArray} {d : Nat} {X : List S75} (h : Ins l d ((docAt l d).size + 1) X) : Ins l (d + 1) 0 X := by
 refine ⟨h.1, ?_⟩
 show X.Perm (rowsTo l (d + 1) ++ [])
 rw [List.append_nil]
 exact h.2
theorem ins_end {l : List ByteArray} {X : List S75} (hr : rightB l = true) (h : Ins l l.length 0 X) : X = sortedRows l := by
 refine sorted_unique l hr X ?_ (h.1.imp fun hab => ltB_asymm hab)
 have := h.2
 rw [show rowsOf l l.length 0 = [] from rfl, List.append_nil] at this
 exact this
theorem mem_ins {l : List ByteArray} {d at_ : Nat} {X : List S75} (hd : d < l.length) (ha : at_ ≤ (docAt l d).size) (h : Ins l d at_ X) (r : S75) (hm : r ∈ X) : okR l r = true ∧ r ≠ ⟨(d : Int), (at_ : Int)⟩ := by
 rcases List.mem_append.1 (h.2.mem_iff.1 hm) with h1 | h1
 ·obtain ⟨d', i, h2, h3, rfl⟩ := mem_rowsTo l r d h1
  refine ⟨rowOk_iff.2 ⟨by dsimp only; omega, by dsimp only; omega, by dsimp only; omega, by dsimp only; omega⟩, fun e => ?_⟩
  injection e with e1 e2
  omega
 ·simp only [rowsOf, List.mem_map, List.mem_range] at h1
  obtain ⟨i, h2, rfl⟩ := h1
  refine ⟨rowOk_iff.2 ⟨by dsimp only; omega, by dsimp only; omega, by dsimp only; omega, by dsimp only; omega⟩, fun e => ?_⟩
  injection e with e1 e2
  omega
theorem ins_step {l : List ByteArray} {d at_ : Nat} {X : List S75} (hd : d < l.length) (ha : at_ ≤ (docAt l d).size) (h : Ins l d at_ X) (k : Nat) (hk : k ≤ X.length)
  (hlow : ∀ j, (hj : j < X.length) → j < k → ltB l X[j] ⟨(d : Int), (at_ : Int)⟩ = true) (hend : ∀ hj : k < X.length, ltB l X[k] ⟨(d : Int), (at_ : Int)⟩ = false) :
  Ins l d (at_ + 1) (X.take k ++ [⟨(d : Int), (at_ : Int)⟩] ++ X.drop k) := by
 have hmem := mem_ins hd ha h
 obtain ⟨h1, h2⟩ := h
 obtain ⟨r, hr⟩ : ∃ r : S75, (⟨(d : Int), (at_ : Int)⟩ : S75) = r := ⟨_, rfl⟩
 have hok : okR l r = true := by
  rw [← hr]
  exact rowOk_iff.2 ⟨by dsimp only; omega, by dsimp only; omega, by dsimp only; omega, by dsimp only; omega⟩
 rw [hr] at hlow hend hmem ⊢
 have hsplit : X = X.take k ++ X.drop k := (List.take_append_drop k X).symm
 have hp := h1
 rw [hsplit, List.pairwise_append] at hp
 obtain ⟨p1, p2, p3⟩ := hp
 have hT : ∀ a ∈ X.take k, ltB l a r = true := by
  intro a ham
  obtain ⟨j, hj, rfl⟩ := List.mem_iff_getElem.1 ham
  rw [List.length_take] at hj
  rw [List.getElem_take]
  exact hlow j (by omega) (by omega)
 have hD : ∀ b ∈ X.drop k, ltB l r b = true := by
  intro b hb
  by_cases hkl : k < X.length
  ·have hX := hmem X[k] (List.getElem_mem hkl)
   have hrk : ltB l r X[k] = true := by
    cases hc : ltB l r X[k] with
    | true => rfl
    | false => exact absurd (ltB_total hX.1 hok (hend hkl) hc) hX.2
   rw [List.drop_eq_getElem_cons hkl] at hb p2
   rcases List.mem_cons.1 hb with rfl | hb
   ·exact hrk
   ·exact ltB_trans hrk ((List.pairwise_cons.1 p2).1 b hb)
  ·rw [List.drop_eq_nil_of_le (by omega)] at hb
   cases hb
 refine ⟨?_, ?_⟩
 ·rw [List.append_assoc, List.pairwise_append, List.singleton_append, List.pairwise_cons]
  refine ⟨p1, ⟨hD, p2⟩, fun a ha b hb => ?_⟩
  rcases List.mem_cons.1 hb with rfl | hb
  ·exact hT a ha
  ·exact p3 a ha b hb
 ·rw [rowsOf_succ, ← List.append_assoc, hr]
  refine List.Perm.trans ?_ (h2.append_right [r])
  rw [List.append_assoc]
  refine List.Perm.trans (List.perm_append_comm_assoc _ _ _) ?_
  rw [List.take_append_drop]
  exact List.perm_append_comm
end Go.Proofs.YtkcpkecaliegfaaGreat.P

end
section
set_option linter.unusedVariables false
set_option linter.unusedSimpArgs false
namespace Go.Proofs.YtkcpkecaliegfaaGreat.P
open Go.RowKit Go.Proofs.YtkcpkecaliegfaaGreatW.PrintWords Go.Proofs.YtkcpkecaliegfaaGreatW.PrintLast Go.Proofs.YtkcpkecaliegfaaGreatW.PrintMore

theorem ins_rows {l : List ByteArray} (h : ∀ d : Int, (docAt l d).size ≤ 40) : ∀ D, (rowsTo l D).length ≤ 41 * D
 | 0 => Nat.le_refl _
 | D + 1 => by
  have := ins_rows h D
  have h2 := h D
  rw [rowsTo, List.length_append, rowsOf_length]
  omega
theorem ins_len {l : List ByteArray} (h : ∀ d : Int, (docAt l d).size ≤ 40) {d at_ : Nat} {X : List S75} (hd : d ≤ 10) (ha : at_ ≤ 41) (hi : Ins l d at_ X) : X.length ≤ 451 := by
 rw [hi.2.length_eq, List.length_append, rowsOf_length]
 have := ins_rows h d
 omega
theorem right_small {l : List ByteArray} (h : rightB l = true) : l.length ≤ 10 ∧ ∀ d : Int, (docAt l d).size ≤ 40 := by
 unfold rightB at h
 simp only [Bool.and_eq_true, Bool.not_eq_true', decide_eq_true_eq] at h
 refine ⟨h.1, fun d => ?_⟩
 unfold docAt rdOf
 rw [List.getD_eq_getElem?_getD]
 by_cases hd : d.toNat < l.length
 ·rw [List.getElem?_eq_getElem hd]
  have h2 := List.any_eq_false.1 h.2 l[d.toNat] (List.getElem_mem hd)
  simp only [longB, decide_eq_true_eq] at h2
  show l[d.toNat].size ≤ 40
  omega
 ·rw [List.getElem?_eq_none (by omega)]
  exact Nat.zero_le _
theorem lit_row {W : World} {g : Nat} {a b : Int} (h : W.heap[g]? = some (.cells #[.int .i64 a, .int .i64 b] 75 (0, 0))) : ReadsRow (k75.K W) k75.sz W (some ⟨g, 0, none⟩) 1 [⟨a, b⟩] := by
 refine ⟨rfl, by decide, fun _ => ⟨_, rfl, fun j p hj => ?_⟩⟩
 rcases j with _ | j
 ·obtain rfl : (⟨a, b⟩ : S75) = p := by simpa using hj
  refine ⟨[.int .i64 a, .int .i64 b], rfl, k75_mk _ _, fun i u hu => ?_⟩
  rcases i with _ | _ | i
  ·obtain rfl : Value.int .i64 a = u := by simpa using hu
   exact (blk_cell h 0).trans rfl
  ·obtain rfl : Value.int .i64 b = u := by simpa using hu
   exact (blk_cell h 1).trans rfl
  ·simp at hu
 ·simp at hj
theorem rd_rowS (X : List S75) (k : Nat) (h : k < X.length) : rd_T75 X (k : Int) = X[k] := by
 unfold rd_T75
 rw [Int.toNat_natCast, List.getD_eq_getElem?_getD, List.getElem?_eq_getElem h]
 rfl
theorem infoRowL : ((Tryz.prog).info? 75).map (fun i => (i.zero, i.size, i.bytes)) = some (some (.agg #[.int .i64 0, .int .i64 0]), 2, 16) := by kernel_rfl
def refSorted.T12 : Bool × List (List Nat × List Nat) := (true, [([], []), ([], []), ([1], [1]), ([0, 2], [0, 2]), ([3], [3]), ([4], [4]), ([4], [4]), ([4], [4]), ([6, 7, 4], [4, 6, 7]), ([8, 4], [4, 8]), ([4], [4]), ([5, 9, 10, 4, 4], [4, 5, 9, 10]), ([4, 11], [4, 11])])
def refSorted.B12 : List Nat := [0, 0, 2, 7, 15, 31, 31, 31, 223, 479, 31, 2047, 4095]
theorem refSorted.tab12 : rtab .any (opsOf Tryz.f97 12) = refSorted.T12 := by kernel_rfl
theorem refSorted.bits12 : waitsOk refSorted.T12.2 refSorted.B12 = true := by kernel_rfl
def refSorted.T14 : Bool × List (List Nat × List Nat) := (true, [([], []), ([], []), ([0, 1], [0, 1]), ([2], [2]), ([], []), ([4], [4]), ([3, 5, 3], [3, 5]), ([], []), ([], []), ([7, 8], [7, 8]), ([6, 9, 6], [6, 9]), ([10, 10, 0, 1, 2, 3, 4, 5, 6, 7, 8, 9, 10], [0, 7, 10])])
def refSorted.B14 : List Nat := [0, 0, 3, 7, 0, 16, 63, 0, 0, 384, 1023, 2047]
theorem refSorted.tab14 : rtab .any (opsOf Tryz.f97 14) = refSorted.T14 := by kernel_rfl
theorem refSorted.bits14 : waitsOk refSorted.T14.2 refSorted.B14 = true := by kernel_rfl
def scriniumref1_Sorted.f (l0 : List ByteArray) : Option (List S75) := if l0.length ≤ 1000000 then some (sortedRows l0) else none
set_option maxRecDepth 100000 in
set_option maxHeartbeats 8000000 in
theorem refSorted_calls (A0 : Option Addr) (c0 : Nat) (l0 : List ByteArray) (w : World) (hr0 : Kd.C Kd.string w A0 l0.length l0) (hc0 : l0.length ≤ c0) (hl0 : l0.length ≤ 1000000) :
  Calls Tryz.prog 97 #[.slice A0 l0.length c0] w fun e w' => ∃ v0_ : Value, e = .returned v0_ ∧ Kd.R k75 75 w' w.heap.size (fun _ => True) v0_ (sortedRows l0) ∧ Below w.heap.size w w' := by
 obtain ⟨rb, hrb⟩ : ∃ b, rightB l0 = b := ⟨_, rfl⟩
 have RG := Aside0.mk (fun w' (hC : Kd.C Kd.string w' A0 l0.length l0) => scriniumref1_Right.calls (l0.length + 1) A0 c0 l0 rb w' hC hc0 (by rw [refRight_ok l0 hl0 _ (Nat.le_refl _), hrb]))
 have HR0 := Aside0.mk hr0
 have HC0 := Aside0.mk hc0
 have HRB := Aside0.mk hrb
 clear hr0 hc0 hl0 hrb
 cases rb with
 | false =>
  have hnil : sortedRows l0 = [] := by unfold sortedRows; rw [HRB.out]; rfl
  have HNIL := Aside0.mk hnil
  clear hnil
  go_enter Tryz.func97, Tryz.ntmps97
  go_wp2_with fail
  refine (RG.out _ HR0.out).mono ?_
  rintro en w1 ⟨rfl, hd⟩
  have HB := Aside0.mk hd.below
  clear hd
  go_wp2_with fail
  go_ret
  exact ⟨.slice none 0 0, rfl, by rw [HNIL.out]; exact Kd.R_nil _ _ _ _ _, HB.out⟩
 | true =>
  have hsm := right_small HRB.out
  have HSM := Aside0.mk hsm
  have h10 : l0.length ≤ 10 := hsm.1
  have LS := Aside0.mk (fun d i e j w' (hC : Kd.C Kd.string w' A0 l0.length l0) (hz : (docAt l0 d).size ≤ 140737488351232) => scriniumref1_Less.calls (3 * (docAt l0 d).size + 10) A0 c0 l0 d i e j (lessB l0 d i e j) w' hC HC0.out (refLess_ok l0 d i e j hz _ (Nat.le_refl _)))
  clear hsm
  go_enter Tryz.func97, Tryz.ntmps97
  go_wp2_with fail
  refine (RG.out _ HR0.out).mono ?_
  rintro en w1 ⟨rfl, hd⟩
  have HB1 := Aside0.mk hd.below
  clear hd RG
  go_wp2_with fail
  go_loopw [3, 4] (fun out iv wr => ∃ (d : Nat) (X : List S75), d ≤ l0.length ∧ iv = .int .i64 d ∧ Aside0 (Ins l0 d 0 X) ∧ Aside0 (Kd.R k75 75 wr w.heap.size (fun _ => True) out X) ∧ Aside0 (Below w.heap.size w wr)) (fun _ iv _ => l0.length - (intOf iv).toNat)
  case atStart => exact ⟨0, [], Nat.zero_le _, rfl, ⟨ins_start l0⟩, ⟨Kd.R_nil _ _ _ _ _⟩, HB1⟩
  case round =>
   obtain ⟨d, X, hd, rfl, HI, HO, HB⟩ := hrel
   obtain ⟨Ao, co, rfl⟩ := Kd.R_slice HO.out
   by_cases hlt : d < l0.length
   ·have c1 : decide ((d : Int) < (l0.length : Int)) = true := decide_eq_true (by omega)
    have c2 : decide (d < l0.length) = true := decide_eq_true hlt
    have v1 : (0 ≤ (d : Int)) = True := eq_true (by omega)
    have v2 : ((d : Int) < (l0.length : Int)) = True := eq_true (by omega)
    have v3 : IntKind.i64.wrap ((d : Int) + 1) = (d : Int) + 1 := IntWalk.i64_in _ (by omega)
    have hsz := HSM.out.2 d
    obtain ⟨sz, hszE⟩ : ∃ z, (docAt l0 (d : Int)).size = z := ⟨_, rfl⟩
    have HSZ := Aside0.mk hszE
    rw [hszE] at hsz
    clear hszE
    obtain ⟨ad, hAd, hxs⟩ := Kd.at_string HR0.out (d : Int) (by omega) (by omega)
    rw [Int.toNat_natCast] at hxs
    subst hAd
    have HXS := Aside0.mk (show w.cell? (ad.add d) = some (.string (docAt l0 (d : Int))) from hxs)
    clear hxs
    go_wp2_with fail
    go_loopw [3, 5] (fun out iv wr => ∃ (at_ : Nat) (X : List S75), at_ ≤ sz + 1 ∧ iv = .int .i64 at_ ∧ Aside0 (Ins l0 d at_ X) ∧ Aside0 (Kd.R k75 75 wr w.heap.size (fun _ => True) out X) ∧ Aside0 (Below w.heap.size w wr)) (fun _ iv _ => sz + 1 - (intOf iv).toNat)
    case atStart => exact ⟨0, X, Nat.zero_le _, rfl, HI, HO, HB⟩
    case round =>
     clear HI HO HB
     obtain ⟨at_, X, hat, rfl, HI, HO, HB⟩ := hrel
     obtain ⟨Ao, co, rfl⟩ := Kd.R_slice HO.out
     have x0 := pw_cell_below HB.out HXS.out
     obtain ⟨S, hS⟩ : ∃ S, docAt l0 (d : Int) = S := ⟨_, rfl⟩
     have HS := Aside0.mk hS
     rw [hS] at x0
     have hSz : S.size = sz := by rw [← hS]; exact HSZ.out
     have HSz := Aside0.mk hSz
     clear hS
     by_cases hat2 : at_ ≤ sz
     ·have d1 : decide ((at_ : Int) ≤ (S.size : Int)) = true := decide_eq_true (by omega)
      have d2 : decide (at_ ≤ S.size) = true := decide_eq_true (by omega)
      have d3 : IntKind.i64.wrap ((at_ : Int) + 1) = (at_ : Int) + 1 := IntWalk.i64_in _ (by omega)
      have hXl := ins_len HSM.out.2 (by omega) (by omega) HI.out
      clear hSz
      obtain ⟨W1, hW1⟩ : ∃ x, wr.alloc (.cells #[.int .i64 d, .int .i64 at_] 75) = x := ⟨_, rfl⟩
      have hBr : Below wr.heap.size wr W1 := by rw [← hW1]; exact below_alloc (Below.refl _ _) _
      have HBX : Aside0 (W1.heap[wr.heap.size]? = some (.cells #[.int .i64 d, .int .i64 at_] 75 (0, 0))) := ⟨by rw [← hW1]; exact heap_alloc_new _ _⟩
      have HO1 := Aside0.mk (Kd.R_below HO.out hBr)
      have HB2 := Aside0.mk (below_step HB.out hBr)
      have HCl := Aside0.mk (Kd.C_below HR0.out HB2.out)
      have HW1 := Aside0.mk hW1
      clear hBr hW1
      go_wp2_with fail
      rw [HW1.out]
      obtain ⟨bx, hbxe⟩ : ∃ b, wr.heap.size = b := ⟨_, rfl⟩
      rw [hbxe] at HBX ⊢
      clear hbxe x0 HW1
      go_loopw [7] (fun kv wr => ∃ k : Nat, k ≤ X.length ∧ kv = .int .i64 k ∧ Aside0 (∀ j, (hj : j < X.length) → j < k → ltB l0 X[j] ⟨(d : Int), (at_ : Int)⟩ = true) ∧ Aside0 (Below W1.heap.size W1 wr)) (fun kv _ => X.length - (intOf kv).toNat)
      case atStart => exact ⟨0, Nat.zero_le _, rfl, ⟨fun j hj h => absurd h (Nat.not_lt_zero _)⟩, ⟨Below.refl _ _⟩⟩
      case round =>
       obtain ⟨k, hk, rfl, HL, HK⟩ := hrel
       have HOk := Aside0.mk (Kd.R_below HO1.out HK.out)
       have HBk := Aside0.mk (blk_below HBX.out HK.out)
       have y0 : wr.cell? ⟨bx, 0, none⟩ = some (.int .i64 (d : Int)) := (blk_cell HBk.out 0).trans rfl
       have y1 : wr.cell? ⟨bx, 1, none⟩ = some (.int .i64 (at_ : Int)) := (blk_cell HBk.out 1).trans rfl
       by_cases hkl : k < X.length
       ·have e1 : decide ((k : Int) < (X.length : Int)) = true := decide_eq_true (by omega)
        have e2 : decide (k < X.length) = true := decide_eq_true hkl
        have e3 : (0 ≤ (k : Int)) = True := eq_true (by omega)
        have e4 : ((k : Int) < (X.length : Int)) = True := eq_true (by omega)
        have e5 : IntKind.i64.wrap ((k : Int) + 1) = (k : Int) + 1 := IntWalk.i64_in _ (by omega)
        obtain ⟨ao, hAo, z0, z1⟩ := at_T75 (Kd.R_reads' HOk.out).2.2 (k : Int) (by omega) (by omega)
        rw [rd_rowS X k hkl, Int.toNat_natCast] at z0 z1
        subst hAo
        obtain ⟨fa, hfa⟩ : ∃ q, X[k].f0 = q := ⟨_, rfl⟩
        obtain ⟨fb, hfb⟩ : ∃ q, X[k].f1 = q := ⟨_, rfl⟩
        rw [hfa] at z0
        rw [hfb] at z1
        obtain ⟨b, hb⟩ : ∃ b, lessB l0 fa fb (d : Int) (at_ : Int) = b := ⟨_, rfl⟩
        have HLB := Aside0.mk (show ltB l0 X[k] ⟨(d : Int), (at_ : Int)⟩ = b by unfold ltB; rw [hfa, hfb]; exact hb)
        have LSk := Aside0.mk (fun w' (hC : Kd.C Kd.string w' (some ad) l0.length l0) => LS.out fa fb (d : Int) (at_ : Int) w' hC (Nat.le_trans (HSM.out.2 fa) (by decide)))
        rw [hb] at LSk
        clear hb hfa hfb
        go_wp2_with fail
        refine start_ (n := 13) (S := fun w' => Below wr.heap.size wr w') (ds := []) #[false, false, false, false, false, false, false, false, false, false, false, false, false] (by kernel_rfl) rfl rfl (below_drew1 (Below.refl _ _)) (fun hHeld => ?_)
        refine with_tabW refSorted.tab12 refSorted.bits12 (fun HT_ HW_ => ?_)
        refine take_ (i := 0) (N := some 29) (v := ?_) (a' := ?_) #[true, false, false, false, false, false, false, false, false, false, false, false, false] rfl rfl (take_ofW HT_.out HW_.out (by kernel_rfl)) (fun _ _ _ h => h) (Or.inl ⟨by rfl, ?_⟩) hHeld ?_ ?_
        rotate_left
        ·intro w' s
         go_simp
         with_reducible rfl
        rotate_left
        ·simp only [Act.put, List.setIfInBounds_toArray, List.set_cons_zero, List.set_cons_succ, i64_w, i32_w]
         rfl
        refine take_ (i := 1) (N := some 30) (v := ?_) (a' := ?_) #[true, true, false, false, false, false, false, false, false, false, false, false, false] rfl rfl (take_ofW HT_.out HW_.out (by kernel_rfl)) (fun _ _ _ h => h) (Or.inl ⟨by rfl, ?_⟩) hHeld ?_ ?_
        rotate_left
        ·intro w' s
         go_simp
         with_reducible rfl
        rotate_left
        ·simp only [Act.put, List.setIfInBounds_toArray, List.set_cons_zero, List.set_cons_succ, i64_w, i32_w]
         rfl
        refine take_ (i := 2) (N := some 31) (v := ?_) (a' := ?_) #[true, true, true, false, false, false, false, false, false, false, false, false, false] rfl rfl (take_ofW HT_.out HW_.out (by kernel_rfl)) (fun _ _ _ h => h) (Or.inl ⟨by rfl, ?_⟩) hHeld ?_ ?_
        rotate_left
        ·intro w' s
         go_simp
         with_reducible rfl
        rotate_left
        ·simp only [Act.put, List.setIfInBounds_toArray, List.set_cons_zero, List.set_cons_succ, i64_w, i32_w]
         rfl
        refine take_ (i := 3) (N := some 32) (v := ?_) (a' := ?_) #[true, true, true, true, false, false, false, false, false, false, false, false, false] rfl rfl (take_ofW HT_.out HW_.out (by kernel_rfl)) (fun _ _ _ h => h) (Or.inl ⟨by rfl, ?_⟩) hHeld ?_ ?_
        rotate_left
        ·intro w' s
         go_simp
         with_reducible rfl
        rotate_left
        ·simp only [Act.put, List.setIfInBounds_toArray, List.set_cons_zero, List.set_cons_succ, i64_w, i32_w]
         rfl
        refine take_ (i := 4) (N := some 33) (v := ?_) (a' := ?_) #[true, true, true, true, true, false, false, false, false, false, false, false, false] rfl rfl (take_ofW HT_.out HW_.out (by kernel_rfl)) (fun _ _ _ h => h) (Or.inl ⟨by rfl, ?_⟩) hHeld ?_ ?_
        rotate_left
        ·intro w' s
         go_simp
         with_reducible rfl
        rotate_left
        ·simp only [Act.put, List.setIfInBounds_toArray, List.set_cons_zero, List.set_cons_succ, i64_w, i32_w]
         rfl
        refine take_ (i := 5) (N := some 34) (v := ?_) (a' := ?_) #[true, true, true, true, true, true, false, false, false, false, false, false, false] rfl rfl (take_ofW HT_.out HW_.out (by kernel_rfl)) (fun _ _ _ h => h) (Or.inl ⟨by rfl, ?_⟩) hHeld ?_ ?_
        rotate_left
        ·intro w' s
         go_simp
         with_reducible rfl
        rotate_left
        ·simp only [Act.put, List.setIfInBounds_toArray, List.set_cons_zero, List.set_cons_succ, i64_w, i32_w]
         rfl
        refine take_ (i := 6) (N := some 35) (v := ?_) (a' := ?_) #[true, true, true, true, true, true, true, false, false, false, false, false, false] rfl rfl (take_ofW HT_.out HW_.out (by kernel_rfl)) (fun _ _ _ h => h) (Or.inl ⟨by rfl, ?_⟩) hHeld ?_ ?_
        rotate_left
        ·intro w' s
         go_simp
         with_reducible rfl
        rotate_left
        ·simp only [Act.put, List.setIfInBounds_toArray, List.set_cons_zero, List.set_cons_succ, i64_w, i32_w]
         rfl
        refine take_ (i := 7) (N := some 36) (v := ?_) (a' := ?_) #[true, true, true, true, true, true, true, true, false, false, false, false, false] rfl rfl (take_ofW HT_.out HW_.out (by kernel_rfl)) (fun _ _ _ h => h) (Or.inl ⟨by rfl, ?_⟩) hHeld ?_ ?_
        rotate_left
        ·intro w' s
         go_simp
         with_reducible rfl
        rotate_left
        ·simp only [Act.put, List.setIfInBounds_toArray, List.set_cons_zero, List.set_cons_succ, i64_w, i32_w]
         rfl
        refine take_ (i := 8) (N := some 37) (v := ?_) (a' := ?_) #[true, true, true, true, true, true, true, true, true, false, false, false, false] rfl rfl (take_ofW HT_.out HW_.out (by kernel_rfl)) (fun _ _ _ h => h) (Or.inl ⟨by rfl, ?_⟩) hHeld ?_ ?_
        rotate_left
        ·intro w' s
         go_simp
         with_reducible rfl
        rotate_left
        ·simp only [Act.put, List.setIfInBounds_toArray, List.set_cons_zero, List.set_cons_succ, i64_w, i32_w]
         rfl
        refine take_ (i := 9) (N := some 38) (v := ?_) (a' := ?_) #[true, true, true, true, true, true, true, true, true, true, false, false, false] rfl rfl (take_ofW HT_.out HW_.out (by kernel_rfl)) (fun _ _ _ h => h) (Or.inl ⟨by rfl, ?_⟩) hHeld ?_ ?_
        rotate_left
        ·intro w' s
         have s0 := pw_cell_below s y0
         have s1 := pw_cell_below s y1
         have s2 := pw_cell_below s z0
         have s3 := pw_cell_below s z1
         go_simp
         with_reducible rfl
        rotate_left
        ·simp only [Act.put, List.setIfInBounds_toArray, List.set_cons_zero, List.set_cons_succ, i64_w, i32_w]
         rfl
        refine take_ (i := 10) (N := some 39) (v := ?_) (a' := ?_) #[true, true, true, true, true, true, true, true, true, true, true, false, false] rfl rfl (take_ofW HT_.out HW_.out (by kernel_rfl)) (fun _ _ _ h => h) (Or.inl ⟨by rfl, ?_⟩) hHeld ?_ ?_
        rotate_left
        ·intro w' s
         have s0 := pw_cell_below s y0
         have s1 := pw_cell_below s y1
         have s2 := pw_cell_below s z0
         have s3 := pw_cell_below s z1
         go_simp
         with_reducible rfl
        rotate_left
        ·simp only [Act.put, List.setIfInBounds_toArray, List.set_cons_zero, List.set_cons_succ, i64_w, i32_w]
         rfl
        refine one_ (i := 11) (N := some 40) #[true, true, true, true, true, true, true, true, true, true, true, true, false] rfl rfl (one_of HT_.out (by kernel_rfl)) (by decide) (fun K hK => ?_)
        refine goes_ Tryz.func105 (by kernel_rfl) rfl #[.slice (some ad) l0.length c0, .agg #[.int .i64 fa, .int .i64 fb], .agg #[.int .i64 d, .int .i64 at_]] (by rfl) rfl rfl (by (try simp only [List.map_toArray, List.map_cons, List.map_nil]); first | done | rfl | (simp only [List.length_drop, List.length_take]; rfl)) ?_
        refine (LSk.out _ (Kd.C_below (Kd.C_below HCl.out HK.out) hHeld)).mono ?_
        rintro en wz ⟨rfl, hb8⟩
        refine ⟨_, rfl, ?_⟩
        have hS8 := below_step hHeld hb8
        refine hK.out _ _ hS8 (fun hHeld => ?_)
        clear hb8 hS8
        clear hK K
        refine norm_ (a' := ?_) ?_ ?_
        rotate_left
        ·show Act.put _ (some 40) _ = _
         simp only [Act.put, List.setIfInBounds_toArray, List.set_cons_zero, List.set_cons_succ, i64_w, i32_w]
         rfl
        refine take_ (i := 12) (N := some 41) (v := ?_) (a' := ?_) #[true, true, true, true, true, true, true, true, true, true, true, true, true] rfl rfl (take_ofW HT_.out HW_.out (by kernel_rfl)) (fun _ _ _ h => h) (Or.inl ⟨by rfl, ?_⟩) hHeld ?_ ?_
        rotate_left
        ·intro w' s
         go_simp
         with_reducible rfl
        rotate_left
        ·simp only [Act.put, List.setIfInBounds_toArray, List.set_cons_zero, List.set_cons_succ, i64_w, i32_w]
         rfl
        refine done_ (done_of HT_.out (by kernel_rfl)) ?_
        cases b with
        | true =>
         have HLn : Aside0 (∀ j, (hj : j < X.length) → j < k + 1 → ltB l0 X[j] ⟨(d : Int), (at_ : Int)⟩ = true) := ⟨fun j hj h => by
          by_cases e : j = k
          ·subst e; exact HLB.out
          ·exact HL.out j hj (by omega)⟩
         have HKn := Aside0.mk (below_step HK.out hHeld)
         clear hHeld y0 y1 z0 z1
         go_wp2_with fail
         go_roundw
         case rel => exact ⟨k + 1, by omega, by go_num, HLn, HKn⟩
         case measure => simp [intOf]; omega
        | false =>
         have HE : Aside0 (∀ hj : k < X.length, ltB l0 X[k] ⟨(d : Int), (at_ : Int)⟩ = false) := ⟨fun _ => HLB.out⟩
         obtain ⟨Ao, hAo⟩ : ∃ A_, some ao = A_ := ⟨_, rfl⟩
         rw [hAo] at HO HO1 HOk ⊢
         clear hAo e1 e2 e3 e4 y0 y1 z0 z1 LSk HLB
         have hwz := hHeld
         clear hHeld
         have HOz := Aside0.mk (Kd.R_below HOk.out hwz)
         have HWz := Aside0.mk (below_step (below_step HB2.out HK.out) hwz)
         have HBz := Aside0.mk (blk_below HBk.out hwz)
         clear hwz
         have y0 : wz.cell? ⟨bx, 0, none⟩ = some (.int .i64 (d : Int)) := (blk_cell HBz.out 0).trans rfl
         have y1 : wz.cell? ⟨bx, 1, none⟩ = some (.int .i64 (at_ : Int)) := (blk_cell HBz.out 1).trans rfl
         have HKT : Aside0 ((X.take k).length = k) := ⟨by rw [List.length_take]; omega⟩
         have hxc := (Kd.R_reads' HOz.out).2.1
         have HCt : Aside0 (Kd.C k75 wz Ao k (X.take k)) := ⟨by have h := Kd.C_take (Kd.R_reads' HOz.out).2.2 hk; rwa [HKT.out] at h⟩
         obtain ⟨ifo, hinf, _, hisz, _⟩ := info_parts infoRowL
         have hcut1 := cut_to (P := Tryz.prog) 32 75 .i64 Tryz.underlying32 hinf Ao X.length co (k : Int) (by omega) (by omega) hxc
         rw [Int.toNat_natCast] at hcut1
         have hcut2 := cut_from (P := Tryz.prog) 32 75 .i64 Tryz.underlying32 hinf 2 hisz Ao X.length co (k : Int) (by omega) (by omega)
         rw [Int.toNat_natCast] at hcut2
         have hCd := Kd.C_drop (Kd.R_reads' HOz.out).2.2 hk hxc
         rw [show (k75).sz = 2 from rfl, List.length_drop] at hCd
         obtain ⟨Ad, hAd⟩ : ∃ A_, (if co = k then Ao else Ao.map (·.add (k * 2))) = A_ := ⟨_, rfl⟩
         rw [hAd] at hcut2 hCd
         have HCd := Aside0.mk hCd
         clear hCd hAd hinf hisz hxc
         go_wp2_with fail
         refine start_ (n := 12) (S := fun w' => Below wz.heap.size wz w') (ds := []) #[false, false, false, false, false, false, false, false, false, false, false, false] (by kernel_rfl) rfl rfl (below_drew1 (Below.refl _ _)) (fun hHeld => ?_)
         refine with_tabW refSorted.tab14 refSorted.bits14 (fun HT_ HW_ => ?_)
         refine take_ (i := 0) (N := some 44) (v := ?_) (a' := ?_) #[true, false, false, false, false, false, false, false, false, false, false, false] rfl rfl (take_ofW HT_.out HW_.out (by kernel_rfl)) (fun _ _ _ h => h) (Or.inl ⟨by rfl, ?_⟩) hHeld ?_ ?_
         rotate_left
         ·intro w' s
          go_simp
          with_reducible rfl
         rotate_left
         ·simp only [Act.put, List.setIfInBounds_toArray, List.set_cons_zero, List.set_cons_succ, i64_w, i32_w]
          rfl
         refine take_ (i := 1) (N := some 45) (v := ?_) (a' := ?_) #[true, true, false, false, false, false, false, false, false, false, false, false] rfl rfl (take_ofW HT_.out HW_.out (by kernel_rfl)) (fun _ _ _ h => h) (Or.inl ⟨by rfl, ?_⟩) hHeld ?_ ?_
         rotate_left
         ·intro w' s
          go_simp
          with_reducible rfl
         rotate_left
         ·simp only [Act.put, List.setIfInBounds_toArray, List.set_cons_zero, List.set_cons_succ, i64_w, i32_w]
          rfl
         refine take_ (i := 2) (N := some 46) (v := ?_) (a' := ?_) #[true, true, true, false, false, false, false, false, false, false, false, false] rfl rfl (take_ofW HT_.out HW_.out (by kernel_rfl)) (fun _ _ _ h => h) (Or.inl ⟨by rfl, ?_⟩) hHeld ?_ ?_
         rotate_left
         ·intro w' s
          go_simp
          with_reducible rfl
         rotate_left
         ·simp only [Act.put, List.setIfInBounds_toArray, List.set_cons_zero, List.set_cons_succ, i64_w, i32_w]
          rfl
         refine take_ (i := 4) (N := some 48) (v := ?_) (a' := ?_) #[true, true, true, false, true, false, false, false, false, false, false, false] rfl rfl (take_ofW HT_.out HW_.out (by kernel_rfl)) (fun _ _ _ h => h) (Or.inl ⟨by rfl, ?_⟩) hHeld ?_ ?_
         rotate_left
         ·intro w' s
          have s0 := pw_cell_below s y0
          have s1 := pw_cell_below s y1
          go_simp
          with_reducible rfl
         rotate_left
         ·simp only [Act.put, List.setIfInBounds_toArray, List.set_cons_zero, List.set_cons_succ, i64_w, i32_w]
          rfl
         refine take_ (i := 7) (N := some 51) (v := ?_) (a' := ?_) #[true, true, true, false, true, false, false, true, false, false, false, false] rfl rfl (take_ofW HT_.out HW_.out (by kernel_rfl)) (fun _ _ _ h => h) (Or.inl ⟨by rfl, ?_⟩) hHeld ?_ ?_
         rotate_left
         ·intro w' s
          go_simp
          with_reducible rfl
         rotate_left
         ·simp only [Act.put, List.setIfInBounds_toArray, List.set_cons_zero, List.set_cons_succ, i64_w, i32_w]
          rfl
         refine take_ (i := 8) (N := some 52) (v := ?_) (a' := ?_) #[true, true, true, false, true, false, false, true, true, false, false, false] rfl rfl (take_ofW HT_.out HW_.out (by kernel_rfl)) (fun _ _ _ h => h) (Or.inl ⟨by rfl, ?_⟩) hHeld ?_ ?_
         rotate_left
         ·intro w' s
          go_simp
          with_reducible rfl
         rotate_left
         ·simp only [Act.put, List.setIfInBounds_toArray, List.set_cons_zero, List.set_cons_succ, i64_w, i32_w]
          rfl
         refine take_ (i := 9) (N := some 53) (v := ?_) (a' := ?_) #[true, true, true, false, true, false, false, true, true, true, false, false] rfl rfl (take_ofW HT_.out HW_.out (by kernel_rfl)) (fun _ _ _ h => h) (Or.inl ⟨by rfl, ?_⟩) hHeld ?_ ?_
         rotate_left
         ·intro w' s
          go_simp
          with_reducible rfl
         rotate_left
         ·simp only [Act.put, List.setIfInBounds_toArray, List.set_cons_zero, List.set_cons_succ, i64_w, i32_w]
          rfl
         refine join_ (σ := Option Addr × Nat × Nat) 3 #[true, true, true, true, true, true, false, true, true, true, false, false] (fun s => [(47, .slice s.1 k s.2.1), (49, .slice (some ⟨s.2.2, 0, none⟩) 1 1)]) (fun s w' => Kd.R k75 75 w' wz.heap.size (fun _ => True) (.slice s.1 k s.2.1) (X.take k) ∧ w'.heap[s.2.2]? = some (.cells #[.int .i64 d, .int .i64 at_] 75 (0, 0)) ∧ Below wz.heap.size wz w') ?_ ?_
         rotate_left
         ·intro hjoin
          have hB := hHeld
          obtain ⟨wa, hwa⟩ : ∃ x, wz.drew = x := ⟨_, rfl⟩
          rw [hwa] at hB ⊢
          clear hHeld hwa
          refine two_ (i := 3) (j := 5) (Ni := some 47) (Nj := some 49) #[true, true, true, true, true, false, false, true, true, true, false, false] #[true, true, true, false, true, true, false, true, true, true, false, false] rfl rfl rfl rfl (two_of HT_.out (by kernel_rfl)) (by decide) (by decide) (fun K hK => ?_) (fun K hK => ?_)
          ·refine Kd.R_append_rows_step k75 (Rr := k75.K _) (w0 := wz) wz.heap.size (by rfl) (.const (.slice none 0 0)) (.tmp 46) 32 75 (.agg #[.int .i64 0, .int .i64 0]) 16 rfl Tryz.underlying32 infoRowL rfl (by decide) (by decide) (.slice none 0 0) [] (X.take k) Ao k co (fun _ => True) (fun _ => False) rfl rfl (Kd.R_nil _ _ _ _ _) (Kd.C_below HCt.out hB) (fun x cs h => by rw [k75_open h]; exact k75_mkM _ _ _ x) (fun _ h => h.elim) (fun _ _ => trivial) hB hB.size (by simp only [List.length_append, List.length_take, List.length_drop, List.length_nil, List.length_singleton]; omega) ?_
           intro v1' w2 hR' hB' hG' _
           rw [List.nil_append] at hR'
           obtain ⟨A1', c1', hv1⟩ := Kd.R_slice hR'
           rw [HKT.out] at hv1
           subst hv1
           refine hK.out _ _ hB' (fun _ => ?_)
           clear hK K
           refine norm_ (a' := ?_) ?_ ?_
           rotate_left
           ·show Act.put _ (some 47) _ = _
            simp only [Act.put, List.setIfInBounds_toArray, List.set_cons_zero, List.set_cons_succ, i64_w, i32_w]
            rfl
           refine one_ (i := 5) (N := some 49) #[true, true, true, true, true, true, false, true, true, true, false, false] rfl rfl (one_of HT_.out (by kernel_rfl)) (by decide) (fun K hK => ?_)
           refine value_ (v := .slice (some ⟨w2.heap.size, 0, none⟩) 1 1) (w1 := w2.alloc (.cells #[.int .i64 d, .int .i64 at_] 75)) (by rfl) rfl (by first | (go_simp; done) | (go_simp; rfl)) (hK.out _ _ (below_alloc hB' _) (fun _ => ?_))
           exact norm_ (by first | (simp only [putAll, Act.put, List.setIfInBounds_toArray, List.set_cons_zero, List.set_cons_succ]; done) | (simp only [putAll, Act.put, List.setIfInBounds_toArray, List.set_cons_zero, List.set_cons_succ]; rfl)) (hjoin (A1', c1', w2.heap.size) _ ⟨Kd.R_alloc hR' _, heap_alloc_new w2 _, below_alloc hB' _⟩)
          ·refine value_ (v := .slice (some ⟨wa.heap.size, 0, none⟩) 1 1) (w1 := wa.alloc (.cells #[.int .i64 d, .int .i64 at_] 75)) (by rfl) rfl (by first | (go_simp; done) | (go_simp; rfl)) (hK.out _ _ (below_alloc hB _) (fun _ => ?_))
           clear hK K
           have hL2 : (wa.alloc (.cells #[.int .i64 d, .int .i64 at_] 75)).heap[wa.heap.size]? = some (.cells #[.int .i64 d, .int .i64 at_] 75 (0, 0)) := heap_alloc_new wa _
           have hB2 := below_alloc hB (.cells #[.int .i64 d, .int .i64 at_] 75)
           refine norm_ (a' := ?_) ?_ ?_
           rotate_left
           ·show Act.put _ (some 49) _ = _
            simp only [Act.put, List.setIfInBounds_toArray, List.set_cons_zero, List.set_cons_succ, i64_w, i32_w]
            rfl
           obtain ⟨wb, hwb⟩ : ∃ x, wa.alloc (.cells #[.int .i64 d, .int .i64 at_] 75) = x := ⟨_, rfl⟩
           rw [hwb] at hL2 hB2 ⊢
           obtain ⟨gl, hgl⟩ : ∃ x, wa.heap.size = x := ⟨_, rfl⟩
           rw [hgl] at hL2 ⊢
           clear hwb hgl
           refine one_ (i := 3) (N := some 47) #[true, true, true, true, true, true, false, true, true, true, false, false] rfl rfl (one_of HT_.out (by kernel_rfl)) (by decide) (fun K hK => ?_)
           refine Kd.R_append_rows_step k75 (Rr := k75.K _) (w0 := wz) wz.heap.size (by rfl) (.const (.slice none 0 0)) (.tmp 46) 32 75 (.agg #[.int .i64 0, .int .i64 0]) 16 rfl Tryz.underlying32 infoRowL rfl (by decide) (by decide) (.slice none 0 0) [] (X.take k) Ao k co (fun _ => True) (fun _ => False) rfl rfl (Kd.R_nil _ _ _ _ _) (Kd.C_below HCt.out hB2) (fun x cs h => by rw [k75_open h]; exact k75_mkM _ _ _ x) (fun _ h => h.elim) (fun _ _ => trivial) hB2 hB2.size (by simp only [List.length_append, List.length_take, List.length_drop, List.length_nil, List.length_singleton]; omega) ?_
           intro v1' w2 hR' hB' hG' _
           rw [List.nil_append] at hR'
           obtain ⟨A1', c1', hv1⟩ := Kd.R_slice hR'
           rw [HKT.out] at hv1
           subst hv1
           refine hK.out _ _ hB' (fun _ => ?_)
           exact norm_ (by first | (simp only [putAll, Act.put, List.setIfInBounds_toArray, List.set_cons_zero, List.set_cons_succ]; done) | (simp only [putAll, Act.put, List.setIfInBounds_toArray, List.set_cons_zero, List.set_cons_succ]; rfl)) (hjoin (A1', c1', gl) _ ⟨hR', blk_grown hL2 hG' (fun e => by cases e), hB'⟩)
         clear hHeld
         rintro ⟨A1, c1, g⟩ w1 ⟨hR, hL, hB⟩
         dsimp only at hR hL
         refine norm_ (a' := ?_) ?_ ?_
         rotate_left
         ·simp only [putAll, Act.put, List.setIfInBounds_toArray, List.set_cons_zero, List.set_cons_succ, i64_w, i32_w]
          rfl
         refine one_ (i := 6) (N := some 50) #[true, true, true, true, true, true, true, true, true, true, false, false] rfl rfl (one_of HT_.out (by kernel_rfl)) (by decide) (fun K hK => ?_)
         refine Kd.R_append_rows_step k75 (Rr := k75.K _) (w0 := wz) wz.heap.size (by rfl) (.tmp 47) (.tmp 49) 32 75 (.agg #[.int .i64 0, .int .i64 0]) 16 rfl Tryz.underlying32 infoRowL rfl (by decide) (by decide) (.slice A1 k c1) (X.take k) [⟨(d : Int), (at_ : Int)⟩] (some ⟨g, 0, none⟩) 1 1 (fun _ => True) (fun _ => False) rfl rfl hR (lit_row hL) (fun x cs h => by rw [k75_open h]; exact k75_mkM _ _ _ x) (fun _ h => h.elim) (fun _ _ => trivial) hB hB.size (by simp only [List.length_append, List.length_take, List.length_drop, List.length_nil, List.length_singleton]; omega) ?_
         intro v4 w2 hR4 hB4 _ _
         obtain ⟨A4, c4, hv4⟩ := Kd.R_slice hR4
         obtain ⟨n4, hn4⟩ : ∃ q, (X.take k ++ [(⟨(d : Int), (at_ : Int)⟩ : S75)]).length = q := ⟨_, rfl⟩
         rw [hn4] at hv4
         subst hv4
         refine hK.out _ _ hB4 (fun _ => ?_)
         clear hK K hR hL hB
         refine norm_ (a' := ?_) ?_ ?_
         rotate_left
         ·show Act.put _ (some 50) _ = _
          simp only [Act.put, List.setIfInBounds_toArray, List.set_cons_zero, List.set_cons_succ, i64_w, i32_w]
          rfl
         refine one_ (i := 10) (N := some 54) #[true, true, true, true, true, true, true, true, true, true, true, false] rfl rfl (one_of HT_.out (by kernel_rfl)) (by decide) (fun K hK => ?_)
         refine Kd.R_append_rows_step k75 (Rr := k75.K _) (w0 := wz) wz.heap.size (by rfl) (.tmp 50) (.tmp 53) 32 75 (.agg #[.int .i64 0, .int .i64 0]) 16 rfl Tryz.underlying32 infoRowL rfl (by decide) (by decide) (.slice A4 n4 c4) (X.take k ++ [⟨(d : Int), (at_ : Int)⟩]) (X.drop k) Ad (X.length - k) (co - k) (fun _ => True) (fun _ => False) rfl rfl hR4 (Kd.C_below HCd.out hB4) (fun x cs h => by rw [k75_open h]; exact k75_mkM _ _ _ x) (fun _ h => h.elim) (fun _ _ => trivial) hB4 hB4.size (by simp only [List.length_append, List.length_take, List.length_drop, List.length_nil, List.length_singleton]; omega) ?_
         intro v5 w3 hR5 hHeld _ _
         obtain ⟨A5, c5, hv5⟩ := Kd.R_slice hR5
         obtain ⟨n5, hn5⟩ : ∃ q, (X.take k ++ [(⟨(d : Int), (at_ : Int)⟩ : S75)] ++ X.drop k).length = q := ⟨_, rfl⟩
         rw [hn5] at hv5
         subst hv5
         have HR5 := Aside0.mk hR5
         refine hK.out _ _ hHeld (fun hHeld => ?_)
         clear hK K hR4 hB4 hR5 hn4
         refine norm_ (a' := ?_) ?_ ?_
         rotate_left
         ·show Act.put _ (some 54) _ = _
          simp only [Act.put, List.setIfInBounds_toArray, List.set_cons_zero, List.set_cons_succ, i64_w, i32_w]
          rfl
         refine take_ (i := 11) (N := some 3) (v := ?_) (a' := ?_) #[true, true, true, true, true, true, true, true, true, true, true, true] rfl rfl (take_ofW HT_.out HW_.out (by kernel_rfl)) (fun _ _ _ h => h) (Or.inl ⟨by rfl, ?_⟩) hHeld ?_ ?_
         rotate_left
         ·intro w' s
          go_simp
          with_reducible rfl
         rotate_left
         ·simp only [Act.put, List.setIfInBounds_toArray, List.set_cons_zero, List.set_cons_succ, i64_w, i32_w]
          rfl
         refine done_ (done_of HT_.out (by kernel_rfl)) ?_
         have HIn := Aside0.mk (ins_step hlt (by rw [HSZ.out]; omega) HI.out k hk HL.out HE.out)
         have HOn := Aside0.mk (Kd.R_lower HR5.out HWz.out.size)
         have HBn := Aside0.mk (below_step HWz.out hHeld)
         clear hHeld y0 y1 hcut1 hcut2 hn5
         go_wp2_with fail
         go_roundw
         case rel => exact ⟨at_ + 1, X.take k ++ [⟨(d : Int), (at_ : Int)⟩] ++ X.drop k, by omega, by go_num, HIn, HOn, HBn⟩
         case measure => simp [intOf]; omega
       ·have e1 : decide ((k : Int) < (X.length : Int)) = false := decide_eq_false (by omega)
        have e2 : decide (k < X.length) = false := decide_eq_false hkl
        have HE : Aside0 (∀ hj : k < X.length, ltB l0 X[k] ⟨(d : Int), (at_ : Int)⟩ = false) := ⟨fun h => absurd h hkl⟩
        go_wp2_with fail
        refine start_ (n := 13) (S := fun w' => Below wr.heap.size wr w') (ds := []) #[false, false, false, false, false, false, false, false, false, false, false, false, false] (by kernel_rfl) rfl rfl (below_drew1 (Below.refl _ _)) (fun hHeld => ?_)
        refine with_tabW refSorted.tab12 refSorted.bits12 (fun HT_ HW_ => ?_)
        refine take_ (i := 0) (N := some 29) (v := ?_) (a' := ?_) #[true, false, false, false, false, false, false, false, false, false, false, false, false] rfl rfl (take_ofW HT_.out HW_.out (by kernel_rfl)) (fun _ _ _ h => h) (Or.inl ⟨by rfl, ?_⟩) hHeld ?_ ?_
        rotate_left
        ·intro w' s
         go_simp
         with_reducible rfl
        rotate_left
        ·simp only [Act.put, List.setIfInBounds_toArray, List.set_cons_zero, List.set_cons_succ, i64_w, i32_w]
         rfl
        refine take_ (i := 1) (N := some 30) (v := ?_) (a' := ?_) #[true, true, false, false, false, false, false, false, false, false, false, false, false] rfl rfl (take_ofW HT_.out HW_.out (by kernel_rfl)) (fun _ _ _ h => h) (Or.inl ⟨by rfl, ?_⟩) hHeld ?_ ?_
        rotate_left
        ·intro w' s
         go_simp
         with_reducible rfl
        rotate_left
        ·simp only [Act.put, List.setIfInBounds_toArray, List.set_cons_zero, List.set_cons_succ, i64_w, i32_w]
         rfl
        refine take_ (i := 2) (N := some 31) (v := ?_) (a' := ?_) #[true, true, true, false, false, false, false, false, false, false, false, false, false] rfl rfl (take_ofW HT_.out HW_.out (by kernel_rfl)) (fun _ _ _ h => h) (Or.inl ⟨by rfl, ?_⟩) hHeld ?_ ?_
        rotate_left
        ·intro w' s
         go_simp
         with_reducible rfl
        rotate_left
        ·simp only [Act.put, List.setIfInBounds_toArray, List.set_cons_zero, List.set_cons_succ, i64_w, i32_w]
         rfl
        refine take_ (i := 3) (N := some 32) (v := ?_) (a' := ?_) #[true, true, true, true, false, false, false, false, false, false, false, false, false] rfl rfl (take_ofW HT_.out HW_.out (by kernel_rfl)) (fun _ _ _ h => h) (Or.inl ⟨by rfl, ?_⟩) hHeld ?_ ?_
        rotate_left
        ·intro w' s
         go_simp
         with_reducible rfl
        rotate_left
        ·simp only [Act.put, List.setIfInBounds_toArray, List.set_cons_zero, List.set_cons_succ, i64_w, i32_w]
         rfl
        refine take_ (i := 4) (N := some 33) (v := ?_) (a' := ?_) #[true, true, true, true, true, false, false, false, false, false, false, false, false] rfl rfl (take_ofW HT_.out HW_.out (by kernel_rfl)) (fun _ _ _ h => h) (Or.inl ⟨by rfl, ?_⟩) hHeld ?_ ?_
        rotate_left
        ·intro w' s
         go_simp
         with_reducible rfl
        rotate_left
        ·simp only [Act.put, List.setIfInBounds_toArray, List.set_cons_zero, List.set_cons_succ, i64_w, i32_w]
         rfl
        refine take_ (i := 5) (N := some 34) (v := undef) (a' := ?_) #[true, true, true, true, true, true, false, false, false, false, false, false, false] rfl rfl (take_ofW HT_.out HW_.out (by kernel_rfl)) (fun _ _ _ h => h) (Or.inr ⟨by rfl, rfl⟩) hHeld ?_ ?_
        rotate_left
        ·simp only [Act.put, List.setIfInBounds_toArray, List.set_cons_zero, List.set_cons_succ, i64_w, i32_w]
         rfl
        refine take_ (i := 6) (N := some 35) (v := undef) (a' := ?_) #[true, true, true, true, true, true, true, false, false, false, false, false, false] rfl rfl (take_ofW HT_.out HW_.out (by kernel_rfl)) (fun _ _ _ h => h) (Or.inr ⟨by rfl, rfl⟩) hHeld ?_ ?_
        rotate_left
        ·simp only [Act.put, List.setIfInBounds_toArray, List.set_cons_zero, List.set_cons_succ, i64_w, i32_w]
         rfl
        refine take_ (i := 7) (N := some 36) (v := undef) (a' := ?_) #[true, true, true, true, true, true, true, true, false, false, false, false, false] rfl rfl (take_ofW HT_.out HW_.out (by kernel_rfl)) (fun _ _ _ h => h) (Or.inr ⟨by rfl, rfl⟩) hHeld ?_ ?_
        rotate_left
        ·simp only [Act.put, List.setIfInBounds_toArray, List.set_cons_zero, List.set_cons_succ, i64_w, i32_w]
         rfl
        refine take_ (i := 8) (N := some 37) (v := undef) (a' := ?_) #[true, true, true, true, true, true, true, true, true, false, false, false, false] rfl rfl (take_ofW HT_.out HW_.out (by kernel_rfl)) (fun _ _ _ h => h) (Or.inr ⟨by rfl, rfl⟩) hHeld ?_ ?_
        rotate_left
        ·simp only [Act.put, List.setIfInBounds_toArray, List.set_cons_zero, List.set_cons_succ, i64_w, i32_w]
         rfl
        refine take_ (i := 9) (N := some 38) (v := undef) (a' := ?_) #[true, true, true, true, true, true, true, true, true, true, false, false, false] rfl rfl (take_ofW HT_.out HW_.out (by kernel_rfl)) (fun _ _ _ h => h) (Or.inr ⟨by rfl, rfl⟩) hHeld ?_ ?_
        rotate_left
        ·simp only [Act.put, List.setIfInBounds_toArray, List.set_cons_zero, List.set_cons_succ, i64_w, i32_w]
         rfl
        refine take_ (i := 10) (N := some 39) (v := undef) (a' := ?_) #[true, true, true, true, true, true, true, true, true, true, true, false, false] rfl rfl (take_ofW HT_.out HW_.out (by kernel_rfl)) (fun _ _ _ h => h) (Or.inr ⟨by rfl, rfl⟩) hHeld ?_ ?_
        rotate_left
        ·simp only [Act.put, List.setIfInBounds_toArray, List.set_cons_zero, List.set_cons_succ, i64_w, i32_w]
         rfl
        refine take_ (i := 11) (N := some 40) (v := undef) (a' := ?_) #[true, true, true, true, true, true, true, true, true, true, true, true, false] rfl rfl (take_ofW HT_.out HW_.out (by kernel_rfl)) (fun _ _ _ h => h) (Or.inr ⟨by rfl, rfl⟩) hHeld ?_ ?_
        rotate_left
        ·simp only [Act.put, List.setIfInBounds_toArray, List.set_cons_zero, List.set_cons_succ, i64_w, i32_w]
         rfl
        refine take_ (i := 12) (N := some 41) (v := ?_) (a' := ?_) #[true, true, true, true, true, true, true, true, true, true, true, true, true] rfl rfl (take_ofW HT_.out HW_.out (by kernel_rfl)) (fun _ _ _ h => h) (Or.inl ⟨by rfl, ?_⟩) hHeld ?_ ?_
        rotate_left
        ·intro w' s
         go_simp
         with_reducible rfl
        rotate_left
        ·simp only [Act.put, List.setIfInBounds_toArray, List.set_cons_zero, List.set_cons_succ, i64_w, i32_w]
         rfl
        refine done_ (done_of HT_.out (by kernel_rfl)) ?_
        obtain ⟨wz, hwe⟩ : ∃ x, wr.drew = x := ⟨_, rfl⟩
        rw [hwe] at hHeld ⊢
        have hwz := hHeld
        clear hHeld hwe e1 e2 y0 y1
        have HOz := Aside0.mk (Kd.R_below HOk.out hwz)
        have HWz := Aside0.mk (below_step (below_step HB2.out HK.out) hwz)
        have HBz := Aside0.mk (blk_below HBk.out hwz)
        clear hwz
        have y0 : wz.cell? ⟨bx, 0, none⟩ = some (.int .i64 (d : Int)) := (blk_cell HBz.out 0).trans rfl
        have y1 : wz.cell? ⟨bx, 1, none⟩ = some (.int .i64 (at_ : Int)) := (blk_cell HBz.out 1).trans rfl
        have HKT : Aside0 ((X.take k).length = k) := ⟨by rw [List.length_take]; omega⟩
        have hxc := (Kd.R_reads' HOz.out).2.1
        have HCt : Aside0 (Kd.C k75 wz Ao k (X.take k)) := ⟨by have h := Kd.C_take (Kd.R_reads' HOz.out).2.2 hk; rwa [HKT.out] at h⟩
        obtain ⟨ifo, hinf, _, hisz, _⟩ := info_parts infoRowL
        have hcut1 := cut_to (P := Tryz.prog) 32 75 .i64 Tryz.underlying32 hinf Ao X.length co (k : Int) (by omega) (by omega) hxc
        rw [Int.toNat_natCast] at hcut1
        have hcut2 := cut_from (P := Tryz.prog) 32 75 .i64 Tryz.underlying32 hinf 2 hisz Ao X.length co (k : Int) (by omega) (by omega)
        rw [Int.toNat_natCast] at hcut2
        have hCd := Kd.C_drop (Kd.R_reads' HOz.out).2.2 hk hxc
        rw [show (k75).sz = 2 from rfl, List.length_drop] at hCd
        obtain ⟨Ad, hAd⟩ : ∃ A_, (if co = k then Ao else Ao.map (·.add (k * 2))) = A_ := ⟨_, rfl⟩
        rw [hAd] at hcut2 hCd
        have HCd := Aside0.mk hCd
        clear hCd hAd hinf hisz hxc
        go_wp2_with fail
        refine start_ (n := 12) (S := fun w' => Below wz.heap.size wz w') (ds := []) #[false, false, false, false, false, false, false, false, false, false, false, false] (by kernel_rfl) rfl rfl (below_drew1 (Below.refl _ _)) (fun hHeld => ?_)
        refine with_tabW refSorted.tab14 refSorted.bits14 (fun HT_ HW_ => ?_)
        refine take_ (i := 0) (N := some 44) (v := ?_) (a' := ?_) #[true, false, false, false, false, false, false, false, false, false, false, false] rfl rfl (take_ofW HT_.out HW_.out (by kernel_rfl)) (fun _ _ _ h => h) (Or.inl ⟨by rfl, ?_⟩) hHeld ?_ ?_
        rotate_left
        ·intro w' s
         go_simp
         with_reducible rfl
        rotate_left
        ·simp only [Act.put, List.setIfInBounds_toArray, List.set_cons_zero, List.set_cons_succ, i64_w, i32_w]
         rfl
        refine take_ (i := 1) (N := some 45) (v := ?_) (a' := ?_) #[true, true, false, false, false, false, false, false, false, false, false, false] rfl rfl (take_ofW HT_.out HW_.out (by kernel_rfl)) (fun _ _ _ h => h) (Or.inl ⟨by rfl, ?_⟩) hHeld ?_ ?_
        rotate_left
        ·intro w' s
         go_simp
         with_reducible rfl
        rotate_left
        ·simp only [Act.put, List.setIfInBounds_toArray, List.set_cons_zero, List.set_cons_succ, i64_w, i32_w]
         rfl
        refine take_ (i := 2) (N := some 46) (v := ?_) (a' := ?_) #[true, true, true, false, false, false, false, false, false, false, false, false] rfl rfl (take_ofW HT_.out HW_.out (by kernel_rfl)) (fun _ _ _ h => h) (Or.inl ⟨by rfl, ?_⟩) hHeld ?_ ?_
        rotate_left
        ·intro w' s
         go_simp
         with_reducible rfl
        rotate_left
        ·simp only [Act.put, List.setIfInBounds_toArray, List.set_cons_zero, List.set_cons_succ, i64_w, i32_w]
         rfl
        refine take_ (i := 4) (N := some 48) (v := ?_) (a' := ?_) #[true, true, true, false, true, false, false, false, false, false, false, false] rfl rfl (take_ofW HT_.out HW_.out (by kernel_rfl)) (fun _ _ _ h => h) (Or.inl ⟨by rfl, ?_⟩) hHeld ?_ ?_
        rotate_left
        ·intro w' s
         have s0 := pw_cell_below s y0
         have s1 := pw_cell_below s y1
         go_simp
         with_reducible rfl
        rotate_left
        ·simp only [Act.put, List.setIfInBounds_toArray, List.set_cons_zero, List.set_cons_succ, i64_w, i32_w]
         rfl
        refine take_ (i := 7) (N := some 51) (v := ?_) (a' := ?_) #[true, true, true, false, true, false, false, true, false, false, false, false] rfl rfl (take_ofW HT_.out HW_.out (by kernel_rfl)) (fun _ _ _ h => h) (Or.inl ⟨by rfl, ?_⟩) hHeld ?_ ?_
        rotate_left
        ·intro w' s
         go_simp
         with_reducible rfl
        rotate_left
        ·simp only [Act.put, List.setIfInBounds_toArray, List.set_cons_zero, List.set_cons_succ, i64_w, i32_w]
         rfl
        refine take_ (i := 8) (N := some 52) (v := ?_) (a' := ?_) #[true, true, true, false, true, false, false, true, true, false, false, false] rfl rfl (take_ofW HT_.out HW_.out (by kernel_rfl)) (fun _ _ _ h => h) (Or.inl ⟨by rfl, ?_⟩) hHeld ?_ ?_
        rotate_left
        ·intro w' s
         go_simp
         with_reducible rfl
        rotate_left
        ·simp only [Act.put, List.setIfInBounds_toArray, List.set_cons_zero, List.set_cons_succ, i64_w, i32_w]
         rfl
        refine take_ (i := 9) (N := some 53) (v := ?_) (a' := ?_) #[true, true, true, false, true, false, false, true, true, true, false, false] rfl rfl (take_ofW HT_.out HW_.out (by kernel_rfl)) (fun _ _ _ h => h) (Or.inl ⟨by rfl, ?_⟩) hHeld ?_ ?_
        rotate_left
        ·intro w' s
         go_simp
         with_reducible rfl
        rotate_left
        ·simp only [Act.put, List.setIfInBounds_toArray, List.set_cons_zero, List.set_cons_succ, i64_w, i32_w]
         rfl
        refine join_ (σ := Option Addr × Nat × Nat) 3 #[true, true, true, true, true, true, false, true, true, true, false, false] (fun s => [(47, .slice s.1 k s.2.1), (49, .slice (some ⟨s.2.2, 0, none⟩) 1 1)]) (fun s w' => Kd.R k75 75 w' wz.heap.size (fun _ => True) (.slice s.1 k s.2.1) (X.take k) ∧ w'.heap[s.2.2]? = some (.cells #[.int .i64 d, .int .i64 at_] 75 (0, 0)) ∧ Below wz.heap.size wz w') ?_ ?_
        rotate_left
        ·intro hjoin
         have hB := hHeld
         obtain ⟨wa, hwa⟩ : ∃ x, wz.drew = x := ⟨_, rfl⟩
         rw [hwa] at hB ⊢
         clear hHeld hwa
         refine two_ (i := 3) (j := 5) (Ni := some 47) (Nj := some 49) #[true, true, true, true, true, false, false, true, true, true, false, false] #[true, true, true, false, true, true, false, true, true, true, false, false] rfl rfl rfl rfl (two_of HT_.out (by kernel_rfl)) (by decide) (by decide) (fun K hK => ?_) (fun K hK => ?_)
         ·refine Kd.R_append_rows_step k75 (Rr := k75.K _) (w0 := wz) wz.heap.size (by rfl) (.const (.slice none 0 0)) (.tmp 46) 32 75 (.agg #[.int .i64 0, .int .i64 0]) 16 rfl Tryz.underlying32 infoRowL rfl (by decide) (by decide) (.slice none 0 0) [] (X.take k) Ao k co (fun _ => True) (fun _ => False) rfl rfl (Kd.R_nil _ _ _ _ _) (Kd.C_below HCt.out hB) (fun x cs h => by rw [k75_open h]; exact k75_mkM _ _ _ x) (fun _ h => h.elim) (fun _ _ => trivial) hB hB.size (by simp only [List.length_append, List.length_take, List.length_drop, List.length_nil, List.length_singleton]; omega) ?_
          intro v1' w2 hR' hB' hG' _
          rw [List.nil_append] at hR'
          obtain ⟨A1', c1', hv1⟩ := Kd.R_slice hR'
          rw [HKT.out] at hv1
          subst hv1
          refine hK.out _ _ hB' (fun _ => ?_)
          clear hK K
          refine norm_ (a' := ?_) ?_ ?_
          rotate_left
          ·show Act.put _ (some 47) _ = _
           simp only [Act.put, List.setIfInBounds_toArray, List.set_cons_zero, List.set_cons_succ, i64_w, i32_w]
           rfl
          refine one_ (i := 5) (N := some 49) #[true, true, true, true, true, true, false, true, true, true, false, false] rfl rfl (one_of HT_.out (by kernel_rfl)) (by decide) (fun K hK => ?_)
          refine value_ (v := .slice (some ⟨w2.heap.size, 0, none⟩) 1 1) (w1 := w2.alloc (.cells #[.int .i64 d, .int .i64 at_] 75)) (by rfl) rfl (by first | (go_simp; done) | (go_simp; rfl)) (hK.out _ _ (below_alloc hB' _) (fun _ => ?_))
          exact norm_ (by first | (simp only [putAll, Act.put, List.setIfInBounds_toArray, List.set_cons_zero, List.set_cons_succ]; done) | (simp only [putAll, Act.put, List.setIfInBounds_toArray, List.set_cons_zero, List.set_cons_succ]; rfl)) (hjoin (A1', c1', w2.heap.size) _ ⟨Kd.R_alloc hR' _, heap_alloc_new w2 _, below_alloc hB' _⟩)
         ·refine value_ (v := .slice (some ⟨wa.heap.size, 0, none⟩) 1 1) (w1 := wa.alloc (.cells #[.int .i64 d, .int .i64 at_] 75)) (by rfl) rfl (by first | (go_simp; done) | (go_simp; rfl)) (hK.out _ _ (below_alloc hB _) (fun _ => ?_))
          clear hK K
          have hL2 : (wa.alloc (.cells #[.int .i64 d, .int .i64 at_] 75)).heap[wa.heap.size]? = some (.cells #[.int .i64 d, .int .i64 at_] 75 (0, 0)) := heap_alloc_new wa _
          have hB2 := below_alloc hB (.cells #[.int .i64 d, .int .i64 at_] 75)
          refine norm_ (a' := ?_) ?_ ?_
          rotate_left
          ·show Act.put _ (some 49) _ = _
           simp only [Act.put, List.setIfInBounds_toArray, List.set_cons_zero, List.set_cons_succ, i64_w, i32_w]
           rfl
          obtain ⟨wb, hwb⟩ : ∃ x, wa.alloc (.cells #[.int .i64 d, .int .i64 at_] 75) = x := ⟨_, rfl⟩
          rw [hwb] at hL2 hB2 ⊢
          obtain ⟨gl, hgl⟩ : ∃ x, wa.heap.size = x := ⟨_, rfl⟩
          rw [hgl] at hL2 ⊢
          clear hwb hgl
          refine one_ (i := 3) (N := some 47) #[true, true, true, true, true, true, false, true, true, true, false, false] rfl rfl (one_of HT_.out (by kernel_rfl)) (by decide) (fun K hK => ?_)
          refine Kd.R_append_rows_step k75 (Rr := k75.K _) (w0 := wz) wz.heap.size (by rfl) (.const (.slice none 0 0)) (.tmp 46) 32 75 (.agg #[.int .i64 0, .int .i64 0]) 16 rfl Tryz.underlying32 infoRowL rfl (by decide) (by decide) (.slice none 0 0) [] (X.take k) Ao k co (fun _ => True) (fun _ => False) rfl rfl (Kd.R_nil _ _ _ _ _) (Kd.C_below HCt.out hB2) (fun x cs h => by rw [k75_open h]; exact k75_mkM _ _ _ x) (fun _ h => h.elim) (fun _ _ => trivial) hB2 hB2.size (by simp only [List.length_append, List.length_take, List.length_drop, List.length_nil, List.length_singleton]; omega) ?_
          intro v1' w2 hR' hB' hG' _
          rw [List.nil_append] at hR'
          obtain ⟨A1', c1', hv1⟩ := Kd.R_slice hR'
          rw [HKT.out] at hv1
          subst hv1
          refine hK.out _ _ hB' (fun _ => ?_)
          exact norm_ (by first | (simp only [putAll, Act.put, List.setIfInBounds_toArray, List.set_cons_zero, List.set_cons_succ]; done) | (simp only [putAll, Act.put, List.setIfInBounds_toArray, List.set_cons_zero, List.set_cons_succ]; rfl)) (hjoin (A1', c1', gl) _ ⟨hR', blk_grown hL2 hG' (fun e => by cases e), hB'⟩)
        clear hHeld
        rintro ⟨A1, c1, g⟩ w1 ⟨hR, hL, hB⟩
        dsimp only at hR hL
        refine norm_ (a' := ?_) ?_ ?_
        rotate_left
        ·simp only [putAll, Act.put, List.setIfInBounds_toArray, List.set_cons_zero, List.set_cons_succ, i64_w, i32_w]
         rfl
        refine one_ (i := 6) (N := some 50) #[true, true, true, true, true, true, true, true, true, true, false, false] rfl rfl (one_of HT_.out (by kernel_rfl)) (by decide) (fun K hK => ?_)
        refine Kd.R_append_rows_step k75 (Rr := k75.K _) (w0 := wz) wz.heap.size (by rfl) (.tmp 47) (.tmp 49) 32 75 (.agg #[.int .i64 0, .int .i64 0]) 16 rfl Tryz.underlying32 infoRowL rfl (by decide) (by decide) (.slice A1 k c1) (X.take k) [⟨(d : Int), (at_ : Int)⟩] (some ⟨g, 0, none⟩) 1 1 (fun _ => True) (fun _ => False) rfl rfl hR (lit_row hL) (fun x cs h => by rw [k75_open h]; exact k75_mkM _ _ _ x) (fun _ h => h.elim) (fun _ _ => trivial) hB hB.size (by simp only [List.length_append, List.length_take, List.length_drop, List.length_nil, List.length_singleton]; omega) ?_
        intro v4 w2 hR4 hB4 _ _
        obtain ⟨A4, c4, hv4⟩ := Kd.R_slice hR4
        obtain ⟨n4, hn4⟩ : ∃ q, (X.take k ++ [(⟨(d : Int), (at_ : Int)⟩ : S75)]).length = q := ⟨_, rfl⟩
        rw [hn4] at hv4
        subst hv4
        refine hK.out _ _ hB4 (fun _ => ?_)
        clear hK K hR hL hB
        refine norm_ (a' := ?_) ?_ ?_
        rotate_left
        ·show Act.put _ (some 50) _ = _
         simp only [Act.put, List.setIfInBounds_toArray, List.set_cons_zero, List.set_cons_succ, i64_w, i32_w]
         rfl
        refine one_ (i := 10) (N := some 54) #[true, true, true, true, true, true, true, true, true, true, true, false] rfl rfl (one_of HT_.out (by kernel_rfl)) (by decide) (fun K hK => ?_)
        refine Kd.R_append_rows_step k75 (Rr := k75.K _) (w0 := wz) wz.heap.size (by rfl) (.tmp 50) (.tmp 53) 32 75 (.agg #[.int .i64 0, .int .i64 0]) 16 rfl Tryz.underlying32 infoRowL rfl (by decide) (by decide) (.slice A4 n4 c4) (X.take k ++ [⟨(d : Int), (at_ : Int)⟩]) (X.drop k) Ad (X.length - k) (co - k) (fun _ => True) (fun _ => False) rfl rfl hR4 (Kd.C_below HCd.out hB4) (fun x cs h => by rw [k75_open h]; exact k75_mkM _ _ _ x) (fun _ h => h.elim) (fun _ _ => trivial) hB4 hB4.size (by simp only [List.length_append, List.length_take, List.length_drop, List.length_nil, List.length_singleton]; omega) ?_
        intro v5 w3 hR5 hHeld _ _
        obtain ⟨A5, c5, hv5⟩ := Kd.R_slice hR5
        obtain ⟨n5, hn5⟩ : ∃ q, (X.take k ++ [(⟨(d : Int), (at_ : Int)⟩ : S75)] ++ X.drop k).length = q := ⟨_, rfl⟩
        rw [hn5] at hv5
        subst hv5
        have HR5 := Aside0.mk hR5
        refine hK.out _ _ hHeld (fun hHeld => ?_)
        clear hK K hR4 hB4 hR5 hn4
        refine norm_ (a' := ?_) ?_ ?_
        rotate_left
        ·show Act.put _ (some 54) _ = _
         simp only [Act.put, List.setIfInBounds_toArray, List.set_cons_zero, List.set_cons_succ, i64_w, i32_w]
         rfl
        refine take_ (i := 11) (N := some 3) (v := ?_) (a' := ?_) #[true, true, true, true, true, true, true, true, true, true, true, true] rfl rfl (take_ofW HT_.out HW_.out (by kernel_rfl)) (fun _ _ _ h => h) (Or.inl ⟨by rfl, ?_⟩) hHeld ?_ ?_
        rotate_left
        ·intro w' s
         go_simp
         with_reducible rfl
        rotate_left
        ·simp only [Act.put, List.setIfInBounds_toArray, List.set_cons_zero, List.set_cons_succ, i64_w, i32_w]
         rfl
        refine done_ (done_of HT_.out (by kernel_rfl)) ?_
        have HIn := Aside0.mk (ins_step hlt (by rw [HSZ.out]; omega) HI.out k hk HL.out HE.out)
        have HOn := Aside0.mk (Kd.R_lower HR5.out HWz.out.size)
        have HBn := Aside0.mk (below_step HWz.out hHeld)
        clear hHeld y0 y1 hcut1 hcut2 hn5
        go_wp2_with fail
        go_roundw
        case rel => exact ⟨at_ + 1, X.take k ++ [⟨(d : Int), (at_ : Int)⟩] ++ X.drop k, by omega, by go_num, HIn, HOn, HBn⟩
        case measure => simp [intOf]; omega
     ·obtain rfl : at_ = sz + 1 := by omega
      have d1 : decide ((((sz + 1 : Nat)) : Int) ≤ (S.size : Int)) = false := decide_eq_false (by omega)
      have d2 : decide ((sz : Int) + 1 ≤ (S.size : Int)) = false := decide_eq_false (by omega)
      have d3 : decide (sz + 1 ≤ S.size) = false := decide_eq_false (by omega)
      have HIn : Aside0 (Ins l0 (d + 1) 0 X) := ⟨ins_doc (by rw [HSZ.out]; exact HI.out)⟩
      clear hSz
      go_wp2_with fail
      go_roundw
      case rel => exact ⟨d + 1, X, by omega, by go_num, HIn, HO, HB⟩
      case measure => simp [intOf]; omega
   ·obtain rfl : d = l0.length := by omega
    have c1 : decide ((l0.length : Int) < (l0.length : Int)) = false := decide_eq_false (by omega)
    go_wp2_with fail
    go_ret
    exact ⟨.slice Ao X.length co, rfl, by rw [← ins_end HRB.out HI.out]; exact HO.out, HB.out⟩
theorem scriniumref1_Sorted.calls (A0 : Option Addr) (c0 : Nat) (l0 : List ByteArray) (r : List S75) (w : World) (hr0 : Kd.C Kd.string w A0 l0.length l0) (hc0 : l0.length ≤ c0) (h : scriniumref1_Sorted.f l0 = some r) :
  Calls Tryz.prog 97 #[.slice A0 l0.length c0] w fun e w' => ∃ v0_ : Value, e = .returned v0_ ∧ Kd.R k75 75 w' w.heap.size (fun _ => True) v0_ r ∧ Below w.heap.size w w' := by
 unfold scriniumref1_Sorted.f at h
 by_cases hl : l0.length ≤ 1000000
 ·rw [if_pos hl] at h
  obtain rfl := Option.some.inj h
  exact refSorted_calls A0 c0 l0 w hr0 hc0 hl
 ·rw [if_neg hl] at h
  cases h
end Go.Proofs.YtkcpkecaliegfaaGreat.P

end
