/- Lists of one kind (Texts): their marks, what is alike, what is copied: plain laws and contracts. Conditions: lengths are small. -/
import Derived.Test.YthoapfagcdbpeaaBkC
import Derived.Test.YthoapfagcdbpeaaP12
import Derived.Test.YthoapfagcdbpeaaP11
section
set_option linter.unusedVariables false
set_option linter.unusedSimpArgs false
namespace Go.Proofs.Ythoapfagcdbpeaa.P
open Go.RowKit Go.Proofs.YthoapfagcdbpeaaW.PrintWords Go.Proofs.YthoapfagcdbpeaaW.PrintLast Go.Proofs.YthoapfagcdbpeaaW.PrintMore

theorem flatTexts : Flat Kd.string (fun x => [Value.string x]) := Flat.scalar _ _
theorem infoTexts1 : ((Try.prog).info? 9).map (fun i => (i.zero, i.size, i.bytes)) = some (some (.string ByteArray.empty), 1, 16) := by kernel_rfl
theorem infoTexts : ∃ i z, (Try.prog).info? 9 = some i ∧ i.zero = some z ∧ i.size = (Kd.string).sz ∧ i.bytes = 16 ∧ z.cells.size = (Kd.string).sz := by
  have h : ((Try.prog).info? 9).map (fun i => (i.zero, i.size, i.bytes)) = some (some (.string ByteArray.empty), 1, 16) := by kernel_rfl
  obtain ⟨i, hi, he⟩ := Option.map_eq_some_iff.1 h
  simp only [Prod.mk.injEq] at he
  exact ⟨i, .string ByteArray.empty, hi, he.1, he.2.1, he.2.2, rfl⟩
theorem infoTextsL : ((Try.prog).info? 22).map (fun i => (i.zero, i.size, i.bytes)) = some (some (.slice none 0 0), 1, 24) := by kernel_rfl
theorem lneTexts : (22 : TypeId) ≠ 9 := by decide
theorem sameTexts_l (l : List ByteArray) (hl : l.length ≤ 1000000) : ∀ (m j k : Nat), m = l.length - j → j ≤ l.length → m + 1 ≤ k → scriniumbook_SameTexts.l0 k l l (j : Int) = some true := by
  intro m
  induction m with
  | zero =>
    intro j k hm hj hk
    obtain rfl : j = l.length := by omega
    obtain ⟨k1, rfl⟩ : ∃ k1, k = k1 + 1 := ⟨k - 1, by omega⟩
    rw [scriniumbook_SameTexts.l0, if_neg (by omega)]
  | succ m ih =>
    intro j k hm hj hk
    obtain ⟨k1, rfl⟩ : ∃ k1, k = k1 + 1 := ⟨k - 1, by omega⟩
    have hrec := ih (j + 1) k1 (by omega) (by omega) (by omega)
    have hw : wrap64 ((j : Int) + 1) = ((j + 1 : Nat) : Int) := bw64 (j + 1) (by omega)
    rw [scriniumbook_SameTexts.l0, if_pos (by omega), if_pos (by omega), if_pos (by omega), hw, if_pos (by simp)]
    exact hrec
theorem sameTexts_ok (l : List ByteArray) (hl : l.length ≤ 1000000) (k : Nat) (hk : l.length + 1 ≤ k) : scriniumbook_SameTexts.f k l l = some true := by
  unfold scriniumbook_SameTexts.f
  rw [if_pos rfl]
  exact sameTexts_l l hl l.length 0 _ rfl (Nat.zero_le _) hk
theorem sameTexts_calls (a a' : Option Addr) (k k' : Nat) (xs : List ByteArray) (w : World) (hC : Kd.C Kd.string w a xs.length xs) (hC' : Kd.C Kd.string w a' xs.length xs) (hk : xs.length ≤ k) (hk' : xs.length ≤ k') (hs : xs.length ≤ 1000000) :
    Calls Try.prog 41 #[.slice a xs.length k, .slice a' xs.length k'] w fun e w' => e = .returned (.bool true) ∧ Below w.heap.size w w' :=
  (scriniumbook_SameTexts.calls (xs.length + 1) a k xs a' k' xs true w hC hk hC' hk' (sameTexts_ok xs hs _ (Nat.le_refl _))).mono fun _ _ h => ⟨h.1, h.2.below⟩
theorem copyTexts_ok (l : List ByteArray) (h : l.length ≤ 900000) : scriniumbook_copyTexts.f l = some l := by
  unfold scriniumbook_copyTexts.f
  rw [if_pos (by rw [List.length_nil]; omega), List.nil_append]
theorem copyTexts_calls (a : Option Addr) (k : Nat) (xs : List ByteArray) (w : World) (hC : Kd.C Kd.string w a xs.length xs) (hk : xs.length ≤ k) (h : xs.length ≤ 900000) :
    Calls Try.prog 30 #[.slice a xs.length k] w fun e w' => ∃ v, e = .returned v ∧ Kd.R Kd.string 9 w' w.heap.size (fun _ => True) v xs ∧ Below w.heap.size w w' :=
  scriniumbook_copyTexts.calls a k xs xs w hC hk (copyTexts_ok xs h)
end Go.Proofs.Ythoapfagcdbpeaa.P

end
section
set_option linter.unusedVariables false
set_option linter.unusedSimpArgs false
namespace Go.Proofs.Ythoapfagcdbpeaa.P
open Go.RowKit Go.Proofs.YthoapfagcdbpeaaW.PrintWords Go.Proofs.YthoapfagcdbpeaaW.PrintLast Go.Proofs.YthoapfagcdbpeaaW.PrintMore

def lentOfTexts : ByteArray := ⟨#[109, 97, 114, 107]⟩
set_option maxRecDepth 100000 in
set_option maxHeartbeats 4000000 in
theorem lentTexts_calls (a : Option Addr) (k : Nat) (xs : List ByteArray) (w : World) (hC : Kd.C Kd.string w a xs.length xs) (hk : xs.length ≤ k) (hl : xs.length ≤ 900000) :
    Calls Try.prog 15 #[.slice a xs.length k] w fun e w' => ∃ g c, e = .returned (.slice (some ⟨g, 0, none⟩) xs.length c) ∧ Kd.R Kd.string 9 w' w.heap.size (fun _ => True) (.slice (some ⟨g, 0, none⟩) (xs.length + 1) c) (xs ++ [lentOfTexts]) ∧ Below w.heap.size w w' := by
  have CP := Aside0.mk (copyTexts_calls a k xs w hC hk hl)
  have HXL := Aside0.mk hl
  have hq0 : (0 ≤ (xs.length : Int)) = True := eq_true (by omega)
  clear hC hk hl
  go_enter Try.func15, Try.ntmps15
  go_wp2_with fail
  refine CP.out.mono ?_
  rintro en w1 ⟨v1, rfl, hR1, hb1⟩
  obtain ⟨A1, c1, rfl⟩ := Kd.R_slice hR1
  have HR1 := Aside0.mk hR1
  have HB1 := Aside0.mk hb1
  clear hR1 hb1 CP
  go_wp2_with (first | ((with_reducible refine gate_builtin (b := .append) (xs := #[.tmp 4, .tmp 5]) rfl ?_); at_builtin; refine Kd.R_append Kd.string (w0 := w) w.heap.size rfl (.tmp 4) (.tmp 5) 22 9 (.string ByteArray.empty) 16 rfl Try.underlying22 infoTexts1 rfl (by decide) (by decide) (.slice A1 xs.length c1) xs lentOfTexts [.string ⟨#[109, 97, 114, 107]⟩] (fun _ => True) (fun _ => False) rfl rfl rfl (fun _ h => h.elim) (fun _ _ => trivial) HR1.out HB1.out HB1.out.size (by have := HXL.out; omega) ?_; intro v2 w2 hO hB hG hA; have hpos : 0 < (xs ++ [lentOfTexts]).length := (by rw [List.length_append, List.length_singleton]; omega); obtain ⟨g2, c2, hv2, _⟩ := Kd.R_form hO hpos; subst hv2; have hle := (Kd.R_reads' hO).2.1; rw [List.length_append, List.length_singleton] at hO hle; obtain ⟨ifo, _, hinf, _⟩ := infoTexts; have hcut := cut_room (P := Try.prog) 22 9 .i64 Try.underlying22 hinf (some ⟨g2, 0, none⟩) (xs.length + 1) c2 (xs.length : Int) (by omega) (by omega); have hq1 : ((xs.length : Int) ≤ (c2 : Int)) = True := eq_true (by omega); rw [Int.toNat_natCast] at hcut; have HO := Aside0.mk hO; have HB := Aside0.mk hB; rw [List.length_append, List.length_singleton]; clear hO hB hG hA hpos hle hinf))
  go_ret
  exact ⟨g2, c2, rfl, HO.out, HB.out⟩
set_option maxRecDepth 100000 in
set_option maxHeartbeats 4000000 in
theorem staysTexts_calls (g c : Nat) (A : Option Addr) (k : Nat) (xs : List ByteArray) (base : Nat) (w : World) (hR : Kd.R Kd.string 9 w base (fun _ => True) (.slice (some ⟨g, 0, none⟩) (xs.length + 1) c) (xs ++ [lentOfTexts])) (hC : Kd.C Kd.string w A xs.length xs) (hk : xs.length ≤ k) (hl : xs.length ≤ 900000) :
    Calls Try.prog 28 #[.slice (some ⟨g, 0, none⟩) xs.length c, .slice A xs.length k] w fun e w' => e = .returned (.bool true) ∧ Below w.heap.size w w' := by
  have hle := (Kd.R_reads' hR).2.1
  have hR1 := Kd.R_take (m := xs.length) hR (by rw [List.length_append]; omega)
  rw [List.take_left' rfl] at hR1
  have SM := Aside0.mk (sameTexts_calls (some ⟨g, 0, none⟩) A c k xs w (Kd.R_reads' hR1).2.2 hC (by omega) hk (by omega))
  obtain ⟨cl, hcl, hcM, hcc, _⟩ := Kd.R_elem hR ByteArray.empty (xs.length : Int) (by omega) (by omega)
  have hget : (xs ++ [lentOfTexts]).getD ((xs.length : Int).toNat) ByteArray.empty = lentOfTexts := by
    rw [Int.toNat_natCast, List.getD_eq_getElem?_getD, List.getElem?_append_right (Nat.le_refl _), Nat.sub_self]
    rfl
  rw [hget] at hcM
  have hce := (flatTexts.M _ _ _ _ _).1 hcM
  subst hce
  have z0 := hcc 0 _ rfl
  rw [Int.toNat_natCast, show (Kd.string).sz = 1 from rfl, Nat.mul_one, Nat.add_zero] at z0
  obtain ⟨ifo, _, hinf, _⟩ := infoTexts
  have hcut := cut_room (P := Try.prog) 22 9 .i64 Try.underlying22 hinf (some ⟨g, 0, none⟩) xs.length c ((xs.length : Int) + 1) (by omega) (by omega)
  have ht : ((xs.length : Int) + 1).toNat = xs.length + 1 := by omega
  rw [ht] at hcut
  have hw : IntKind.i64.wrap ((xs.length : Int) + 1) = (xs.length : Int) + 1 := IntWalk.i64_in _ (by omega)
  have v1 : (0 ≤ (xs.length : Int) + 1) = True := eq_true (by omega)
  have v2 : ((xs.length : Int) + 1 ≤ (c : Int)) = True := eq_true (by omega)
  have v3 : (0 ≤ (xs.length : Int)) = True := eq_true (by omega)
  have v4 : ((xs.length : Int) < ((xs.length + 1 : Nat) : Int)) = True := eq_true (by omega)
  have v5 : ((xs.length : Int) < (xs.length : Int) + 1) = True := eq_true (by omega)
  have hm : (lentOfTexts.toList == [109, 97, 114, 107]) = true := by decide +kernel
  clear hR hR1 hC hk hl hle hcl hcM hcc hget ht hinf
  go_enter Try.func28, Try.ntmps28
  go_wp2_with fail
  refine SM.out.mono ?_
  rintro en w1 ⟨rfl, hb1⟩
  have HB1 := Aside0.mk hb1
  have z0 := pw_cell_below hb1 z0
  clear hb1 SM
  go_wp2_with fail
  go_ret
  exact ⟨rfl, HB1.out⟩
end Go.Proofs.Ythoapfagcdbpeaa.P

end
