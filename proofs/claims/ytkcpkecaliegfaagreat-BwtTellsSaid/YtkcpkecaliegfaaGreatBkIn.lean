/- Lists of one kind (Ints): their marks, what is alike, what is copied: plain laws and contracts. Conditions: lengths are small. -/
import Derived.Test.YtkcpkecaliegfaaGreatBkC
import Derived.Test.YtkcpkecaliegfaaGreatPe
section
set_option linter.unusedVariables false
set_option linter.unusedSimpArgs false
namespace Go.Proofs.YtkcpkecaliegfaaGreat.P
open Go.RowKit Go.Proofs.YtkcpkecaliegfaaGreatW.PrintWords Go.Proofs.YtkcpkecaliegfaaGreatW.PrintLast Go.Proofs.YtkcpkecaliegfaaGreatW.PrintMore

theorem flatInts : Flat (Kd.int .i64) (fun x => [Value.int .i64 x]) := Flat.scalar _ _
theorem infoInts1 : ((Tryz.prog).info? 3).map (fun i => (i.zero, i.size, i.bytes)) = some (some (.int .i64 0), 1, 8) := by kernel_rfl
theorem infoInts : ∃ i z, (Tryz.prog).info? 3 = some i ∧ i.zero = some z ∧ i.size = ((Kd.int .i64)).sz ∧ i.bytes = 8 ∧ z.cells.size = ((Kd.int .i64)).sz := by
 have h : ((Tryz.prog).info? 3).map (fun i => (i.zero, i.size, i.bytes)) = some (some (.int .i64 0), 1, 8) := by kernel_rfl
 obtain ⟨i, hi, he⟩ := Option.map_eq_some_iff.1 h
 simp only [Prod.mk.injEq] at he
 exact ⟨i, .int .i64 0, hi, he.1, he.2.1, he.2.2, rfl⟩
theorem infoIntsL : ((Tryz.prog).info? 22).map (fun i => (i.zero, i.size, i.bytes)) = some (some (.slice none 0 0), 1, 24) := by kernel_rfl
theorem lneInts : (22 : TypeId) ≠ 3 := by decide
theorem sameInts_l (l : List Int) (hl : l.length ≤ 1000000) : ∀ (m j k : Nat), m = l.length - j → j ≤ l.length → m + 1 ≤ k → scriniumbook_SameInts.l0 k l l (j : Int) = some true := by
 intro m
 induction m with
 | zero =>
  intro j k hm hj hk
  obtain rfl : j = l.length := by omega
  obtain ⟨k1, rfl⟩ : ∃ k1, k = k1 + 1 := ⟨k - 1, by omega⟩
  rw [scriniumbook_SameInts.l0, if_neg (by omega)]
 | succ m ih =>
  intro j k hm hj hk
  obtain ⟨k1, rfl⟩ : ∃ k1, k = k1 + 1 := ⟨k - 1, by omega⟩
  have hrec := ih (j + 1) k1 (by omega) (by omega) (by omega)
  have hw : wrap64 ((j : Int) + 1) = ((j + 1 : Nat) : Int) := bw64 (j + 1) (by omega)
  rw [scriniumbook_SameInts.l0, if_pos (by omega), if_pos (by omega), if_pos (by omega), hw, if_pos (by simp)]
  exact hrec
theorem sameInts_ok (l : List Int) (hl : l.length ≤ 1000000) (k : Nat) (hk : l.length + 1 ≤ k) : scriniumbook_SameInts.f k l l = some true := by
 unfold scriniumbook_SameInts.f
 rw [if_pos rfl]
 exact sameInts_l l hl l.length 0 _ rfl (Nat.zero_le _) hk
theorem sameInts_calls (a a' : Option Addr) (k k' : Nat) (xs : List Int) (w : World) (hC : Kd.C (Kd.int .i64) w a xs.length xs) (hC' : Kd.C (Kd.int .i64) w a' xs.length xs) (hk : xs.length ≤ k) (hk' : xs.length ≤ k') (hs : xs.length ≤ 1000000) :
  Calls Tryz.prog 41 #[.slice a xs.length k, .slice a' xs.length k'] w fun e w' => e = .returned (.bool true) ∧ Below w.heap.size w w' :=
 (scriniumbook_SameInts.calls (xs.length + 1) a k xs a' k' xs true w hC hk hC' hk' (sameInts_ok xs hs _ (Nat.le_refl _))).mono fun _ _ h => ⟨h.1, h.2.below⟩
theorem copyInts_ok (l : List Int) (h : l.length ≤ 900000) : scriniumbook_copyInts.f l = some l := by
 unfold scriniumbook_copyInts.f
 rw [if_pos (by rw [List.length_nil]; omega), List.nil_append]
theorem copyInts_calls (a : Option Addr) (k : Nat) (xs : List Int) (w : World) (hC : Kd.C (Kd.int .i64) w a xs.length xs) (hk : xs.length ≤ k) (h : xs.length ≤ 900000) :
  Calls Tryz.prog 37 #[.slice a xs.length k] w fun e w' => ∃ v, e = .returned v ∧ Kd.R (Kd.int .i64) 3 w' w.heap.size (fun _ => True) v xs ∧ Below w.heap.size w w' :=
 scriniumbook_copyInts.calls a k xs xs w hC hk (copyInts_ok xs h)
/-- The mark at k of list i. -/
def mkInts (i : Int) (k : Nat) : Int := wrap64 ((wrap64 ((wrap64 ((-1000000) * i)) - (k : Int))) - 7)
theorem markInts_l (i : Int) (a n : Nat) (hn : a + n ≤ 1000000) : ∀ (m j k : Nat), m = n - j → j ≤ n → m + 1 ≤ k → scriniumbook_markInts.l0 k i (a : Int) (n : Int) (marksOf mkInts i a j) ((a + j : Nat) : Int) = some (marksOf mkInts i a n) := by
 have hw : wrap64 ((a : Int) + (n : Int)) = ((a + n : Nat) : Int) := bw64 (a + n) (by omega)
 intro m
 induction m with
 | zero =>
  intro j k hm hj hk
  obtain rfl : j = n := by omega
  obtain ⟨k1, rfl⟩ : ∃ k1, k = k1 + 1 := ⟨k - 1, by omega⟩
  rw [scriniumbook_markInts.l0, hw, if_neg (by omega)]
 | succ m ih =>
  intro j k hm hj hk
  obtain ⟨k1, rfl⟩ : ∃ k1, k = k1 + 1 := ⟨k - 1, by omega⟩
  have hrec := ih (j + 1) k1 (by omega) (by omega) (by omega)
  have hw2 : wrap64 (((a + j : Nat) : Int) + 1) = ((a + (j + 1) : Nat) : Int) := bw64 (a + j + 1) (by omega)
  rw [scriniumbook_markInts.l0, hw, if_pos (by omega), if_pos (by rw [marks_len]; omega), hw2]
  rw [marks_succ] at hrec
  exact hrec
theorem markInts_ok (i : Int) (a n k : Nat) (hn : a + n ≤ 1000000) (hk : n + 1 ≤ k) : scriniumbook_markInts.f k i (a : Int) (n : Int) = some (marksOf mkInts i a n) := markInts_l i a n hn n 0 k rfl (Nat.zero_le _) hk
theorem markInts_calls (i a n : Nat) (w : World) (hi : i ≤ 1000) (h : a + n ≤ 1000000) : Calls Tryz.prog 90 #[.int .i64 (i : Int), .int .i64 (a : Int), .int .i64 (n : Int)] w fun e w' => ∃ v, e = .returned v ∧ Kd.R (Kd.int .i64) 3 w' w.heap.size (fun _ => True) v (marksOf mkInts (i : Int) a n) ∧ Below w.heap.size w w' :=
 scriniumbook_markInts.calls (n + 1) (i : Int) (a : Int) (n : Int) (marksOf mkInts (i : Int) a n) w (markInts_ok _ _ _ _ h (Nat.le_refl _))
end Go.Proofs.YtkcpkecaliegfaaGreat.P

end
section
set_option linter.unusedVariables false
set_option linter.unusedSimpArgs false
namespace Go.Proofs.YtkcpkecaliegfaaGreat.P
open Go.RowKit Go.Proofs.YtkcpkecaliegfaaGreatW.PrintWords Go.Proofs.YtkcpkecaliegfaaGreatW.PrintLast Go.Proofs.YtkcpkecaliegfaaGreatW.PrintMore

def lentOfInts : Int := -77
set_option maxRecDepth 100000 in
set_option maxHeartbeats 4000000 in
theorem lentInts_calls (a : Option Addr) (k : Nat) (xs : List Int) (w : World) (hC : Kd.C (Kd.int .i64) w a xs.length xs) (hk : xs.length ≤ k) (hl : xs.length ≤ 900000) :
  Calls Tryz.prog 7 #[.slice a xs.length k] w fun e w' => ∃ g c, e = .returned (.slice (some ⟨g, 0, none⟩) xs.length c) ∧ Kd.R (Kd.int .i64) 3 w' w.heap.size (fun _ => True) (.slice (some ⟨g, 0, none⟩) (xs.length + 1) c) (xs ++ [lentOfInts]) ∧ Below w.heap.size w w' := by
 have CP := Aside0.mk (copyInts_calls a k xs w hC hk hl)
 have HXL := Aside0.mk hl
 have hq0 : (0 ≤ (xs.length : Int)) = True := eq_true (by omega)
 clear hC hk hl
 go_enter Tryz.func7, Tryz.ntmps7
 go_wp2_with fail
 refine CP.out.mono ?_
 rintro en w1 ⟨v1, rfl, hR1, hb1⟩
 obtain ⟨A1, c1, rfl⟩ := Kd.R_slice hR1
 have HR1 := Aside0.mk hR1
 have HB1 := Aside0.mk hb1
 clear hR1 hb1 CP
 go_wp2_with (first | ((with_reducible refine gate_builtin (b := .append) (xs := #[.tmp 4, .tmp 5]) rfl ?_); at_builtin; refine Kd.R_append (Kd.int .i64) (w0 := w) w.heap.size rfl (.tmp 4) (.tmp 5) 22 3 (.int .i64 0) 8 rfl Tryz.underlying22 infoInts1 rfl (by decide) (by decide) (.slice A1 xs.length c1) xs lentOfInts [.int .i64 (-77)] (fun _ => True) (fun _ => False) rfl rfl rfl (fun _ h => h.elim) (fun _ _ => trivial) HR1.out HB1.out HB1.out.size (by have := HXL.out; omega) ?_; intro v2 w2 hO hB hG hA; have hpos : 0 < (xs ++ [lentOfInts]).length := (by rw [List.length_append, List.length_singleton]; omega); obtain ⟨g2, c2, hv2, _⟩ := Kd.R_form hO hpos; subst hv2; have hle := (Kd.R_reads' hO).2.1; rw [List.length_append, List.length_singleton] at hO hle; obtain ⟨ifo, _, hinf, _⟩ := infoInts; have hcut := cut_room (P := Tryz.prog) 22 3 .i64 Tryz.underlying22 hinf (some ⟨g2, 0, none⟩) (xs.length + 1) c2 (xs.length : Int) (by omega) (by omega); have hq1 : ((xs.length : Int) ≤ (c2 : Int)) = True := eq_true (by omega); rw [Int.toNat_natCast] at hcut; have HO := Aside0.mk hO; have HB := Aside0.mk hB; rw [List.length_append, List.length_singleton]; clear hO hB hG hA hpos hle hinf))
 go_ret
 exact ⟨g2, c2, rfl, HO.out, HB.out⟩
set_option maxRecDepth 100000 in
set_option maxHeartbeats 4000000 in
theorem staysInts_calls (g c : Nat) (A : Option Addr) (k : Nat) (xs : List Int) (base : Nat) (w : World) (hR : Kd.R (Kd.int .i64) 3 w base (fun _ => True) (.slice (some ⟨g, 0, none⟩) (xs.length + 1) c) (xs ++ [lentOfInts])) (hC : Kd.C (Kd.int .i64) w A xs.length xs) (hk : xs.length ≤ k) (hl : xs.length ≤ 900000) :
  Calls Tryz.prog 17 #[.slice (some ⟨g, 0, none⟩) xs.length c, .slice A xs.length k] w fun e w' => e = .returned (.bool true) ∧ Below w.heap.size w w' := by
 have hle := (Kd.R_reads' hR).2.1
 have hR1 := Kd.R_take (m := xs.length) hR (by rw [List.length_append]; omega)
 rw [List.take_left' rfl] at hR1
 have SM := Aside0.mk (sameInts_calls (some ⟨g, 0, none⟩) A c k xs w (Kd.R_reads' hR1).2.2 hC (by omega) hk (by omega))
 obtain ⟨cl, hcl, hcM, hcc, _⟩ := Kd.R_elem hR (0 : Int) (xs.length : Int) (by omega) (by omega)
 have hget : (xs ++ [lentOfInts]).getD ((xs.length : Int).toNat) (0 : Int) = lentOfInts := by
  rw [Int.toNat_natCast, List.getD_eq_getElem?_getD, List.getElem?_append_right (Nat.le_refl _), Nat.sub_self]
  rfl
 rw [hget] at hcM
 have hce := (flatInts.M _ _ _ _ _).1 hcM
 subst hce
 have z0 := hcc 0 _ rfl
 rw [Int.toNat_natCast, show (Kd.int .i64).sz = 1 from rfl, Nat.mul_one, Nat.add_zero] at z0
 obtain ⟨ifo, _, hinf, _⟩ := infoInts
 have hcut := cut_room (P := Tryz.prog) 22 3 .i64 Tryz.underlying22 hinf (some ⟨g, 0, none⟩) xs.length c ((xs.length : Int) + 1) (by omega) (by omega)
 have ht : ((xs.length : Int) + 1).toNat = xs.length + 1 := by omega
 rw [ht] at hcut
 have hw : IntKind.i64.wrap ((xs.length : Int) + 1) = (xs.length : Int) + 1 := IntWalk.i64_in _ (by omega)
 have v1 : (0 ≤ (xs.length : Int) + 1) = True := eq_true (by omega)
 have v2 : ((xs.length : Int) + 1 ≤ (c : Int)) = True := eq_true (by omega)
 have v3 : (0 ≤ (xs.length : Int)) = True := eq_true (by omega)
 have v4 : ((xs.length : Int) < ((xs.length + 1 : Nat) : Int)) = True := eq_true (by omega)
 have v5 : ((xs.length : Int) < (xs.length : Int) + 1) = True := eq_true (by omega)
 have hm : (lentOfInts == -77) = true := by decide +kernel
 clear hR hR1 hC hk hl hle hcl hcM hcc hget ht hinf
 go_enter Tryz.func17, Tryz.ntmps17
 go_wp2_with fail
 refine SM.out.mono ?_
 rintro en w1 ⟨rfl, hb1⟩
 have HB1 := Aside0.mk hb1
 have z0 := pw_cell_below hb1 z0
 clear hb1 SM
 go_wp2_with fail
 go_ret
 exact ⟨rfl, HB1.out⟩
end Go.Proofs.YtkcpkecaliegfaaGreat.P

end
