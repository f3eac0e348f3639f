/- The function Answer of package model: where a document's walk leads. Conditions: how the list lies in memory, and its length. -/
import Derived.Test.YtibhenengpdahaaGreatJX
import Derived.Test.YtibhenengpdahaaGreatJG
section
set_option linter.unusedVariables false
set_option linter.unusedSimpArgs false
namespace Go.Proofs.YtibhenengpdahaaGreat.P
open Go.RowKit Go.Proofs.YtibhenengpdahaaGreatW.PrintWords Go.Proofs.YtibhenengpdahaaGreatW.PrintLast Go.Proofs.YtibhenengpdahaaGreatW.PrintMore
attribute [local go_sem] run_store_cx

theorem part_size {l : List S27} (h : Docs0 l) (id fr tt : Int) : (partOf l id fr tt).1.size ≤ 40 := by
 unfold partOf
 rcases find_cases l id with ⟨e1, _⟩ | ⟨k, hk, e1, _, _⟩
 ·rw [e1, if_pos (by decide)]
  exact Nat.zero_le _
 ·rw [e1, if_neg (by omega)]
  split
  ·exact Nat.zero_le _
  ·rw [rd_doc_get l k hk]
   have := h.short _ (List.getElem_mem hk)
   dsimp only
   rw [ByteArray.size_extract]
   omega
/-- Where a text leads, as a value. -/
def endOf (s : ByteArray) : Value := Wk.encP (Wk.pos (bytesOf s))
set_option maxRecDepth 100000 in
set_option maxHeartbeats 4000000 in
theorem answer_plot (A0 : Option Addr) (c0 : Nat) (l0 : List S27) (kind id fr tt snap : Int) (text : ByteArray) (w : World) (hr0 : Kd.C k27 w A0 l0.length l0) (hc0 : l0.length ≤ c0) (hl : l0.length ≤ 1000000) (hmay : mayB l0 kind id fr tt snap text = true) (hk : kind = 7) :
  Calls Tryz.prog 6 #[.slice A0 l0.length c0, .agg #[.int .i64 kind, .int .i64 id, .int .i64 fr, .int .i64 tt, .int .i64 snap, .string text]] w fun e w' =>
   e = .returned (.agg (repCells (partOf l0 id 0 tt).2 0 ⟨#[]⟩ nilS nilS nilS (if (partOf l0 id 0 tt).2 = 0 then endOf (partOf l0 id 0 tt).1 else zeroC)).toArray) ∧ Below w.heap.size w w' := by
 subst hk
 have hsz := part_size ((modelB_iff l0).1 (by unfold mayB at hmay; rw [Bool.and_eq_true] at hmay; exact hmay.1)) id 0 tt
 obtain ⟨⟨s, e⟩, hp⟩ : ∃ q, partOf l0 id 0 tt = q := ⟨_, rfl⟩
 have PA := Aside0.mk (fun w' (hr : Kd.C k27 w' A0 l0.length l0) => model_part.calls A0 c0 l0 id 0 tt s e w' hr hc0 (by rw [part_ok, hp]))
 rw [hp] at hsz ⊢
 dsimp only at hsz ⊢
 have HS := Aside0.mk hsz
 obtain ⟨Z, hZ⟩ : ∃ Z, Ending.returned (.agg (repCells e 0 ⟨#[]⟩ nilS nilS nilS (if e = 0 then endOf s else zeroC)).toArray) = Z := ⟨_, rfl⟩
 rw [hZ]
 have HQ := Aside0.mk hZ
 clear hp hsz hZ
 have MR := Aside0.mk (fun w' (hr : Kd.C k27 w' A0 l0.length l0) => model_Right.calls (2 * l0.length + 2) A0 c0 l0 (modelB l0) w' hr hc0 (modelRight_ok l0 hl _ (Nat.le_refl _)))
 have AR := Aside0.mk (ask_Right.told 7 id fr tt snap text)
 have HR := Aside0.mk hr0
 have hmay2 := hmay
 unfold mayB at hmay2
 rw [Bool.and_eq_true] at hmay2
 rw [hmay2.1] at MR
 rw [hmay2.2] at AR
 obtain ⟨W1, hW1⟩ : ∃ W1, w.alloc (.cells #[.int .i64 7, .int .i64 id, .int .i64 fr, .int .i64 tt, .int .i64 snap, .string text] 24) = W1 := ⟨_, rfl⟩
 have HB1 : Aside0 (Below w.heap.size w W1) := ⟨by rw [← hW1]; exact below_alloc (Below.refl _ _) _⟩
 have g0 : Aside0 (W1.cell? ⟨w.heap.size, 0, none⟩ = some (.int .i64 7)) := ⟨by rw [← hW1]; exact cell_newA w _ _ 0 _ rfl⟩
 have g1 : Aside0 (W1.cell? ⟨w.heap.size, 1, none⟩ = some (.int .i64 id)) := ⟨by rw [← hW1]; exact cell_newA w _ _ 1 _ rfl⟩
 have g2 : Aside0 (W1.cell? ⟨w.heap.size, 2, none⟩ = some (.int .i64 fr)) := ⟨by rw [← hW1]; exact cell_newA w _ _ 2 _ rfl⟩
 have g3 : Aside0 (W1.cell? ⟨w.heap.size, 3, none⟩ = some (.int .i64 tt)) := ⟨by rw [← hW1]; exact cell_newA w _ _ 3 _ rfl⟩
 have g4 : Aside0 (W1.cell? ⟨w.heap.size, 4, none⟩ = some (.int .i64 snap)) := ⟨by rw [← hW1]; exact cell_newA w _ _ 4 _ rfl⟩
 have g5 : Aside0 (W1.cell? ⟨w.heap.size, 5, none⟩ = some (.string text)) := ⟨by rw [← hW1]; exact cell_newA w _ _ 5 _ rfl⟩
 have W1E := Aside0.mk hW1
 have HC := Aside0.mk hc0
 clear hr0 hc0 hl hmay hmay2
 go_enter Tryz.func6, Tryz.ntmps6
 go_wp2_with fail
 try rw [W1E.out]
 obtain ⟨b4, hb4⟩ : ∃ b4, W1.heap.size = b4 := ⟨_, rfl⟩
 have hb5 : w.heap.size + 1 = b4 := by rw [← hb4, ← W1E.out]; exact (Array.size_push _).symm
 obtain ⟨W2, hW2⟩ : ∃ W2, W1.alloc (.cells (repCells 0 0 ⟨#[]⟩ nilS nilS nilS zeroC).toArray 34) = W2 := ⟨_, rfl⟩
 have hr2 : W2.heap[b4]? = some (.cells (repCells 0 0 ⟨#[]⟩ nilS nilS nilS zeroC).toArray 34 (0, 0)) := by rw [← hW2, ← hb4]; exact heap_alloc_new _ _
 have HB12 : Aside0 (Below W1.heap.size W1 W2) := ⟨by rw [← hW2]; exact below_alloc (Below.refl _ _) _⟩
 change Calls _ _ _ (W1.alloc (.cells (repCells 0 0 ⟨#[]⟩ nilS nilS nilS zeroC).toArray 34)) _
 rw [hW2, hb4]
 refine (MR.out _ (Kd.C_below HR.out (below_step HB1.out HB12.out))).mono ?_
 rintro en w3 ⟨rfl, hb⟩
 have HB13 := Aside0.mk (below_step HB12.out hb)
 have hr3 := blk_below hr2 hb
 have HB3 := Aside0.mk (below_step HB1.out HB13.out)
 clear hW2 hb
 all_goals skip
 have k0 := pw_cell_below HB13.out g0.out
 have k1 := pw_cell_below HB13.out g1.out
 have k2 := pw_cell_below HB13.out g2.out
 have k3 := pw_cell_below HB13.out g3.out
 have k4 := pw_cell_below HB13.out g4.out
 have k5 := pw_cell_below HB13.out g5.out
 go_wp2_with fail
 refine (AR.out _).mono ?_
 rintro en w4 ⟨rfl, hb⟩
 have HB14 := Aside0.mk (below_step HB13.out hb)
 have HB4 := Aside0.mk (below_step HB3.out hb)
 have hr4 := blk_below hr3 hb
 clear hb k0 k1 k2 k3 k4 k5
 have k0 := pw_cell_below HB14.out g0.out
 have k0b : (w4.alloc (.cells #[.int .i64 0, .int .i64 0, .int .i64 0, .string ⟨#[]⟩, .slice none 0 0, .slice none 0 0, .slice none 0 0, .complex .f64 0 0] 34)).cell? ⟨w.heap.size, 0, none⟩ = some (.int .i64 7) := pw_cell_below (below_alloc (Below.refl _ _) _) k0
 have k1b : (w4.alloc (.cells #[.int .i64 0, .int .i64 0, .int .i64 0, .string ⟨#[]⟩, .slice none 0 0, .slice none 0 0, .slice none 0 0, .complex .f64 0 0] 34)).cell? ⟨w.heap.size, 1, none⟩ = some (.int .i64 id) := pw_cell_below (below_alloc (Below.refl _ _) _) (pw_cell_below HB14.out g1.out)
 have k3b : (w4.alloc (.cells #[.int .i64 0, .int .i64 0, .int .i64 0, .string ⟨#[]⟩, .slice none 0 0, .slice none 0 0, .slice none 0 0, .complex .f64 0 0] 34)).cell? ⟨w.heap.size, 3, none⟩ = some (.int .i64 tt) := pw_cell_below (below_alloc (Below.refl _ _) _) (pw_cell_below HB14.out g3.out)
 go_wp2_with fail
 clear k0 k0b
 clear k1b k3b
 obtain ⟨b5, hb5⟩ : ∃ b5, w4.heap.size = b5 := ⟨_, rfl⟩
 obtain ⟨w5, hw5⟩ : ∃ w5, w4.alloc (.cells #[.int .i64 0, .int .i64 0, .int .i64 0, .string ⟨#[]⟩, .slice none 0 0, .slice none 0 0, .slice none 0 0, .complex .f64 0 0] 34) = w5 := ⟨_, rfl⟩
 have hrep : w5.heap[b5]? = some (.cells #[.int .i64 0, .int .i64 0, .int .i64 0, .string ⟨#[]⟩, .slice none 0 0, .slice none 0 0, .slice none 0 0, .complex .f64 0 0] 34 (0, 0)) := by rw [← hw5, ← hb5]; exact heap_alloc_new _ _
 have hB45 : Below w4.heap.size w4 w5 := by rw [← hw5]; exact below_alloc (Below.refl _ _) _
 have HB5 := Aside0.mk (below_step HB4.out hB45)
 have hr5 := blk_below hr4 hB45
 have k5 := pw_cell_below (below_step HB14.out hB45) g5.out
 have hwb : w.heap.size ≤ b5 := by rw [← hb5]; exact HB4.out.size
 have hwb1 : (⟨w.heap.size, 5, none⟩ : Addr).block < b5 := by
  have h1 : w.heap.size + 1 ≤ w4.heap.size := by
   have h2 := blk_lt hr4
   omega
  show w.heap.size < b5
  omega
 have hb45 : b4 < b5 := by rw [← hb5]; exact blk_lt hr4
 have hb5l : b5 ≤ w5.heap.size := by have := blk_lt hrep; omega
 rw [hb5, hw5]
 clear hw5 hb5 hr4
 clear hB45 k5
 refine (PA.out w5 (Kd.C_below HR.out HB5.out)).mono ?_
 rintro en w6 ⟨rfl, hb⟩
 have hr6 := blk_below hrep hb
 have hr6a := blk_below hr5 hb
 have HB6 := Aside0.mk (below_step HB5.out hb)
 obtain ⟨w6a, hwa, ha5, ha4, hab⟩ := rep_set hr6 hr6a (show b4 ≠ b5 by omega) 0 (.int .i64 e)
 have c0' : w6.cell? ⟨b5, 0, none⟩ = some (.int .i64 0) := (blk_cell hr6 0).trans rfl
 have f0 := blk_frozen hr6 0
 have c0a : w6a.cell? ⟨b5, 0, none⟩ = some (.int .i64 e) := (blk_cell ha5 0).trans rfl
 by_cases he : e = 0
 ·subst he
  rw [if_pos rfl] at HQ
  have EN := Aside0.mk (Wk.End_calls s (by have := HS.out; omega) w6a)
  clear hr5 hr6 hr6a hrep hb
  go_wp2_with fail
  refine EN.out.mono ?_
  rintro en w7 ⟨rfl, hb7⟩
  have g5 := blk_below ha5 hb7
  have g4 := blk_below ha4 hb7
  obtain ⟨w7b, hwb', hb5', hb4', hbb⟩ := rep_set g5 g4 (show b4 ≠ b5 by omega) 7 (endOf s)
  obtain ⟨wz, hrs, hz, hbz⟩ := rep_put (repCells 0 0 ⟨#[]⟩ nilS nilS nilS (endOf s)) hb4' rfl rfl (by simp [repCells, nilS, endOf, Wk.encP, Value.oneCell']) w.heap.size (by omega)
  have RS := Aside0.mk hrs
  have c7 : w7.cell? ⟨b5, 7, none⟩ = some (.complex .f64 0 0) := (blk_cell g5 7).trans rfl
  have f7 := blk_frozen g5 7
  have d0 : w7b.cell? ⟨b5, 0, none⟩ = some (.int .i64 0) := (blk_cell hb5' 0).trans rfl
  have d1 : w7b.cell? ⟨b5, 1, none⟩ = some (.int .i64 0) := (blk_cell hb5' 1).trans rfl
  have d2 : w7b.cell? ⟨b5, 2, none⟩ = some (.int .i64 0) := (blk_cell hb5' 2).trans rfl
  have d3 : w7b.cell? ⟨b5, 3, none⟩ = some (.string ⟨#[]⟩) := (blk_cell hb5' 3).trans rfl
  have d4 : w7b.cell? ⟨b5, 4, none⟩ = some (.slice none 0 0) := (blk_cell hb5' 4).trans rfl
  have d5 : w7b.cell? ⟨b5, 5, none⟩ = some (.slice none 0 0) := (blk_cell hb5' 5).trans rfl
  have d6 : w7b.cell? ⟨b5, 6, none⟩ = some (.slice none 0 0) := (blk_cell hb5' 6).trans rfl
  have d7 : w7b.cell? ⟨b5, 7, none⟩ = some (endOf s) := (blk_cell hb5' 7).trans rfl
  unfold endOf Wk.encP at hwb' d7 hrs RS
  unfold Wk.encP
  have HBz := Aside0.mk ((((HB6.out.trans (hab _ hwb)).trans (hb7.mono (by have := blk_lt ha5; omega))).trans (hbb _ hwb)).trans hbz)
  clear hrs hbz ha5 ha4 hab hb5' hb4' hbb hb7 g5 g4 c0' f0 c0a hwa
  go_wp2_with (first
   | ((with_reducible refine gate_store (t := 34) (p := 4) (v := .tmp 133) rfl ?_); refine store_event (t := 34) (p := 4) (v := .tmp 133) (w1 := wz) rfl rfl rfl ?hr ?_; (case hr => exact store_runs rfl rfl rfl RS.out); intro w9 hw; subst hw))
  exact bodyPost_ret (ans_results _ b4 (repCells 0 0 ⟨#[]⟩ nilS nilS nilS (endOf s)).toArray rfl hz _ rfl) rfl ⟨HQ.out, HBz.out⟩
 ·have t0 : (e == 0) = false := beq_eq_false_iff_ne.2 he
  rw [if_neg he] at HQ
  obtain ⟨wz, hrs, hz, hbz⟩ := rep_put (repCells e 0 ⟨#[]⟩ nilS nilS nilS zeroC) ha4 rfl rfl (by simp [repCells, nilS, zeroC, Value.oneCell']) w.heap.size (by omega)
  have RS := Aside0.mk hrs
  have d1 : w6a.cell? ⟨b5, 1, none⟩ = some (.int .i64 0) := (blk_cell ha5 1).trans rfl
  have d2 : w6a.cell? ⟨b5, 2, none⟩ = some (.int .i64 0) := (blk_cell ha5 2).trans rfl
  have d3 : w6a.cell? ⟨b5, 3, none⟩ = some (.string ⟨#[]⟩) := (blk_cell ha5 3).trans rfl
  have d4 : w6a.cell? ⟨b5, 4, none⟩ = some (.slice none 0 0) := (blk_cell ha5 4).trans rfl
  have d5 : w6a.cell? ⟨b5, 5, none⟩ = some (.slice none 0 0) := (blk_cell ha5 5).trans rfl
  have d6 : w6a.cell? ⟨b5, 6, none⟩ = some (.slice none 0 0) := (blk_cell ha5 6).trans rfl
  have d7 : w6a.cell? ⟨b5, 7, none⟩ = some (.complex .f64 0 0) := (blk_cell ha5 7).trans rfl
  have HBz := Aside0.mk ((HB6.out.trans (hab _ hwb)).trans hbz)
  clear hrs hbz ha5 ha4 hab hb hr6 hr6a hrep hr5
  go_wp2_with (first
   | ((with_reducible refine gate_store (t := 34) (p := 4) (v := .tmp 133) rfl ?_); refine store_event (t := 34) (p := 4) (v := .tmp 133) (w1 := wz) rfl rfl rfl ?hr ?_; (case hr => exact store_runs rfl rfl rfl RS.out); intro w9 hw; subst hw))
  exact bodyPost_ret (ans_results _ b4 (repCells e 0 ⟨#[]⟩ nilS nilS nilS zeroC).toArray rfl hz _ rfl) rfl ⟨HQ.out, HBz.out⟩
end Go.Proofs.YtibhenengpdahaaGreat.P

end
section
set_option linter.unusedVariables false
set_option linter.unusedSimpArgs false
namespace Go.Proofs.YtibhenengpdahaaGreat.P
open Go.RowKit Go.Proofs.YtibhenengpdahaaGreatW.PrintWords Go.Proofs.YtibhenengpdahaaGreatW.PrintLast Go.Proofs.YtibhenengpdahaaGreatW.PrintMore

/-- Does p stand at i in s? -/
def hasAt (s p : ByteArray) (i : Nat) : Bool := decide (i + p.size ≤ s.size) && ((s.extract i (i + p.size)).toList == p.toList)
theorem prefix_at (s p : ByteArray) (i : Nat) (hi : i ≤ s.size) : strings_HasPrefix.f (s.extract i s.size) p = some (hasAt s p i) := by
 unfold strings_HasPrefix.f stringslite_HasPrefix.f hasAt
 have hs : (s.extract i s.size).size = s.size - i := by rw [ByteArray.size_extract]; omega
 by_cases h : ((s.extract i s.size).size : Int) ≥ (p.size : Int)
 ·rw [if_pos h, if_pos (by omega), if_pos (by omega), Option.bind_some, Int.toNat_natCast, decide_eq_true (show i + p.size ≤ s.size by omega), Bool.true_and, ByteArray.extract_extract]
  rw [Nat.add_zero, Nat.min_eq_left (show i + p.size ≤ s.size by omega)]
 ·rw [if_neg h, Option.bind_some, decide_eq_false (show ¬ i + p.size ≤ s.size by omega), Bool.false_and]
def spotsIn (d : Nat) (s p : ByteArray) (n : Nat) : List S68 := ((List.range n).filter (hasAt s p)).map fun i : Nat => (⟨(d : Int), (i : Int)⟩ : S68)
def textAt (l : List ByteArray) (d : Nat) : ByteArray := l.getD d ByteArray.empty
def naiveM (l : List ByteArray) (p : ByteArray) : Nat → List S68
 | 0 => []
 | D + 1 => naiveM l p D ++ spotsIn D (textAt l D) p ((textAt l D).size + 1)
theorem spotsIn_succ (d : Nat) (s p : ByteArray) (n : Nat) : spotsIn d s p (n + 1) = spotsIn d s p n ++ (if hasAt s p n = true then [⟨(d : Int), (n : Int)⟩] else []) := by
 unfold spotsIn
 rw [List.range_succ, List.filter_append, List.map_append]
 cases h : hasAt s p n with
 | true => rw [if_pos rfl, List.filter_cons_of_pos h]; rfl
 | false => rw [if_neg (by decide), List.filter_cons_of_neg (by rw [h]; decide)]; rfl
theorem spotsIn_le (d : Nat) (s p : ByteArray) (n : Nat) : (spotsIn d s p n).length ≤ n := by
 unfold spotsIn
 rw [List.length_map]
 exact Nat.le_trans (List.length_filter_le _ _) (by rw [List.length_range]; exact Nat.le_refl _)
theorem naiveM_le (l : List ByteArray) (p : ByteArray) (M : Nat) (hM : ∀ d, (textAt l d).size ≤ M) : ∀ D, (naiveM l p D).length ≤ D * (M + 1)
 | 0 => Nat.zero_le _
 | D + 1 => by
  rw [naiveM, List.length_append, Nat.add_mul, Nat.one_mul]
  have := naiveM_le l p M hM D
  have := spotsIn_le D (textAt l D) p ((textAt l D).size + 1)
  have := hM D
  omega
theorem w64n (n : Nat) (h : n ≤ 1000000000) : wrap64 (n : Int) = (n : Int) := by
 unfold wrap64
 omega
theorem naiveM_l1 (l : List ByteArray) (p : ByteArray) (r : List S68) (D : Nat) (hD : D < l.length) (hl : l.length ≤ 1000) (hM : ∀ d, (textAt l d).size ≤ 1000)
  (hnext : Ev (fun k => back_Naive.l0 k p (naiveM l p (D + 1)) l (l.length : Int) ((D + 1 : Nat) : Int)) r) : ∀ (m i : Nat), m = (textAt l D).size + 1 - i → i ≤ (textAt l D).size + 1 →
  Ev (fun k => back_Naive.l1 k p (naiveM l p D ++ spotsIn D (textAt l D) p i) (D : Int) (textAt l D) l (l.length : Int) (D : Int) (((textAt l D).size + 1 : Nat) : Int) (i : Int)) r := by
 intro m
 induction m with
 | zero =>
  intro i hm hi
  obtain rfl : i = (textAt l D).size + 1 := by omega
  refine Ev.step (fun k => ?_) hnext
  rw [back_Naive.l1, if_neg (by omega), show wrap64 ((D : Int) + 1) = ((D + 1 : Nat) : Int) from w64n (D + 1) (by omega)]
  rfl
 | succ m ih =>
  intro i hm hi
  have hrec := ih (i + 1) (by omega) (by omega)
  rw [spotsIn_succ, ← List.append_assoc] at hrec
  have h1 := naiveM_le l p 1000 hM D
  have h2 : D * (1000 + 1) ≤ 1000 * 1001 := Nat.mul_le_mul (by omega) (Nat.le_refl _)
  have h3 := spotsIn_le D (textAt l D) p i
  have h4 := hM D
  have hlen : (naiveM l p D ++ spotsIn D (textAt l D) p i).length < 8796093022208 := by rw [List.length_append]; omega
  have hw : wrap64 ((i : Int) + 1) = ((i + 1 : Nat) : Int) := w64n (i + 1) (by omega)
  refine Ev.step (fun k => ?_) hrec
  rw [back_Naive.l1, if_pos (by omega), if_pos (by omega), if_pos (by omega), Int.toNat_natCast, prefix_at _ _ _ (by omega), Option.bind_some, hw]
  cases h : hasAt (textAt l D) p i with
  | true => rw [if_pos rfl, if_pos rfl, if_pos hlen]
  | false => rw [if_neg (by decide), if_neg (by decide), List.append_nil]
theorem naiveM_l0 (l : List ByteArray) (p : ByteArray) (hl : l.length ≤ 1000) (hM : ∀ d, (textAt l d).size ≤ 1000) : ∀ (m D : Nat), m = l.length - D → D ≤ l.length →
  Ev (fun k => back_Naive.l0 k p (naiveM l p D) l (l.length : Int) (D : Int)) (naiveM l p l.length) := by
 intro m
 induction m with
 | zero =>
  intro D hm hD
  obtain rfl : D = l.length := by omega
  refine Ev.step (f := fun _ => some (naiveM l p l.length)) (fun k => ?_) (Ev.now _)
  rw [back_Naive.l0, if_neg (by omega)]
 | succ m ih =>
  intro D hm hD
  have hrec := ih (D + 1) (by omega) (by omega)
  have h3 := naiveM_l1 l p _ D (by omega) hl hM hrec _ 0 rfl (Nat.zero_le _)
  have h4 := hM D
  have hw : wrap64 (((textAt l D).size : Int) + 1) = (((textAt l D).size + 1 : Nat) : Int) := w64n (_ + 1) (by omega)
  rw [show spotsIn D (textAt l D) p 0 = [] from rfl, List.append_nil] at h3
  refine Ev.step (fun k => ?_) h3
  have hdoc : rdOf ByteArray.empty l (D : Int) = textAt l D := rfl
  rw [back_Naive.l0, if_pos (by omega), if_pos (by omega), if_pos (by omega), hdoc, hw]
  rfl
theorem naiveM_ok (l : List ByteArray) (p : ByteArray) (hl : l.length ≤ 1000) (hM : ∀ d, (textAt l d).size ≤ 1000) : ∃ k, back_Naive.f k p l = some (naiveM l p l.length) := Ev.rounds (naiveM_l0 l p hl hM _ 0 rfl (Nat.zero_le _))
theorem mem_spotsIn (d : Nat) (s p : ByteArray) (n : Nat) (x : S68) (h : x ∈ spotsIn d s p n) : ∃ i : Nat, i < n ∧ hasAt s p i = true ∧ x = ⟨(d : Int), (i : Int)⟩ := by
 unfold spotsIn at h
 obtain ⟨i, hi, rfl⟩ := List.mem_map.1 h
 obtain ⟨h1, h2⟩ := List.mem_filter.1 hi
 exact ⟨i, List.mem_range.1 h1, h2, rfl⟩
theorem mem_naiveM (l : List ByteArray) (p : ByteArray) : ∀ (D : Nat) (x : S68), x ∈ naiveM l p D → ∃ d i : Nat, d < D ∧ hasAt (textAt l d) p i = true ∧ x = ⟨(d : Int), (i : Int)⟩
 | 0, x, h => by cases h
 | D + 1, x, h => by
  rw [naiveM] at h
  rcases List.mem_append.1 h with h | h
  ·obtain ⟨d, i, h1, h2, h3⟩ := mem_naiveM l p D x h
   exact ⟨d, i, by omega, h2, h3⟩
  ·obtain ⟨i, _, h2, h3⟩ := mem_spotsIn _ _ _ _ _ h
   exact ⟨D, i, by omega, h2, h3⟩
end Go.Proofs.YtibhenengpdahaaGreat.P

end
