/- The function Answer of package model: where a document's walk leads. Conditions: how the list lies in memory, and its length. -/
import Derived.Test.YtibhenengpdahaaAnsA
import Derived.Test.YtibhenengpdahaaWalkAB
import Derived.Test.YtibhenengpdahaaLaw0
set_option linter.unusedVariables false
set_option linter.unusedSimpArgs false
namespace Go.Proofs.Ytibhenengpdahaa.P
open Go.RowKit Go.Proofs.YtibhenengpdahaaW.PrintWords Go.Proofs.YtibhenengpdahaaW.PrintLast Go.Proofs.YtibhenengpdahaaW.PrintMore
attribute [local go_sem] run_store_cx

theorem part_size {l : List S42} (h : Docs0 l) (id fr tt : Int) : (partOf l id fr tt).1.size ≤ 40 := by
  unfold partOf
  rcases find_cases l id with ⟨e1, _⟩ | ⟨k, hk, e1, _, _⟩
  · rw [e1, if_pos (by decide)]
    exact Nat.zero_le _
  · rw [e1, if_neg (by omega)]
    split
    · exact Nat.zero_le _
    · rw [rd_doc_get l k hk]
      have := h.short _ (List.getElem_mem hk)
      dsimp only
      rw [ByteArray.size_extract]
      omega
/-- Where a text leads, as a value. -/
def endOf (s : ByteArray) : Value := Wk.encP (Wk.pos (bytesOf s))
set_option maxRecDepth 100000 in
set_option maxHeartbeats 4000000 in
theorem answer_plot (A0 : Option Addr) (c0 : Nat) (l0 : List S42) (kind id fr tt snap : Int) (text : ByteArray) (w : World) (hr0 : Kd.C k42 w A0 l0.length l0) (hc0 : l0.length ≤ c0) (hl : l0.length ≤ 1000000) (hmay : mayB l0 kind id fr tt snap text = true) (hk : kind = 7) :
    Calls Try.prog 12 #[.slice A0 l0.length c0, .agg #[.int .i64 kind, .int .i64 id, .int .i64 fr, .int .i64 tt, .int .i64 snap, .string text]] w fun e w' =>
      e = .returned (.agg (repCells (partOf l0 id 0 tt).2 0 ⟨#[]⟩ nilS nilS nilS (if (partOf l0 id 0 tt).2 = 0 then endOf (partOf l0 id 0 tt).1 else zeroC)).toArray) ∧ Below w.heap.size w w' := by
  subst hk
  have hsz := part_size ((modelB_iff l0).1 (by unfold mayB at hmay; rw [Bool.and_eq_true] at hmay; exact hmay.1)) id 0 tt
  obtain ⟨⟨s, e⟩, hp⟩ : ∃ q, partOf l0 id 0 tt = q := ⟨_, rfl⟩
  have PA := Aside0.mk (fun w' (hr : Kd.C k42 w' A0 l0.length l0) => model_part.calls A0 c0 l0 id 0 tt s e w' hr hc0 (by rw [part_ok, hp]))
  rw [hp] at hsz ⊢
  dsimp only at hsz ⊢
  have HS := Aside0.mk hsz
  obtain ⟨Z, hZ⟩ : ∃ Z, Ending.returned (.agg (repCells e 0 ⟨#[]⟩ nilS nilS nilS (if e = 0 then endOf s else zeroC)).toArray) = Z := ⟨_, rfl⟩
  rw [hZ]
  have HQ := Aside0.mk hZ
  clear hp hsz hZ
  have MR := Aside0.mk (fun w' (hr : Kd.C k42 w' A0 l0.length l0) => model_Right.calls (2 * l0.length + 2) A0 c0 l0 (modelB l0) w' hr hc0 (modelRight_ok l0 hl _ (Nat.le_refl _)))
  have AR := Aside0.mk (ask_Right.calls 7 id fr tt snap text)
  have HR := Aside0.mk hr0
  have hmay2 := hmay
  unfold mayB at hmay2
  rw [Bool.and_eq_true] at hmay2
  rw [hmay2.1] at MR
  rw [hmay2.2] at AR
  obtain ⟨W1, hW1⟩ : ∃ W1, w.alloc (.cells #[.int .i64 7, .int .i64 id, .int .i64 fr, .int .i64 tt, .int .i64 snap, .string text] 29) = W1 := ⟨_, rfl⟩
  have HB1 : Aside0 (Below w.heap.size w W1) := ⟨by rw [← hW1]; exact below_alloc (Below.refl _ _) _⟩
  have g0 : Aside0 (W1.cell? ⟨w.heap.size, 0, none⟩ = some (.int .i64 7)) := ⟨by rw [← hW1]; exact cell_newA w _ _ 0 _ rfl⟩
  have g1 : Aside0 (W1.cell? ⟨w.heap.size, 1, none⟩ = some (.int .i64 id)) := ⟨by rw [← hW1]; exact cell_newA w _ _ 1 _ rfl⟩
  have g2 : Aside0 (W1.cell? ⟨w.heap.size, 2, none⟩ = some (.int .i64 fr)) := ⟨by rw [← hW1]; exact cell_newA w _ _ 2 _ rfl⟩
  have g3 : Aside0 (W1.cell? ⟨w.heap.size, 3, none⟩ = some (.int .i64 tt)) := ⟨by rw [← hW1]; exact cell_newA w _ _ 3 _ rfl⟩
  have g4 : Aside0 (W1.cell? ⟨w.heap.size, 4, none⟩ = some (.int .i64 snap)) := ⟨by rw [← hW1]; exact cell_newA w _ _ 4 _ rfl⟩
  have g5 : Aside0 (W1.cell? ⟨w.heap.size, 5, none⟩ = some (.string text)) := ⟨by rw [← hW1]; exact cell_newA w _ _ 5 _ rfl⟩
  have W1E := Aside0.mk hW1
  have HC := Aside0.mk hc0
  clear hr0 hc0 hl hmay hmay2
  go_enter Try.func12, Try.ntmps12
  go_wp2_with fail
  try rw [W1E.out]
  obtain ⟨b4, hb4⟩ : ∃ b4, W1.heap.size = b4 := ⟨_, rfl⟩
  have hb5 : w.heap.size + 1 = b4 := by rw [← hb4, ← W1E.out]; exact (Array.size_push _).symm
  obtain ⟨W2, hW2⟩ : ∃ W2, W1.alloc (.cells (repCells 0 0 ⟨#[]⟩ nilS nilS nilS zeroC).toArray 34) = W2 := ⟨_, rfl⟩
  have hr2 : W2.heap[b4]? = some (.cells (repCells 0 0 ⟨#[]⟩ nilS nilS nilS zeroC).toArray 34 (0, 0)) := by rw [← hW2, ← hb4]; exact heap_alloc_new _ _
  have HB12 : Aside0 (Below W1.heap.size W1 W2) := ⟨by rw [← hW2]; exact below_alloc (Below.refl _ _) _⟩
  change Calls _ _ _ (W1.alloc (.cells (repCells 0 0 ⟨#[]⟩ nilS nilS nilS zeroC).toArray 34)) _
  rw [hW2, hb4]
  refine (MR.out _ (Kd.C_below HR.out (below_step HB1.out HB12.out))).mono ?_
  rintro en w3 ⟨rfl, hb⟩
  have HB13 := Aside0.mk (below_step HB12.out hb)
  have hr3 := blk_below hr2 hb
  have HB3 := Aside0.mk (below_step HB1.out HB13.out)
  clear hW2 hb
  all_goals skip
  have k0 := pw_cell_below HB13.out g0.out
  have k1 := pw_cell_below HB13.out g1.out
  have k2 := pw_cell_below HB13.out g2.out
  have k3 := pw_cell_below HB13.out g3.out
  have k4 := pw_cell_below HB13.out g4.out
  have k5 := pw_cell_below HB13.out g5.out
  go_wp2_with fail
  refine (AR.out _).mono ?_
  rintro en w4 ⟨rfl, hb⟩
  have HB14 := Aside0.mk (below_step HB13.out hb)
  have HB4 := Aside0.mk (below_step HB3.out hb)
  have hr4 := blk_below hr3 hb
  clear hb k0 k1 k2 k3 k4 k5
  have k0 := pw_cell_below HB14.out g0.out
  have k0b : (w4.alloc (.cells #[.int .i64 0, .int .i64 0, .int .i64 0, .string ⟨#[]⟩, .slice none 0 0, .slice none 0 0, .slice none 0 0, .complex .f64 0 0] 34)).cell? ⟨w.heap.size, 0, none⟩ = some (.int .i64 7) := pw_cell_below (below_alloc (Below.refl _ _) _) k0
  have k1b : (w4.alloc (.cells #[.int .i64 0, .int .i64 0, .int .i64 0, .string ⟨#[]⟩, .slice none 0 0, .slice none 0 0, .slice none 0 0, .complex .f64 0 0] 34)).cell? ⟨w.heap.size, 1, none⟩ = some (.int .i64 id) := pw_cell_below (below_alloc (Below.refl _ _) _) (pw_cell_below HB14.out g1.out)
  have k3b : (w4.alloc (.cells #[.int .i64 0, .int .i64 0, .int .i64 0, .string ⟨#[]⟩, .slice none 0 0, .slice none 0 0, .slice none 0 0, .complex .f64 0 0] 34)).cell? ⟨w.heap.size, 3, none⟩ = some (.int .i64 tt) := pw_cell_below (below_alloc (Below.refl _ _) _) (pw_cell_below HB14.out g3.out)
  go_wp2_with fail
  clear k0 k0b
  clear k1b k3b
  obtain ⟨b5, hb5⟩ : ∃ b5, w4.heap.size = b5 := ⟨_, rfl⟩
  obtain ⟨w5, hw5⟩ : ∃ w5, w4.alloc (.cells #[.int .i64 0, .int .i64 0, .int .i64 0, .string ⟨#[]⟩, .slice none 0 0, .slice none 0 0, .slice none 0 0, .complex .f64 0 0] 34) = w5 := ⟨_, rfl⟩
  have hrep : w5.heap[b5]? = some (.cells #[.int .i64 0, .int .i64 0, .int .i64 0, .string ⟨#[]⟩, .slice none 0 0, .slice none 0 0, .slice none 0 0, .complex .f64 0 0] 34 (0, 0)) := by rw [← hw5, ← hb5]; exact heap_alloc_new _ _
  have hB45 : Below w4.heap.size w4 w5 := by rw [← hw5]; exact below_alloc (Below.refl _ _) _
  have HB5 := Aside0.mk (below_step HB4.out hB45)
  have hr5 := blk_below hr4 hB45
  have k5 := pw_cell_below (below_step HB14.out hB45) g5.out
  have hwb : w.heap.size ≤ b5 := by rw [← hb5]; exact HB4.out.size
  have hwb1 : (⟨w.heap.size, 5, none⟩ : Addr).block < b5 := by
    have h1 : w.heap.size + 1 ≤ w4.heap.size := by
      have h2 := blk_lt hr4
      omega
    show w.heap.size < b5
    omega
  have hb45 : b4 < b5 := by rw [← hb5]; exact blk_lt hr4
  have hb5l : b5 ≤ w5.heap.size := by have := blk_lt hrep; omega
  rw [hb5, hw5]
  clear hw5 hb5 hr4
  clear hB45 k5
  refine (PA.out w5 (Kd.C_below HR.out HB5.out)).mono ?_
  rintro en w6 ⟨rfl, hb⟩
  have hr6 := blk_below hrep hb
  have hr6a := blk_below hr5 hb
  have HB6 := Aside0.mk (below_step HB5.out hb)
  obtain ⟨w6a, hwa, ha5, ha4, hab⟩ := rep_set hr6 hr6a (show b4 ≠ b5 by omega) 0 (.int .i64 e)
  have c0' : w6.cell? ⟨b5, 0, none⟩ = some (.int .i64 0) := (blk_cell hr6 0).trans rfl
  have f0 := blk_frozen hr6 0
  have c0a : w6a.cell? ⟨b5, 0, none⟩ = some (.int .i64 e) := (blk_cell ha5 0).trans rfl
  by_cases he : e = 0
  · subst he
    rw [if_pos rfl] at HQ
    have EN := Aside0.mk (Wk.End_calls s (by have := HS.out; omega) w6a)
    clear hr5 hr6 hr6a hrep hb
    go_wp2_with fail
    refine EN.out.mono ?_
    rintro en w7 ⟨rfl, hb7⟩
    have g5 := blk_below ha5 hb7
    have g4 := blk_below ha4 hb7
    obtain ⟨w7b, hwb', hb5', hb4', hbb⟩ := rep_set g5 g4 (show b4 ≠ b5 by omega) 7 (endOf s)
    obtain ⟨wz, hrs, hz, hbz⟩ := rep_put (repCells 0 0 ⟨#[]⟩ nilS nilS nilS (endOf s)) hb4' rfl rfl (by simp [repCells, nilS, endOf, Wk.encP, Value.oneCell']) w.heap.size (by omega)
    have RS := Aside0.mk hrs
    have c7 : w7.cell? ⟨b5, 7, none⟩ = some (.complex .f64 0 0) := (blk_cell g5 7).trans rfl
    have f7 := blk_frozen g5 7
    have d0 : w7b.cell? ⟨b5, 0, none⟩ = some (.int .i64 0) := (blk_cell hb5' 0).trans rfl
    have d1 : w7b.cell? ⟨b5, 1, none⟩ = some (.int .i64 0) := (blk_cell hb5' 1).trans rfl
    have d2 : w7b.cell? ⟨b5, 2, none⟩ = some (.int .i64 0) := (blk_cell hb5' 2).trans rfl
    have d3 : w7b.cell? ⟨b5, 3, none⟩ = some (.string ⟨#[]⟩) := (blk_cell hb5' 3).trans rfl
    have d4 : w7b.cell? ⟨b5, 4, none⟩ = some (.slice none 0 0) := (blk_cell hb5' 4).trans rfl
    have d5 : w7b.cell? ⟨b5, 5, none⟩ = some (.slice none 0 0) := (blk_cell hb5' 5).trans rfl
    have d6 : w7b.cell? ⟨b5, 6, none⟩ = some (.slice none 0 0) := (blk_cell hb5' 6).trans rfl
    have d7 : w7b.cell? ⟨b5, 7, none⟩ = some (endOf s) := (blk_cell hb5' 7).trans rfl
    unfold endOf Wk.encP at hwb' d7 hrs RS
    unfold Wk.encP
    have HBz := Aside0.mk ((((HB6.out.trans (hab _ hwb)).trans (hb7.mono (by have := blk_lt ha5; omega))).trans (hbb _ hwb)).trans hbz)
    clear hrs hbz ha5 ha4 hab hb5' hb4' hbb hb7 g5 g4 c0' f0 c0a hwa
    go_wp2_with (first
      | ((with_reducible refine gate_store (t := 34) (p := 4) (v := .tmp 133) rfl ?_); refine store_event (t := 34) (p := 4) (v := .tmp 133) (w1 := wz) rfl rfl rfl ?hr ?_; (case hr => exact store_runs rfl rfl rfl RS.out); intro w9 hw; subst hw))
    exact bodyPost_ret (ans_results _ b4 (repCells 0 0 ⟨#[]⟩ nilS nilS nilS (endOf s)).toArray rfl hz _ rfl) rfl ⟨HQ.out, HBz.out⟩
  · have t0 : (e == 0) = false := beq_eq_false_iff_ne.2 he
    rw [if_neg he] at HQ
    obtain ⟨wz, hrs, hz, hbz⟩ := rep_put (repCells e 0 ⟨#[]⟩ nilS nilS nilS zeroC) ha4 rfl rfl (by simp [repCells, nilS, zeroC, Value.oneCell']) w.heap.size (by omega)
    have RS := Aside0.mk hrs
    have d1 : w6a.cell? ⟨b5, 1, none⟩ = some (.int .i64 0) := (blk_cell ha5 1).trans rfl
    have d2 : w6a.cell? ⟨b5, 2, none⟩ = some (.int .i64 0) := (blk_cell ha5 2).trans rfl
    have d3 : w6a.cell? ⟨b5, 3, none⟩ = some (.string ⟨#[]⟩) := (blk_cell ha5 3).trans rfl
    have d4 : w6a.cell? ⟨b5, 4, none⟩ = some (.slice none 0 0) := (blk_cell ha5 4).trans rfl
    have d5 : w6a.cell? ⟨b5, 5, none⟩ = some (.slice none 0 0) := (blk_cell ha5 5).trans rfl
    have d6 : w6a.cell? ⟨b5, 6, none⟩ = some (.slice none 0 0) := (blk_cell ha5 6).trans rfl
    have d7 : w6a.cell? ⟨b5, 7, none⟩ = some (.complex .f64 0 0) := (blk_cell ha5 7).trans rfl
    have HBz := Aside0.mk ((HB6.out.trans (hab _ hwb)).trans hbz)
    clear hrs hbz ha5 ha4 hab hb hr6 hr6a hrep hr5
    go_wp2_with (first
      | ((with_reducible refine gate_store (t := 34) (p := 4) (v := .tmp 133) rfl ?_); refine store_event (t := 34) (p := 4) (v := .tmp 133) (w1 := wz) rfl rfl rfl ?hr ?_; (case hr => exact store_runs rfl rfl rfl RS.out); intro w9 hw; subst hw))
    exact bodyPost_ret (ans_results _ b4 (repCells e 0 ⟨#[]⟩ nilS nilS nilS zeroC).toArray rfl hz _ rfl) rfl ⟨HQ.out, HBz.out⟩
end Go.Proofs.Ytibhenengpdahaa.P
