/- The function Answer of package model: a part of a document. Conditions: how the list lies in memory, and its length. -/
import Derived.Test.YtibhenengpdahaaGreatAnswerL
section
set_option linter.unusedVariables false
set_option linter.unusedSimpArgs false
namespace Go.Proofs.YtibhenengpdahaaGreat.P
open Go.RowKit Go.Proofs.YtibhenengpdahaaGreatW.PrintWords Go.Proofs.YtibhenengpdahaaGreatW.PrintLast Go.Proofs.YtibhenengpdahaaGreatW.PrintMore

/-- One cell of a reply is set. -/
theorem rep_set {W : World} {b b4 : Nat} {cs cs4 : Array Value} {t t4 : TypeId} (h : W.heap[b]? = some (.cells cs t (0, 0))) (h4 : W.heap[b4]? = some (.cells cs4 t4 (0, 0))) (hne : b4 ≠ b) (i : Nat) (v : Value) :
  ∃ W', W.setCell ⟨b, i, none⟩ v = W' ∧ W'.heap[b]? = some (.cells (cs.setIfInBounds i v) t (0, 0)) ∧ W'.heap[b4]? = some (.cells cs4 t4 (0, 0)) ∧ ∀ B, B ≤ b → Below B W W' :=
 ⟨_, rfl, blk_set h i v, blk_far h4 (show b4 ≠ b from hne) v, fun B hB => set_under (Below.refl _ W) ⟨b, i, none⟩ v hB⟩
set_option maxRecDepth 100000 in
set_option maxHeartbeats 4000000 in
theorem answer_extract (A0 : Option Addr) (c0 : Nat) (l0 : List S27) (kind id fr tt snap : Int) (text : ByteArray) (w : World) (hr0 : Kd.C k27 w A0 l0.length l0) (hc0 : l0.length ≤ c0) (hl : l0.length ≤ 1000000) (hmay : mayB l0 kind id fr tt snap text = true) (hk : kind = 5) :
  Calls Tryz.prog 6 #[.slice A0 l0.length c0, .agg #[.int .i64 kind, .int .i64 id, .int .i64 fr, .int .i64 tt, .int .i64 snap, .string text]] w fun e w' =>
   e = .returned (.agg (repCells (partOf l0 id fr tt).2 0 (partOf l0 id fr tt).1 nilS nilS nilS zeroC).toArray) ∧ Below w.heap.size w w' := by
 subst hk
 obtain ⟨⟨s, e⟩, hp⟩ : ∃ q, partOf l0 id fr tt = q := ⟨_, rfl⟩
 have PA := Aside0.mk (fun w' (hr : Kd.C k27 w' A0 l0.length l0) => model_part.calls A0 c0 l0 id fr tt s e w' hr hc0 (by rw [part_ok, hp]))
 rw [hp]
 dsimp only
 clear hp
 have MR := Aside0.mk (fun w' (hr : Kd.C k27 w' A0 l0.length l0) => model_Right.calls (2 * l0.length + 2) A0 c0 l0 (modelB l0) w' hr hc0 (modelRight_ok l0 hl _ (Nat.le_refl _)))
 have AR := Aside0.mk (ask_Right.told 5 id fr tt snap text)
 have HR := Aside0.mk hr0
 have hmay2 := hmay
 unfold mayB at hmay2
 rw [Bool.and_eq_true] at hmay2
 rw [hmay2.1] at MR
 rw [hmay2.2] at AR
 obtain ⟨W1, hW1⟩ : ∃ W1, w.alloc (.cells #[.int .i64 5, .int .i64 id, .int .i64 fr, .int .i64 tt, .int .i64 snap, .string text] 24) = W1 := ⟨_, rfl⟩
 have HB1 : Aside0 (Below w.heap.size w W1) := ⟨by rw [← hW1]; exact below_alloc (Below.refl _ _) _⟩
 have g0 : Aside0 (W1.cell? ⟨w.heap.size, 0, none⟩ = some (.int .i64 5)) := ⟨by rw [← hW1]; exact cell_newA w _ _ 0 _ rfl⟩
 have g1 : Aside0 (W1.cell? ⟨w.heap.size, 1, none⟩ = some (.int .i64 id)) := ⟨by rw [← hW1]; exact cell_newA w _ _ 1 _ rfl⟩
 have g2 : Aside0 (W1.cell? ⟨w.heap.size, 2, none⟩ = some (.int .i64 fr)) := ⟨by rw [← hW1]; exact cell_newA w _ _ 2 _ rfl⟩
 have g3 : Aside0 (W1.cell? ⟨w.heap.size, 3, none⟩ = some (.int .i64 tt)) := ⟨by rw [← hW1]; exact cell_newA w _ _ 3 _ rfl⟩
 have g4 : Aside0 (W1.cell? ⟨w.heap.size, 4, none⟩ = some (.int .i64 snap)) := ⟨by rw [← hW1]; exact cell_newA w _ _ 4 _ rfl⟩
 have g5 : Aside0 (W1.cell? ⟨w.heap.size, 5, none⟩ = some (.string text)) := ⟨by rw [← hW1]; exact cell_newA w _ _ 5 _ rfl⟩
 have W1E := Aside0.mk hW1
 have HC := Aside0.mk hc0
 clear hr0 hc0 hl hmay hmay2
 go_enter Tryz.func6, Tryz.ntmps6
 go_wp2_with fail
 try rw [W1E.out]
 obtain ⟨b4, hb4⟩ : ∃ b4, W1.heap.size = b4 := ⟨_, rfl⟩
 have hb5 : w.heap.size + 1 = b4 := by rw [← hb4, ← W1E.out]; exact (Array.size_push _).symm
 obtain ⟨W2, hW2⟩ : ∃ W2, W1.alloc (.cells (repCells 0 0 ⟨#[]⟩ nilS nilS nilS zeroC).toArray 34) = W2 := ⟨_, rfl⟩
 have hr2 : W2.heap[b4]? = some (.cells (repCells 0 0 ⟨#[]⟩ nilS nilS nilS zeroC).toArray 34 (0, 0)) := by rw [← hW2, ← hb4]; exact heap_alloc_new _ _
 have HB12 : Aside0 (Below W1.heap.size W1 W2) := ⟨by rw [← hW2]; exact below_alloc (Below.refl _ _) _⟩
 change Calls _ _ _ (W1.alloc (.cells (repCells 0 0 ⟨#[]⟩ nilS nilS nilS zeroC).toArray 34)) _
 rw [hW2, hb4]
 refine (MR.out _ (Kd.C_below HR.out (below_step HB1.out HB12.out))).mono ?_
 rintro en w3 ⟨rfl, hb⟩
 have HB13 := Aside0.mk (below_step HB12.out hb)
 have hr3 := blk_below hr2 hb
 have HB3 := Aside0.mk (below_step HB1.out HB13.out)
 clear hW2 hb
 all_goals skip
 have k0 := pw_cell_below HB13.out g0.out
 have k1 := pw_cell_below HB13.out g1.out
 have k2 := pw_cell_below HB13.out g2.out
 have k3 := pw_cell_below HB13.out g3.out
 have k4 := pw_cell_below HB13.out g4.out
 have k5 := pw_cell_below HB13.out g5.out
 go_wp2_with fail
 refine (AR.out _).mono ?_
 rintro en w4 ⟨rfl, hb⟩
 have HB14 := Aside0.mk (below_step HB13.out hb)
 have HB4 := Aside0.mk (below_step HB3.out hb)
 have hr4 := blk_below hr3 hb
 clear hb k0 k1 k2 k3 k4 k5
 have k0 := pw_cell_below HB14.out g0.out
 have k0b : (w4.alloc (.cells #[.int .i64 0, .int .i64 0, .int .i64 0, .string ⟨#[]⟩, .slice none 0 0, .slice none 0 0, .slice none 0 0, .complex .f64 0 0] 34)).cell? ⟨w.heap.size, 0, none⟩ = some (.int .i64 5) := pw_cell_below (below_alloc (Below.refl _ _) _) k0
 have k1b : (w4.alloc (.cells #[.int .i64 0, .int .i64 0, .int .i64 0, .string ⟨#[]⟩, .slice none 0 0, .slice none 0 0, .slice none 0 0, .complex .f64 0 0] 34)).cell? ⟨w.heap.size, 1, none⟩ = some (.int .i64 id) := pw_cell_below (below_alloc (Below.refl _ _) _) (pw_cell_below HB14.out g1.out)
 have k2b : (w4.alloc (.cells #[.int .i64 0, .int .i64 0, .int .i64 0, .string ⟨#[]⟩, .slice none 0 0, .slice none 0 0, .slice none 0 0, .complex .f64 0 0] 34)).cell? ⟨w.heap.size, 2, none⟩ = some (.int .i64 fr) := pw_cell_below (below_alloc (Below.refl _ _) _) (pw_cell_below HB14.out g2.out)
 have k3b : (w4.alloc (.cells #[.int .i64 0, .int .i64 0, .int .i64 0, .string ⟨#[]⟩, .slice none 0 0, .slice none 0 0, .slice none 0 0, .complex .f64 0 0] 34)).cell? ⟨w.heap.size, 3, none⟩ = some (.int .i64 tt) := pw_cell_below (below_alloc (Below.refl _ _) _) (pw_cell_below HB14.out g3.out)
 go_wp2_with fail
 clear k0 k0b
 clear k1b k2b k3b
 obtain ⟨b5, hb5⟩ : ∃ b5, w4.heap.size = b5 := ⟨_, rfl⟩
 obtain ⟨w5, hw5⟩ : ∃ w5, w4.alloc (.cells #[.int .i64 0, .int .i64 0, .int .i64 0, .string ⟨#[]⟩, .slice none 0 0, .slice none 0 0, .slice none 0 0, .complex .f64 0 0] 34) = w5 := ⟨_, rfl⟩
 have hrep : w5.heap[b5]? = some (.cells #[.int .i64 0, .int .i64 0, .int .i64 0, .string ⟨#[]⟩, .slice none 0 0, .slice none 0 0, .slice none 0 0, .complex .f64 0 0] 34 (0, 0)) := by rw [← hw5, ← hb5]; exact heap_alloc_new _ _
 have hB45 : Below w4.heap.size w4 w5 := by rw [← hw5]; exact below_alloc (Below.refl _ _) _
 have HB5 := Aside0.mk (below_step HB4.out hB45)
 have hr5 := blk_below hr4 hB45
 have k5 := pw_cell_below (below_step HB14.out hB45) g5.out
 have hwb : w.heap.size ≤ b5 := by rw [← hb5]; exact HB4.out.size
 have hwb1 : (⟨w.heap.size, 5, none⟩ : Addr).block < b5 := by
  have h1 : w.heap.size + 1 ≤ w4.heap.size := by
   have h2 := blk_lt hr4
   omega
  show w.heap.size < b5
  omega
 have hb45 : b4 < b5 := by rw [← hb5]; exact blk_lt hr4
 have hb5l : b5 ≤ w5.heap.size := by have := blk_lt hrep; omega
 rw [hb5, hw5]
 clear hw5 hb5 hr4
 clear hB45 k5
 refine (PA.out w5 (Kd.C_below HR.out HB5.out)).mono ?_
 rintro en w6 ⟨rfl, hb⟩
 have hr6 := blk_below hrep hb
 have hr6a := blk_below hr5 hb
 have HB6 := Aside0.mk (below_step HB5.out hb)
 obtain ⟨w6a, hwa, ha5, ha4, hab⟩ := rep_set hr6 hr6a (show b4 ≠ b5 by omega) 3 (.string s)
 obtain ⟨w6b, hwb', hb5', hb4', hbb⟩ := rep_set ha5 ha4 (show b4 ≠ b5 by omega) 0 (.int .i64 e)
 obtain ⟨wz, hrs, hz, hbz⟩ := rep_put (repCells e 0 s nilS nilS nilS zeroC) hb4' rfl rfl (by simp [repCells, nilS, zeroC, Value.oneCell']) w.heap.size (by omega)
 have RS := Aside0.mk hrs
 have c3 : w6.cell? ⟨b5, 3, none⟩ = some (.string ⟨#[]⟩) := (blk_cell hr6 3).trans rfl
 have f3 := blk_frozen hr6 3
 have c0' : w6a.cell? ⟨b5, 0, none⟩ = some (.int .i64 0) := (blk_cell ha5 0).trans rfl
 have f0 := blk_frozen ha5 0
 have d0 : w6b.cell? ⟨b5, 0, none⟩ = some (.int .i64 e) := (blk_cell hb5' 0).trans rfl
 have d1 : w6b.cell? ⟨b5, 1, none⟩ = some (.int .i64 0) := (blk_cell hb5' 1).trans rfl
 have d2 : w6b.cell? ⟨b5, 2, none⟩ = some (.int .i64 0) := (blk_cell hb5' 2).trans rfl
 have d3 : w6b.cell? ⟨b5, 3, none⟩ = some (.string s) := (blk_cell hb5' 3).trans rfl
 have d4 : w6b.cell? ⟨b5, 4, none⟩ = some (.slice none 0 0) := (blk_cell hb5' 4).trans rfl
 have d5 : w6b.cell? ⟨b5, 5, none⟩ = some (.slice none 0 0) := (blk_cell hb5' 5).trans rfl
 have d6 : w6b.cell? ⟨b5, 6, none⟩ = some (.slice none 0 0) := (blk_cell hb5' 6).trans rfl
 have d7 : w6b.cell? ⟨b5, 7, none⟩ = some (.complex .f64 0 0) := (blk_cell hb5' 7).trans rfl
 have HBz := Aside0.mk (((HB6.out.trans (hab _ hwb)).trans (hbb _ hwb)).trans hbz)
 clear hrs hbz ha5 ha4 hab hb5' hb4' hbb hb hr6 hr6a hrep hr5
 go_wp2_with (first
  | ((with_reducible refine gate_store (t := 34) (p := 4) (v := .tmp 133) rfl ?_); refine store_event (t := 34) (p := 4) (v := .tmp 133) (w1 := wz) rfl rfl rfl ?hr ?_; (case hr => exact store_runs rfl rfl rfl RS.out); intro w9 hw; subst hw))
 exact bodyPost_ret (ans_results _ b4 (repCells e 0 s nilS nilS nilS zeroC).toArray rfl hz _ rfl) rfl ⟨rfl, HBz.out⟩
end Go.Proofs.YtibhenengpdahaaGreat.P

end
section
set_option linter.unusedVariables false
set_option linter.unusedSimpArgs false
namespace Go.Proofs.YtibhenengpdahaaGreat.P
open Go.RowKit Go.Proofs.YtibhenengpdahaaGreatW.PrintWords Go.Proofs.YtibhenengpdahaaGreatW.PrintLast Go.Proofs.YtibhenengpdahaaGreatW.PrintMore

theorem rows_ne {W : World} {b1 b2 : Nat} {ok1 ok2 : Nat → Prop} {v1 v2 : Value} {D : List S27} {L : List Int} (h1 : Kd.R k27 27 W b1 ok1 v1 D) (h2 : Kd.R (Kd.int .i64) 3 W b2 ok2 v2 L) (k : Nat) (e1 : v1.ownBlock = some k) (e2 : v2.ownBlock = some k) : False := by
  obtain ⟨_, o1⟩ := Kd.R_own h1
  obtain ⟨_, o2⟩ := Kd.R_own h2
  obtain ⟨c1, g1⟩ := own_typed o1 k e1
  obtain ⟨c2, g2⟩ := own_typed o2 k e2
  rw [g1] at g2
  injection g2 with g2
  injection g2 with _ h3
  exact absurd h3 (by decide)
theorem nums_kept {W w1 : World} {b1 b2 : Nat} {ok1 ok2 : Nat → Prop} {v1 v2 : Value} {D : List S27} {L : List Int} (h1 : Kd.R k27 27 W b1 ok1 v1 D) (h2 : Kd.R (Kd.int .i64) 3 W b2 ok2 v2 L) (hg : W.grownBy w1 v1.ownBlock) : Kd.R (Kd.int .i64) 3 w1 b2 ok2 v2 L :=
  Kd.R_grown2 h2 rfl hg (fun k hk he => rows_ne h1 h2 k hk he.symm)
theorem docs_kept {W w1 : World} {b1 b2 : Nat} {ok1 ok2 : Nat → Prop} {v1 v2 : Value} {D : List S27} {L : List Int} (h1 : Kd.R k27 27 W b1 ok1 v1 D) (h2 : Kd.R (Kd.int .i64) 3 W b2 ok2 v2 L) (hg : W.grownBy w1 v2.ownBlock) : Kd.R k27 27 w1 b1 ok1 v1 D :=
  Kd.R_grown2 h1 rfl hg (fun k hk he => rows_ne h1 h2 k he.symm hk)
/-- A row of one document, of one number. -/
theorem lit_doc {w : World} {g : Nat} {nid : Int} {text : ByteArray} (h : w.heap[g]? = some (.cells #[.int .i64 nid, .string text] 27 (0, 0))) : Kd.C k27 w (some ⟨g, 0, none⟩) 1 [⟨nid, text⟩] := by
  refine ⟨rfl, by decide, fun _ => ⟨_, rfl, fun j p hj => ?_⟩⟩
  obtain rfl : j = 0 := by
    rcases Nat.eq_zero_or_pos j with h | h
    · exact h
    · rw [List.getElem?_eq_none (by simp; omega)] at hj; cases hj
  have hp : p = ⟨nid, text⟩ := by simpa using hj.symm
  subst hp
  refine ⟨[.int .i64 nid, .string text], rfl, k27_mk _ _, fun i u hu => ?_⟩
  rcases i with _ | _ | i
  · have : u = .int .i64 nid := by simpa using hu.symm
    subst this
    exact (blk_cell h 0).trans rfl
  · have : u = .string text := by simpa using hu.symm
    subst this
    exact (blk_cell h 1).trans rfl
  · simp at hu
theorem lit_num {w : World} {g : Nat} {n : Int} (h : w.heap[g]? = some (.cells #[.int .i64 n] 3 (0, 0))) : Kd.C (Kd.int .i64) w (some ⟨g, 0, none⟩) 1 [n] := by
  refine ⟨rfl, by decide, fun _ => ⟨_, rfl, fun j p hj => ?_⟩⟩
  obtain rfl : j = 0 := by
    rcases Nat.eq_zero_or_pos j with h | h
    · exact h
    · rw [List.getElem?_eq_none (by simp; omega)] at hj; cases hj
  have hp : p = n := by simpa using hj.symm
  subst hp
  refine ⟨[.int .i64 p], rfl, rfl, fun i u hu => ?_⟩
  rcases i with _ | i
  · have : u = .int .i64 p := by simpa using hu.symm
    subst this
    exact (blk_cell h 0).trans rfl
  · simp at hu
theorem infoDocL : ((Tryz.prog).info? 27).map (fun i => (i.zero, i.size, i.bytes)) = some (some (.agg #[(.int .i64 0), (.string ⟨#[]⟩)]), 2, 24) := by kernel_rfl
theorem infoNum : ((Tryz.prog).info? 3).map (fun i => (i.zero, i.size, i.bytes)) = some (some (.int .i64 0), 1, 8) := by kernel_rfl
theorem docML {w w1 : World} {base : Nat} {ok : Nat → Prop} {x : S27} {cs : List Value} (h : k27.K w x cs) : k27.M w1 base ok x cs := by
  obtain rfl := k27_open h
  exact k27_mkM w1 base ok x
theorem numML {w w1 : World} {base : Nat} {ok : Nat → Prop} {x : Int} {cs : List Value} (h : (Kd.int .i64).K w x cs) : (Kd.int .i64).M w1 base ok x cs := h
/-- What a round of the list keeps in sight: two cells of the reply, and the document. -/
structure Sight (w : World) (b5 bx : Nat) (v1 v2 : Value) (id : Int) (tx : ByteArray) : Prop where
  mk :: (c5 : w.cell? ⟨b5, 5, none⟩ = some v1) (c6 : w.cell? ⟨b5, 6, none⟩ = some v2) (x0 : w.cell? ⟨bx, 0, none⟩ = some (.int .i64 id)) (x1 : w.cell? ⟨bx, 1, none⟩ = some (.string tx))
theorem Sight.below {w w1 : World} {b5 bx : Nat} {v1 v2 : Value} {id : Int} {tx : ByteArray} (h : Sight w b5 bx v1 v2 id tx) (hb : Below w.heap.size w w1) : Sight w1 b5 bx v1 v2 id tx :=
  ⟨pw_cell_below hb h.c5, pw_cell_below hb h.c6, pw_cell_below hb h.x0, pw_cell_below hb h.x1⟩
theorem Sight.grown {w w1 : World} {b5 bx : Nat} {v v1 v2 : Value} {id : Int} {tx : ByteArray} (h : Sight w b5 bx v1 v2 id tx) (hg : w.grownBy w1 v.ownBlock) (h5 : v.ownBlock ≠ some b5) (hx : v.ownBlock ≠ some bx) : Sight w1 b5 bx v1 v2 id tx :=
  ⟨cell_same (hg.block b5 (cell_lt h.c5) h5.symm) h.c5, cell_same (hg.block b5 (cell_lt h.c5) h5.symm) h.c6, cell_same (hg.block bx (cell_lt h.x0) hx.symm) h.x0, cell_same (hg.block bx (cell_lt h.x0) hx.symm) h.x1⟩
end Go.Proofs.YtibhenengpdahaaGreat.P

end
