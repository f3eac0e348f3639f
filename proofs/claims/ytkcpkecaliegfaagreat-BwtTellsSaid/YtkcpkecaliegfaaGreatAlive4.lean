/- The first call of the statements of bwt: it is true. Conditions: none. -/
import Derived.Test.YtkcpkecaliegfaaGreatRefDocs
import Derived.Test.YtkcpkecaliegfaaGreatP33
import Derived.Test.YtkcpkecaliegfaaGreatBkTextsP
set_option linter.unusedVariables false
set_option linter.unusedSimpArgs false
namespace Go.Proofs.YtkcpkecaliegfaaGreat.P
open Go.RowKit Go.Proofs.YtkcpkecaliegfaaGreatW.PrintWords Go.Proofs.YtkcpkecaliegfaaGreatW.PrintLast Go.Proofs.YtkcpkecaliegfaaGreatW.PrintMore

theorem lit_C {α : Type} (enc : α → Value) (h1 : ∀ x, (enc x).oneCell' = true) (xs : List α) (W : World) (t : TypeId) (hx : xs.length ≤ 1000) : Kd.C (Kd.scalar enc h1) (W.alloc (.cells (xs.map enc).toArray t)) (some ⟨W.heap.size, 0, none⟩) xs.length xs := by
 refine ⟨rfl, by omega, fun _ => ⟨_, rfl, fun j p hj => ⟨[enc p], rfl, rfl, fun i u hi => ?_⟩⟩⟩
 rcases i with _ | i
 ·obtain rfl : enc p = u := by simpa using hi
  have hb := heap_alloc_new W (.cells (xs.map enc).toArray t)
  have h2 := (blk_cell hb j)
  rw [show (⟨W.heap.size, 0, none⟩ : Addr).add (j * (Kd.scalar enc h1).sz + 0) = ⟨W.heap.size, j, none⟩ from by
   show (⟨W.heap.size, 0, none⟩ : Addr).add (j * 1 + 0) = _
   simp [Addr.add]
   intro h; omega]
  refine h2.trans ?_
  simp [hj]
 ·simp at hi
theorem docs_ab : docsB [99, 0, 98] = ([⟨#[97, 98]⟩], true) := by
 have hR : rank 0 ([99, 0, 98] : List Int).length [99, 0, 98] = 1 := by decide +kernel
 have ht : textB [99, 0, 98] ((0 : Nat) : Int) = (⟨#[97, 98]⟩, true) := by decide +kernel
 have ho : outOf [99, 0, 98] 1 = [⟨#[97, 98]⟩] := by
  unfold outOf
  show [(textB [99, 0, 98] ((0 : Nat) : Int)).1] = _
  rw [ht]
 unfold docsB
 rw [hR, if_pos ⟨by decide +kernel, fun d hd => by
  obtain rfl : d = 0 := by omega
  rw [ht]⟩, ho]
 unfold lastOf
 rw [symbols_ab4, if_pos rfl]
set_option maxRecDepth 100000 in
set_option maxHeartbeats 4000000 in
theorem alive4_walk (w : World) : Calls Tryz.prog 19 #[] w fun e w' => e = .returned (.bool true) ∧ Below w.heap.size w w' := by
 have hcol : colB [99, 0, 98] = true := by decide
 have hsym : symOf [99, 0, 98] 0 ≠ 0 := by decide
 have hnx : nextOf [99, 0, 98] 0 = 2 := by decide
 obtain ⟨k1, e1⟩ := (docs_ev [99, 0, 98] (by decide)).rounds
 rw [docs_ab] at e1
 have e2 : bwt_Next.f 5 0 [99, 0, 98] = some ((2 : Int), true) := by
  have := next_ok [99, 0, 98] (by decide) 0 (by decide) hcol hsym 5 (by decide)
  rw [hnx] at this
  exact this
 obtain ⟨k3, e3⟩ := (rank_ev [99, 0, 98] (by decide) hcol 0 3 (by decide)).rounds
 obtain ⟨k4, e4⟩ := (counts_ev [1] (by decide)).rounds
 obtain ⟨SC, hSC⟩ : ∃ q, (if colB [1] = true then countsOf [1] else []) = q := ⟨_, rfl⟩
 have hl : SC.length = 257 := by rw [← hSC]; decide +kernel
 rw [hSC] at e4
 have L1 : ∀ W : World, Kd.C (Kd.int .i64) (W.alloc (.cells #[.int .i64 99, .int .i64 0, .int .i64 98] 3)) (some ⟨W.heap.size, 0, none⟩) 3 [99, 0, 98] := fun W => lit_C (Value.int .i64) (fun _ => rfl) [99, 0, 98] W 3 (by decide)
 have L2 : ∀ W : World, Kd.C (Kd.int .i64) (W.alloc (.cells #[.int .i64 1] 3)) (some ⟨W.heap.size, 0, none⟩) 1 [1] := fun W => lit_C (Value.int .i64) (fun _ => rfl) [1] W 3 (by decide)
 have L3 : ∀ W : World, Kd.C Kd.string (W.alloc (.cells #[.string ⟨#[97, 98]⟩] 9)) (some ⟨W.heap.size, 0, none⟩) 1 [⟨#[97, 98]⟩] := fun W => lit_C Value.string (fun _ => rfl) [⟨#[97, 98]⟩] W 9 (by decide)
 have DC := Aside0.mk (fun W => bwt_Docs.calls k1 (some ⟨W.heap.size, 0, none⟩) 3 [99, 0, 98] [⟨#[97, 98]⟩] true _ (L1 W) (by decide) e1)
 have NX := Aside0.mk (fun W => bwt_Next.calls 5 0 (some ⟨W.heap.size, 0, none⟩) 3 [99, 0, 98] 2 true _ (L1 W) (by decide) e2)
 have RK := Aside0.mk (fun W => bwt_Rank.calls k3 0 3 (some ⟨W.heap.size, 0, none⟩) 3 [99, 0, 98] 1 _ (L1 W) (by decide) e3)
 have CT := Aside0.mk (fun W => bwt_Counts.calls k4 (some ⟨W.heap.size, 0, none⟩) 1 [1] SC _ (L2 W) (by decide) e4)
 have ST := Aside0.mk L3
 have HL := Aside0.mk hl
 have hq : ((SC.length : Int) == 257) = true := by rw [hl]; rfl
 clear hcol hsym hnx e1 e2 e3 e4 hSC L1 L2 L3 hl
 go_enter Tryz.func19, Tryz.ntmps19
 go_wp2_with fail
 refine (DC.out _).mono ?_
 rintro en w1 ⟨v, rfl, hR, hb⟩
 obtain ⟨Ad, cd, rfl⟩ := Kd.R_slice hR
 have HB := Aside0.mk (below_step (below_alloc (Below.refl _ _) _) hb)
 have HD := Aside0.mk hR
 clear hR hb
 go_wp2_with fail
 refine (NX.out _).mono ?_
 rintro en w2 ⟨rfl, hb⟩
 have hb2 := below_step (below_alloc (Below.refl w1.heap.size w1) (.cells #[.int .i64 99, .int .i64 0, .int .i64 98] 3)) hb
 replace HB := Aside0.mk (below_step HB.out hb2)
 replace HD := Aside0.mk (Kd.R_below HD.out hb2)
 clear hb hb2
 go_wp2_with fail
 have hb3 := below_alloc (Below.refl w2.heap.size w2) (.cells #[.string ⟨#[97, 98]⟩] 9)
 refine (sameTexts_calls Ad (some ⟨w2.heap.size, 0, none⟩) cd 1 [⟨#[97, 98]⟩] _ (Kd.C_below (Kd.R_reads' HD.out).2.2 hb3) (ST.out w2) (Kd.R_reads' HD.out).2.1 (by decide) (by decide)).mono ?_
 rintro en w3 ⟨rfl, hb⟩
 replace HB := Aside0.mk (below_step (below_step HB.out hb3) hb)
 clear hb hb3
 go_wp2_with fail
 refine (RK.out _).mono ?_
 rintro en w4 ⟨rfl, hb⟩
 replace HB := Aside0.mk (below_step (below_step HB.out (below_alloc (Below.refl _ _) _)) hb)
 clear hb
 go_wp2_with fail
 refine (CT.out _).mono ?_
 rintro en w5 ⟨v, rfl, hR, hb⟩
 obtain ⟨Ac, cc, rfl⟩ := Kd.R_slice hR
 replace HB := Aside0.mk (below_step (below_step HB.out (below_alloc (Below.refl _ _) _)) hb)
 clear hb hR
 go_wp2_with fail
 go_ret
 exact ⟨rfl, HB.out⟩
end Go.Proofs.YtkcpkecaliegfaaGreat.P
