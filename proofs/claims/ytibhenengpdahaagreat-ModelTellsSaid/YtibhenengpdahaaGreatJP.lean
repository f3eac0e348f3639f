/- Book's growSpots: each list grown, the lists as they were. Conditions: the lists are few and small, and the book's rows lie as told. -/
import Derived.Test.YtibhenengpdahaaGreatBkSpotsI
import Derived.Test.YtibhenengpdahaaGreatJO
section
set_option linter.unusedVariables false
set_option linter.unusedSimpArgs false
namespace Go.Proofs.YtibhenengpdahaaGreat.P
open Go.RowKit Go.Proofs.YtibhenengpdahaaGreatW.PrintWords Go.Proofs.YtibhenengpdahaaGreatW.PrintLast Go.Proofs.YtibhenengpdahaaGreatW.PrintMore

set_option maxRecDepth 100000 in
set_option maxHeartbeats 4000000 in
theorem growSpots_calls (bk : Nat) (A : Option Addr) (c : Nat) (us : List Value) (ms : List Nat) (base : Nat) (w : World) (h0 : w.cell? ⟨bk, 6, none⟩ = some (.slice A us.length c)) (hl : us.length ≤ 1000)
  (hA : Lists w A us) (hR : ∀ i, (h : i < us.length) → Kd.R k61 61 w base (fun _ => True) us[i] (marksOf mkSpots (i : Int) 0 (ms.getD i 0))) (hsep : ∀ i j, (hi : i < us.length) → (hj : j < us.length) → i ≠ j → ∀ k, us[i].ownBlock = some k → us[j].ownBlock ≠ some k)
  (hbk : ∀ i, (h : i < us.length) → us[i].ownBlock ≠ some bk) (hrow : ∀ i, (h : i < us.length) → ∀ ad, A = some ad → us[i].ownBlock ≠ some ad.block) (hs : ∀ i, ms.getD i 0 ≤ 900000) (hbase : base ≤ w.heap.size) :
  Calls Tryz.prog 56 #[.pointer (some ⟨bk, 0, none⟩)] w fun e w' => ∃ (Ag : Option Addr) (cg : Nat) (gs : List Value), e = .returned (.slice Ag us.length cg) ∧ gs.length = us.length ∧ Kd.R (Kd.raw 1) 30 w' base (fun _ => True) (.slice Ag us.length cg) (gs.map fun v => [v]) ∧
   (∀ i, (h : i < gs.length) → Kd.R k61 61 w' base (fun _ => True) gs[i] (marksOf mkSpots (i : Int) 0 (ms.getD i 0 + 72))) ∧ (∀ i, (h : i < us.length) → Kd.R k61 61 w' base (fun _ => True) us[i] (marksOf mkSpots (i : Int) 0 (ms.getD i 0))) ∧ PutKeep us w w' := by
 have H0 := Aside0.mk h0
 have HA := Aside0.mk hA
 have HSEP := Aside0.mk hsep
 have HBK := Aside0.mk hbk
 have HROW := Aside0.mk hrow
 have HS := Aside0.mk hs
 have HL := Aside0.mk hl
 have HBASE := Aside0.mk hbase
 have HLT := Aside0.mk (fun i h => Kd.R_lt (hR i h))
 have HR0 := Aside0.mk hR
 obtain ⟨n, hnn⟩ : ∃ n, us.length = n := ⟨_, rfl⟩
 have HNN := Aside0.mk hnn
 rw [hnn] at H0
 have HOut0 : Aside0 (Kd.R (Kd.raw 1) 30 w w.heap.size (fun _ => True) (.slice none 0 0) (([] : List Value).map fun v => [v])) := ⟨Kd.R_nil _ _ _ _ _⟩
 clear h0 hA hR hsep hbk hrow hs hl hnn hbase
 go_enter Tryz.func56, Tryz.ntmps56
 go_wp2_with fail
 go_loopw [3, 4] (fun out iv wr => ∃ gs : List Value, gs.length ≤ n ∧ iv = .int .i64 gs.length ∧ Aside0 (PutKeep us w wr) ∧ Aside0 (Kd.R (Kd.raw 1) 30 wr w.heap.size (fun _ => True) out (gs.map fun v => [v])) ∧
  Aside0 (∀ j, (h : j < us.length) → Kd.R k61 61 wr base (fun _ => True) us[j] (marksOf mkSpots (j : Int) 0 (ms.getD j 0))) ∧
  Aside0 (∀ j, (h : j < gs.length) → (hu : j < us.length) → Kd.R k61 61 wr base (fun _ => True) gs[j] (marksOf mkSpots (j : Int) 0 (ms.getD j 0 + 72)) ∧ (gs[j].ownBlock = us[j].ownBlock ∨ ∃ b, gs[j].ownBlock = some b ∧ w.heap.size ≤ b))) (fun _ iv _ => n - (intOf iv).toNat)
 case atStart => exact ⟨[], Nat.zero_le _, rfl, ⟨PutKeep.refl _ _⟩, HOut0, ⟨HR0.out⟩, ⟨fun j h => absurd h (Nat.not_lt_zero _)⟩⟩
 case round =>
  obtain ⟨gs, hi, rfl, HP, HO, HU, HG⟩ := hrel
  obtain ⟨i, hgi⟩ : ∃ i, gs.length = i := ⟨_, rfl⟩
  have HGI := Aside0.mk hgi
  rw [hgi] at hi ⊢
  clear hgi
  have g0 := HP.out.cell (a := ⟨bk, 6, none⟩) HBK.out H0.out
  obtain ⟨Ao, co, ho⟩ := Kd.R_slice HO.out
  rw [List.length_map, HGI.out] at ho
  subst ho
  by_cases hlt : i < n
  ·have hiu : i < us.length := by rw [HNN.out]; exact hlt
   have c1 : decide ((i : Int) < (n : Int)) = true := decide_eq_true (by omega)
   have c2 : decide (i < n) = true := decide_eq_true hlt
   have v1 : (0 ≤ (i : Int)) = True := eq_true (by omega)
   have v2 : ((i : Int) < (n : Int)) = True := eq_true (by omega)
   have v3 : IntKind.i64.wrap ((i : Int) + 1) = (i : Int) + 1 := IntWalk.i64_in _ (by have := HL.out; have := HNN.out; omega)
   obtain ⟨ad, hAe, x0⟩ := HA.out.at_ i hiu
   have hra : ∀ j, (h : j < us.length) → us[j].ownBlock ≠ some (ad.add i).block := by
    intro j h
    have : (ad.add i).block = ad.block := by unfold Addr.add; split <;> rfl
    rw [this]
    exact HROW.out j h ad hAe
   have x0 := HP.out.cell (a := ad.add i) hra x0
   obtain ⟨u, hu⟩ : ∃ u, us[i] = u := ⟨_, rfl⟩
   have HUE := Aside0.mk hu
   obtain ⟨m, hm⟩ : ∃ m, ms.getD i 0 = m := ⟨_, rfl⟩
   have HME := Aside0.mk hm
   have hRu := HU.out i hiu
   rw [hu, hm] at hRu
   rw [hu] at x0
   have hsm := HS.out i
   rw [hm] at hsm
   have HSM := Aside0.mk hsm
   have G0 : Aside0 (Grows k61 61 mkSpots wr wr base u u (i : Int) m (m + 0)) := ⟨Grows.start hRu (Nat.le_trans HBASE.out HP.out.size)⟩
   have HRU := Aside0.mk hRu
   subst hAe
   clear hra hu hm hRu hsm
   go_wp2_with fail
   clear g0 x0
   go_loopw [5, 6] (fun v iv wk => ∃ r : Nat, r ≤ 12 ∧ iv = .int .i64 r ∧ Aside0 (Grows k61 61 mkSpots wr wk base u v (i : Int) m (m + r))) (fun _ iv _ => 12 - (intOf iv).toNat)
   case atStart => exact ⟨0, Nat.zero_le _, rfl, G0⟩
   case round =>
    obtain ⟨r, hr, rfl, HGr⟩ := hrel
    obtain ⟨Av, cv, hv⟩ := Kd.R_slice HGr.out.cur
    rw [marks_len] at hv
    subst hv
    by_cases hr12 : r < 12
    ·have d1 : decide ((r : Int) < 12) = true := decide_eq_true (by omega)
     have d2 : decide (r < 12) = true := decide_eq_true hr12
     have d5 : IntKind.i64.wrap ((r : Int) + 1) = (r : Int) + 1 := IntWalk.i64_in _ (by omega)
     have MK := Aside0.mk (markSpots_calls i (m + r) 1 wr (by have := HL.out; have := HNN.out; omega) (by have := HSM.out; omega))
     go_wp2_with fail
     refine MK.out.mono ?_
     rintro en w1 ⟨v3, rfl, hR3, hb1⟩
     obtain ⟨A3, c3, rfl⟩ := Kd.R_slice hR3
     rw [marks_len] at hR3
     rw [marks_len]
     have hC3 := (Kd.R_reads' hR3).2.2
     rw [marks_len] at hC3
     obtain ⟨v', W', hrun, hgr⟩ := Grows.append flatSpots Tryz.underlying30 infoSpots (by decide) (by decide) (by decide) (HGr.out.below hb1) 1 (by decide) (by have := HSM.out; omega) A3 c3 hC3 30
     have HRUN := Aside0.mk hrun
     have HGn := Aside0.mk hgr
     clear hR3 hC3 hb1 hrun hgr MK
     go_wp2_with (first
      | ((with_reducible refine gate_builtin (b := .append) (xs := #[.tmp 27, .tmp 31]) rfl ?_); (refine append_event rfl (.tmp 27) (.tmp 31) 30 rfl rfl rfl HRUN.out ?_)))
     go_roundw
     case rel => exact ⟨r + 1, by omega, by go_num, HGn⟩
     case measure => simp [intOf]; omega
    ·obtain rfl : r = 12 := by omega
     have d1 : decide (((12 : Nat) : Int) < 12) = false := by decide
     have MK := Aside0.mk (markSpots_calls i (m + 12) 60 wr (by have := HL.out; have := HNN.out; omega) (by have := HSM.out; omega))
     go_wp2_with fail
     refine MK.out.mono ?_
     rintro en w1 ⟨v3, rfl, hR3, hb1⟩
     obtain ⟨A3, c3, rfl⟩ := Kd.R_slice hR3
     rw [marks_len] at hR3
     rw [marks_len]
     have hC3 := (Kd.R_reads' hR3).2.2
     rw [marks_len] at hC3
     obtain ⟨v', W', hrun, hgr⟩ := Grows.append flatSpots Tryz.underlying30 infoSpots (by decide) (by decide) (by decide) (HGr.out.below hb1) 60 (by decide) (by have := HSM.out; omega) A3 c3 hC3 30
     obtain ⟨Aw, cw, hw⟩ := Kd.R_slice hgr.cur
     obtain ⟨nw, hnw⟩ : ∃ nw, (marksOf mkSpots (i : Int) 0 (m + 12 + 60)).length = nw := ⟨_, rfl⟩
     rw [hnw] at hw
     subst hw
     have HRUN := Aside0.mk hrun
     have HGn := Aside0.mk hgr
     clear hR3 hC3 hb1 hrun hgr MK hnw
     have hO2 := Kd.R_grown2 HO.out rfl HGn.out.keep (fun k e1 e2 => types_ne lneSpots HO.out HRU.out k e2.symm e1)
     have hpk : PutKeep us w W' := HP.out.grown i hiu (by rw [HUE.out]; exact HGn.out.keep)
     have HO2 := Aside0.mk hO2
     have HPK := Aside0.mk hpk
     clear hO2 hpk
     go_wp2_with (first
      | ((with_reducible refine gate_builtin (b := .append) (xs := #[.tmp 34, .tmp 38]) rfl ?_); (refine append_event rfl (.tmp 34) (.tmp 38) 30 rfl rfl rfl HRUN.out ?_))
      | ((with_reducible refine gate_builtin (b := .append) (xs := #[.tmp 33, .tmp 40]) rfl ?_); at_builtin; refine Kd.R_append (Kd.raw 1) (w0 := W') w.heap.size rfl (.tmp 33) (.tmp 40) 42 30 (.slice none 0 0) 24 rfl Tryz.underlying42 infoSpotsL rfl Nat.one_pos (by decide) (.slice Ao i co) (gs.map fun v => [v]) [.slice Aw nw cw] [.slice Aw nw cw] (fun _ => True) (fun _ => False) rfl rfl ⟨rfl, rfl, fun u hu => by rw [List.mem_singleton.1 hu]; rfl⟩ (fun _ h => h.elim) (fun _ _ => trivial) HO2.out (Below.refl _ _) HPK.out.size (by rw [List.length_map, HGI.out]; have := HL.out; have := HNN.out; omega) ?_; intro out' w3 hOn hBn hGn hAtn; have HON := Aside0.mk hOn; have HGN := Aside0.mk hGn; clear hOn hBn hGn hAtn))
     have hstep : ∀ (x : Value) (L : List S61), Kd.R k61 61 _ base (fun _ => True) x L → (∀ k, u.ownBlock = some k → x.ownBlock = some k → False) → Kd.R k61 61 w3 base (fun _ => True) x L := fun x L hx hne => by
      have h2 := Kd.R_grown2 hx rfl HGn.out.keep (fun k e1 e2 => hne k e1 e2.symm)
      exact Kd.R_grown2 h2 rfl HGN.out (fun k e1 e2 => types_ne lneSpots HO2.out h2 k e1 e2.symm)
     have hU3 : ∀ j, (h : j < us.length) → Kd.R k61 61 w3 base (fun _ => True) us[j] (marksOf mkSpots (j : Int) 0 (ms.getD j 0)) := by
      intro j hj
      by_cases e : j = i
      ·subst e
       rw [HUE.out, HME.out]
       exact Kd.R_grown2 HGn.out.old rfl HGN.out (fun k e1 e2 => types_ne lneSpots HO2.out HGn.out.old k e1 e2.symm)
      ·exact hstep _ _ (HU.out j hj) (fun k e1 e2 => HSEP.out i j hiu hj (fun e' => e e'.symm) k (by rw [HUE.out]; exact e1) e2)
     have hG3 : ∀ j, (h : j < (gs ++ [Value.slice Aw nw cw]).length) → (hu : j < us.length) → Kd.R k61 61 w3 base (fun _ => True) (gs ++ [Value.slice Aw nw cw])[j] (marksOf mkSpots (j : Int) 0 (ms.getD j 0 + 72)) ∧ ((gs ++ [Value.slice Aw nw cw])[j].ownBlock = us[j].ownBlock ∨ ∃ b, (gs ++ [Value.slice Aw nw cw])[j].ownBlock = some b ∧ w.heap.size ≤ b) := by
      intro j hj hju
      by_cases hjg : j < gs.length
      ·rw [List.getElem_append_left hjg]
       obtain ⟨h1, h2⟩ := HG.out j hjg hju
       refine ⟨hstep _ _ h1 (fun k e1 e2 => ?_), h2⟩
       rcases h2 with h2 | ⟨b, h2, hle⟩
       ·exact HSEP.out i j hiu hju (by have := HGI.out; omega) k (by rw [HUE.out]; exact e1) (by rw [← h2]; exact e2)
       ·rw [h2] at e2
        injection e2 with e2
        have := HLT.out i hiu k (by rw [HUE.out]; exact e1)
        omega
      ·have hji : j = i := by rw [List.length_append, List.length_singleton] at hj; have := HGI.out; omega
       have hjl : j = gs.length := by have := HGI.out; omega
       have hget : (gs ++ [Value.slice Aw nw cw])[j] = Value.slice Aw nw cw := by
        rw [List.getElem_append_right (by omega)]
        simp
       rw [hget]
       have hms : ms.getD j 0 = m := by rw [hji]; exact HME.out
       have husj : us[j] = u := by
        have h1 := HUE.out
        subst hji
        exact h1
       refine ⟨?_, ?_⟩
       ·rw [hms, hji]
        exact Kd.R_grown2 HGn.out.cur rfl HGN.out (fun k e1 e2 => types_ne lneSpots HO2.out HGn.out.cur k e1 e2.symm)
       ·rw [husj]
        rcases HGn.out.at_ with ⟨A1, n1, c1, n1', e1, e2⟩ | ⟨b, hb, hle⟩
        ·left
         rw [e1, e2]
         cases A1 <;> rfl
        ·exact Or.inr ⟨b, hb, Nat.le_trans HP.out.size hle⟩
     have hO3 : Kd.R (Kd.raw 1) 30 w3 w.heap.size (fun _ => True) out' ((gs ++ [Value.slice Aw nw cw]).map fun v => [v]) := by
      rw [List.map_append]
      exact HON.out
     have hP3 : PutKeep us w w3 := HPK.out.own HGN.out (fun k hk => Kd.R_base HO2.out k hk)
     have HU3 := Aside0.mk hU3
     have HG3 := Aside0.mk hG3
     have HO3 := Aside0.mk hO3
     have HP3 := Aside0.mk hP3
     have hlen3 : (gs ++ [Value.slice Aw nw cw]).length = i + 1 := by rw [List.length_append, HGI.out]; rfl
     have HLEN3 := Aside0.mk hlen3
     clear hstep hU3 hG3 hO3 hP3 hlen3
     go_roundw
     case rel => exact ⟨gs ++ [Value.slice Aw nw cw], by have := HLEN3.out; omega, by rw [HLEN3.out]; rfl, HP3, HO3, HU3, HG3⟩
     case measure => simp [intOf]; omega
  ·obtain rfl : i = n := by omega
   have c1 : decide ((i : Int) < (i : Int)) = false := decide_eq_false (by omega)
   go_wp2_with fail
   go_ret
   exact ⟨Ao, co, gs, by rw [HNN.out]; rfl, by rw [HNN.out]; exact HGI.out, by rw [HNN.out]; exact Kd.R_lower HO.out HBASE.out, fun j h => (HG.out j h (by rw [HNN.out]; have := HGI.out; omega)).1, fun j h => HU.out j h, HP.out⟩
end Go.Proofs.YtibhenengpdahaaGreat.P

end
section
set_option linter.unusedVariables false
set_option linter.unusedSimpArgs false
namespace Go.Proofs.YtibhenengpdahaaGreat.P
open Go.RowKit Go.Proofs.YtibhenengpdahaaGreatW.PrintWords Go.Proofs.YtibhenengpdahaaGreatW.PrintLast Go.Proofs.YtibhenengpdahaaGreatW.PrintMore

def addSpots.T2 : Bool × List (List Nat × List Nat) := (true, [([], []), ([], []), ([1], [1]), ([2], [2]), ([3], [3]), ([], []), ([5], [5]), ([6], [6]), ([4, 7, 6], [4, 7]), ([0, 0, 1, 2, 3, 4, 5, 6, 7, 8], [0]), ([9, 0, 1, 2, 3, 4, 5, 6, 7, 8], [9]), ([10, 8, 8, 0, 1, 2, 3, 4, 5, 6, 7, 8], [8, 10])])
def addSpots.B2 : List Nat := [0, 0, 2, 6, 14, 0, 32, 96, 254, 511, 1023, 2047]
theorem addSpots.tab2 : rtab .any (opsOf Tryz.f10 2) = addSpots.T2 := by kernel_rfl
theorem addSpots.bits2 : waitsOk addSpots.T2.2 addSpots.B2 = true := by kernel_rfl
set_option maxRecDepth 100000 in
set_option maxHeartbeats 4000000 in
theorem addSpots_calls (bk base : Nat) (e0 e1 e2 e3 e4 e5 o0 o1 : Value) (rest us us' : List Value) (a : Option Addr) (k : Nat) (xs : List S61) (w : World) (hblk : w.heap[bk]? = some (.cells (e0 :: e1 :: e2 :: e3 :: e4 :: e5 :: o0 :: o1 :: rest).toArray 48 (0, 0)))
  (h0 : Kd.R (Kd.raw 1) 30 w base (fun _ => True) o0 (us.map fun v => [v])) (h1 : Kd.R (Kd.raw 1) 30 w base (fun _ => True) o1 (us'.map fun v => [v])) (hsep : ∀ q, o0.ownBlock = some q → o1.ownBlock ≠ some q) (hu : Kd.R k61 61 w base (fun _ => True) (.slice a xs.length k) xs)
  (hn : us.length < 250) (hn' : us'.length < 250) (hbase : base ≤ w.heap.size) (hbk : base ≤ bk) (hxl : xs.length ≤ 900000) :
  Calls Tryz.prog 10 #[.pointer (some ⟨bk, 0, none⟩), .slice a xs.length k] w fun e w' => ∃ (p0 p1 u' : Value), e = .returned (.tuple #[]) ∧ w'.heap[bk]? = some (.cells (e0 :: e1 :: e2 :: e3 :: e4 :: e5 :: p0 :: p1 :: rest).toArray 48 (0, 0)) ∧
   Kd.R (Kd.raw 1) 30 w' base (fun _ => True) p0 ((us ++ [Value.slice a xs.length k]).map fun v => [v]) ∧ Kd.R (Kd.raw 1) 30 w' base (fun _ => True) p1 ((us' ++ [u']).map fun v => [v]) ∧ (∀ q, p0.ownBlock = some q → p1.ownBlock ≠ some q) ∧
   Kd.R k61 61 w' w.heap.size (fun _ => True) u' xs ∧ AddKeep bk o0 o1 w w' := by
 have HBLK := Aside0.mk hblk
 have H0 := Aside0.mk h0
 have H1 := Aside0.mk h1
 have HSEP := Aside0.mk hsep
 have HBASE := Aside0.mk hbase
 have HN := Aside0.mk hn
 have HN' := Aside0.mk hn'
 have HU := Aside0.mk hu
 have CP := Aside0.mk (fun w' (hC : Kd.C k61 w' a xs.length xs) => copySpots_calls a k xs w' hC (Kd.R_reads' hu).2.1 hxl)
 obtain ⟨Ao, co, rfl⟩ := Kd.R_slice h0
 rw [List.length_map] at hblk H0 HBLK h0 HSEP ⊢
 have e0 : (Value.slice Ao us.length co).ownBlock ≠ some bk := block_ne (by decide) h0 hblk
 have e1 : o1.ownBlock ≠ some bk := block_ne (by decide) h1 hblk
 have E0 := Aside0.mk e0
 have E1 := Aside0.mk e1
 have c0 : w.cell? ⟨bk, 6, none⟩ = some (.slice Ao us.length co) := (blk_cell hblk 6).trans rfl
 have d1 : decide ((us.length : Int) < 250) = true := decide_eq_true (by omega)
 have d2 : decide (us.length < 250) = true := decide_eq_true hn
 clear hblk h0 h1 hsep hbase hn hn' hu e0 e1
 go_enter Tryz.func10, Tryz.ntmps10
 go_wp2_with (first
  | ((with_reducible refine gate_builtin (b := .append) (xs := #[.tmp 14, .tmp 16]) rfl ?_); at_builtin; refine Kd.R_append (Kd.raw 1) (w0 := w) base rfl (.tmp 14) (.tmp 16) 42 30 (.slice none 0 0) 24 rfl Tryz.underlying42 infoSpotsL rfl Nat.one_pos (by decide) (.slice Ao us.length co) (us.map fun v => [v]) [.slice a xs.length k] [.slice a xs.length k] (fun _ => True) (fun _ => False) rfl rfl ⟨rfl, rfl, fun u hu => by rw [List.mem_singleton.1 hu]; rfl⟩ (fun _ h => h.elim) (fun _ _ => trivial) H0.out (Below.refl _ _) HBASE.out (by rw [List.length_map]; have := HN.out; omega) ?_; intro p0 w1 hOn hBn hGn hAtn; obtain ⟨A0', c0', hp0⟩ := Kd.R_slice hOn; obtain ⟨n0', hn0⟩ : ∃ q, (us.map (fun v => [v]) ++ [[Value.slice a xs.length k]]).length = q := ⟨_, rfl⟩; rw [hn0] at hp0; subst hp0; have HON := Aside0.mk hOn; have HGN := Aside0.mk hGn; have HAT := Aside0.mk hAtn; have hb1 := blk_grown HBLK.out hGn E0.out.symm; have HB1 := Aside0.mk hb1; have z0 : w1.cell? ⟨bk, 6, none⟩ = some (.slice Ao us.length co) := (blk_cell hb1 6).trans rfl; have z1 := blk_frozen hb1 6; clear hOn hBn hGn hAtn hb1 hn0))
 obtain ⟨w2, hw2⟩ : ∃ x, w1.setCell ⟨bk, 6, none⟩ (.slice A0' n0' c0') = x := ⟨_, rfl⟩
 have hblk2 : w2.heap[bk]? = some (.cells (e0 :: e1 :: e2 :: e3 :: e4 :: e5 :: Value.slice A0' n0' c0' :: o1 :: rest).toArray 48 (0, 0)) := by rw [← hw2]; exact blk_set HB1.out 6 _
 have hP0 : Kd.R (Kd.raw 1) 30 w2 base (fun _ => True) (.slice A0' n0' c0') (us.map (fun v => [v]) ++ [[Value.slice a xs.length k]]) := by rw [← hw2]; exact Kd.R_set HON.out HB1.out (by intro q hq; rw [show q = 30 by simpa [Kd.raw] using hq]; decide) 6 _
 have h1a := Kd.R_grown2 H1.out rfl HGN.out (fun q e1 e2 => HSEP.out q e1 e2.symm)
 have hP1 : Kd.R (Kd.raw 1) 30 w2 base (fun _ => True) o1 (us'.map fun v => [v]) := by rw [← hw2]; exact Kd.R_set h1a HB1.out (by intro q hq; rw [show q = 30 by simpa [Kd.raw] using hq]; decide) 6 _
 have hUa := Kd.R_grown2 HU.out rfl HGN.out (fun q e1 e2 => types_ne lneSpots H0.out HU.out q e1 e2.symm)
 have hU2 : Kd.R k61 61 w2 base (fun _ => True) (.slice a xs.length k) xs := by rw [← hw2]; exact Kd.R_set hUa HB1.out (by intro q hq; rw [flatSpots.E] at hq; rw [List.mem_singleton.1 hq]; decide) 6 _
 have hK2 : AddKeep bk (.slice Ao us.length co) o1 w w2 := by
  rw [← hw2]
  exact ⟨HGN.out.os, HGN.out.tape, HGN.out.output, by simpa [World.setCell] using HGN.out.size, fun q hq e1 e2 e3 => (Below.heap_setCell w1 ⟨bk, 6, none⟩ _ q e1).trans (HGN.out.block q hq (fun e => e2 e.symm))⟩
 have hsz2 : w2.heap.size = w1.heap.size := by rw [← hw2]; simp [World.setCell]
 have hS2 : w2.cell? ⟨bk, 7, none⟩ = some o1 := (blk_cell hblk2 7).trans rfl
 have HBLK2 := Aside0.mk hblk2
 have HP0 := Aside0.mk hP0
 have HP1 := Aside0.mk hP1
 have HU2 := Aside0.mk hU2
 have HK2 := Aside0.mk hK2
 have HSZ2 := Aside0.mk hsz2
 rw [hw2]
 clear hw2 hblk2 hP0 h1a hP1 hUa hU2 hK2 hsz2 z0 z1 c0
 refine start_ (n := 12) (S := fun w' => w'.cell? ⟨bk, 7, none⟩ = some o1) (ds := [11]) (bs 12 0) (by kernel_rfl) rfl rfl hS2 (fun hHeld => ?_)
 refine with_tabW addSpots.tab2 addSpots.bits2 (fun HT_ HW_ => ?_)
 iterate 6
  refine tk_ (N := some _) (v := ?_) (a' := ?_) rfl rfl (take_ofW HT_.out HW_.out (by kernel_rfl)) (fun _ _ _ h => h) (Or.inl ⟨by rfl, ?_⟩) hHeld ?_ ?_
  rotate_left
  ·intro w' s
   go_simp
   with_reducible rfl
  rotate_left
  ·simp only [Act.put, List.setIfInBounds_toArray, List.set_cons_zero, List.set_cons_succ, i64_w, i32_w]
   rfl
 refine one_ (i := 6) (N := some 26) (bs 12 127) rfl rfl (one_of HT_.out (by kernel_rfl)) (by decide) (fun K hK => ?_)
 refine goes_ Tryz.func34 (by kernel_rfl) rfl #[.slice a xs.length k] (by rfl) rfl rfl (by (try simp only [List.map_toArray, List.map_cons, List.map_nil]); first | done | rfl | (simp only [List.length_drop, List.length_take]; rfl)) ?_
 refine (CP.out _ (Kd.R_reads' (Kd.R_drew HU2.out)).2.2).mono ?_
 rintro en w3 ⟨u', rfl, hRu, hb⟩
 refine ⟨_, rfl, ?_⟩
 obtain ⟨A3, c3, rfl⟩ := Kd.R_slice hRu
 have HB23 := Aside0.mk (show Below w2.heap.size w2 w3 from below_step (below_drew1 (Below.refl _ _)) hb)
 have HRU := Aside0.mk hRu
 refine hK.out _ _ (pw_cell_below hb hHeld) (fun hHeld => ?_)
 clear hRu hb
 clear hK K
 refine norm_ (a' := ?_) ?_ ?_
 rotate_left
 ·show Act.put _ (some 26) _ = _
  simp only [Act.put, List.setIfInBounds_toArray, List.set_cons_zero, List.set_cons_succ, i64_w, i32_w]
  rfl
 refine one_ (i := 7) (N := some 27) (bs 12 255) rfl rfl (one_of HT_.out (by kernel_rfl)) (by decide) (fun K hK => ?_)
 refine value_ (v := .slice (some ⟨w3.heap.size, 0, none⟩) 1 1) (w1 := w3.alloc (.cells #[.slice A3 xs.length c3] 30)) (by rfl) rfl (by first | (go_simp; done) | (go_simp; rfl)) (hK.out _ _ (pw_cell_below (below_alloc (Below.refl _ _) _) hHeld) (fun hHeld => ?_))
 clear hK K
 refine norm_ (a' := ?_) ?_ ?_
 rotate_left
 ·show Act.put _ (some 27) _ = _
  simp only [Act.put, List.setIfInBounds_toArray, List.set_cons_zero, List.set_cons_succ, i64_w, i32_w]
  rfl
 refine one_ (i := 8) (N := some 28) (bs 12 511) rfl rfl (one_of HT_.out (by kernel_rfl)) (by decide) (fun K hK => ?_)
 refine Kd.R_append_step (Kd.raw 1) (w0 := w3) base (by rfl) (.tmp 24) (.tmp 27) 42 30 (.slice none 0 0) 24 rfl Tryz.underlying42 infoSpotsL rfl Nat.one_pos (by decide) o1 (us'.map fun v => [v]) [.slice A3 xs.length c3] [.slice A3 xs.length c3] (fun _ => True) (fun _ => False) rfl rfl ⟨rfl, rfl, fun u hu => by rw [List.mem_singleton.1 hu]; rfl⟩ (fun _ h => h.elim) (fun _ _ => trivial) (Kd.R_below HP1.out HB23.out) (Below.refl _ _) (Nat.le_trans HBASE.out (Nat.le_trans HK2.out.size HB23.out.size)) (by rw [List.length_map]; have := HN'.out; omega) ?_
 intro p1 w4 hO4 hB4 hG4 hA4
 obtain ⟨A1', c1', hp1⟩ := Kd.R_slice hO4
 obtain ⟨n1', hn1⟩ : ∃ q, (us'.map (fun v => [v]) ++ [[Value.slice A3 xs.length c3]]).length = q := ⟨_, rfl⟩
 rw [hn1] at hp1
 subst hp1
 have HO4 := Aside0.mk hO4
 have HG4 := Aside0.mk hG4
 have HA4 := Aside0.mk hA4
 have hb4 := blk_grown (blk_below HBLK2.out HB23.out) hG4 E1.out.symm
 have HB4 := Aside0.mk hb4
 refine hK.out _ _ ((blk_cell hb4 7).trans rfl) (fun hHeld => ?_)
 clear hO4 hB4 hG4 hA4 hb4 hn1
 clear hK K
 refine norm_ (a' := ?_) ?_ ?_
 rotate_left
 ·show Act.put _ (some 28) _ = _
  simp only [Act.put, List.setIfInBounds_toArray, List.set_cons_zero, List.set_cons_succ, i64_w, i32_w]
  rfl
 iterate 2
  refine tk_ (N := some _) (v := ?_) (a' := ?_) rfl rfl (take_ofW HT_.out HW_.out (by kernel_rfl)) (fun _ _ _ h => h) (Or.inl ⟨by rfl, ?_⟩) hHeld ?_ ?_
  rotate_left
  ·intro w' s
   go_simp
   with_reducible rfl
  rotate_left
  ·simp only [Act.put, List.setIfInBounds_toArray, List.set_cons_zero, List.set_cons_succ, i64_w, i32_w]
   rfl
 refine last_ (i := 11) (N := none) (bs 12 4095) rfl rfl (one_of HT_.out (by kernel_rfl)) (by decide) (fun K hK => ?_)
 have z0 : w4.cell? ⟨bk, 7, none⟩ = some o1 := (blk_cell HB4.out 7).trans rfl
 have z1 := blk_frozen HB4.out 7
 obtain ⟨w5, hw5⟩ : ∃ x, w4.setCell ⟨bk, 7, none⟩ (.slice A1' n1' c1') = x := ⟨_, rfl⟩
 refine skip_ (w1 := w4.setCell ⟨bk, 7, none⟩ (.slice A1' n1' c1')) (by rfl) rfl (by first | (go_simp; done) | (go_simp; rfl)) (hK.out _ _ ?_)
 rw [hw5]
 have HW5 := Aside0.mk hw5
 clear hw5 z0 z1 hHeld
 clear hK K
 refine done_ (done_of HT_.out (by kernel_rfl)) ?_
 clear hHeld
 go_end0
 have hs0 : ∀ q, (Value.slice A0' n0' c0').ownBlock = some q → o1.ownBlock = some q → False := by
  intro q e1 e2
  rcases HAT.out with h | ⟨b, h, hle⟩
  ·exact HSEP.out q (by rw [← h]; exact e1) e2
  ·rw [h] at e1
   injection e1 with e1
   have := Kd.R_lt H1.out q e2
   omega
 have hP0a := Kd.R_below HP0.out HB23.out
 have hP0b := Kd.R_grown2 hP0a rfl HG4.out (fun q e1 e2 => hs0 q e2.symm e1)
 have hUb := Kd.R_grown2 HRU.out rfl HG4.out (fun q e1 e2 => types_ne lneSpots (Kd.R_below HP1.out HB23.out) HRU.out q e1 e2.symm)
 have hw2le : w.heap.size ≤ w2.heap.size := HK2.out.size
 refine ⟨.slice A0' n0' c0', .slice A1' n1' c1', .slice A3 xs.length c3, rfl, ?_, ?_, ?_, ?_, ?_, ?_⟩
 ·rw [← HW5.out]
  exact blk_set HB4.out 7 _
 ·rw [List.map_append, ← HW5.out]
  exact Kd.R_set hP0b HB4.out (by intro q hq; rw [show q = 30 by simpa [Kd.raw] using hq]; decide) 7 _
 ·rw [List.map_append, ← HW5.out]
  exact Kd.R_set HO4.out HB4.out (by intro q hq; rw [show q = 30 by simpa [Kd.raw] using hq]; decide) 7 _
 ·intro q e1 e2
  rcases HA4.out with h | ⟨b, h, hle⟩
  ·exact hs0 q e1 (by rw [← h]; exact e2)
  ·rw [h] at e2
   injection e2 with e2
   have := Kd.R_lt hP0a q e1
   omega
 ·rw [← HW5.out]
  exact Kd.R_lower (Kd.R_set hUb HB4.out (by intro q hq; rw [flatSpots.E] at hq; rw [List.mem_singleton.1 hq]; decide) 7 _) hw2le
 ·rw [← HW5.out]
  refine ⟨?_, ?_, ?_, ?_, fun q hq e1 e2 e3 => ?_⟩
  ·exact HG4.out.os.trans (HB23.out.os.trans HK2.out.os)
  ·exact HG4.out.tape.trans (HB23.out.tape.trans HK2.out.tape)
  ·exact HG4.out.output.trans (HB23.out.output.trans HK2.out.output)
  ·have h1 : w3.heap.size ≤ w4.heap.size := HG4.out.size
   have h2 : w2.heap.size ≤ w3.heap.size := HB23.out.size
   have h3 : (w4.setCell ⟨bk, 7, none⟩ (.slice A1' n1' c1')).heap.size = w4.heap.size := by simp [World.setCell]
   omega
  ·have h2 : w2.heap.size ≤ w3.heap.size := HB23.out.size
   rw [Below.heap_setCell w4 ⟨bk, 7, none⟩ _ q e1, HG4.out.block q (by omega) (fun e => e3 e.symm), HB23.out.block q (by omega)]
   exact HK2.out.far q hq e1 e2 e3
end Go.Proofs.YtibhenengpdahaaGreat.P

end
