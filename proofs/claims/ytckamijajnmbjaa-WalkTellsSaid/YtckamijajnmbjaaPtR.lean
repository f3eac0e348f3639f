/- Book's growPoints: each list grown, the lists as they were. Conditions: the lists hold marks, each its own, apart from each other; they are few and small. -/
import Derived.Test.YtckamijajnmbjaaPtG
set_option linter.unusedVariables false
set_option linter.unusedSimpArgs false
namespace Go.Proofs.Ytckamijajnmbjaa.P
open Go.RowKit Go.Proofs.YtckamijajnmbjaaW.PrintWords Go.Proofs.YtckamijajnmbjaaW.PrintLast Go.Proofs.YtckamijajnmbjaaW.PrintMore

theorem PutKeep.own {us : List Value} {w w1 w2 : World} (h : PutKeep us w w1) {row : Option Nat} (hg : w1.grownBy w2 row) (hr : ∀ k, row = some k → w.heap.size ≤ k) : PutKeep us w w2 :=
  ⟨hg.os.trans h.os, hg.tape.trans h.tape, hg.output.trans h.output, Nat.le_trans h.size hg.size, fun q hq hj => (hg.block q (Nat.lt_of_lt_of_le hq h.size) (fun e => by have := hr q e.symm; omega)).trans (h.far q hq hj)⟩
theorem outs_ne {W : World} {b b' : Nat} {out u : Value} {X : List (List Value)} {Y : List (Int × Int)} (h1 : Kd.R (Kd.raw 1) 30 W b (fun _ => True) out X) (h2 : Kd.R kQ 23 W b' (fun _ => True) u Y) (k : Nat) (e1 : out.ownBlock = some k) (e2 : u.ownBlock = some k) : False := by
  obtain ⟨_, o1⟩ := Kd.R_own h1
  obtain ⟨_, o2⟩ := Kd.R_own h2
  obtain ⟨c1, g1⟩ := own_typed o1 k e1
  obtain ⟨c2, g2⟩ := own_typed o2 k e2
  rw [g1] at g2
  injection g2 with g2
  injection g2 with _ h3
  exact absurd h3 (by decide)
theorem lists_of_raw {W : World} {b : Nat} {A : Option Addr} {n c : Nat} {gs : List Value} (h : Kd.R (Kd.raw 1) 30 W b (fun _ => True) (.slice A n c) (gs.map fun v => [v])) : n = gs.length ∧ n ≤ c ∧ Lists W A gs := by
  obtain ⟨h1, h2, h3⟩ := Kd.R_reads' h
  rw [List.length_map] at h1 h3
  refine ⟨h1, h2, ⟨fun i hi => ?_⟩⟩
  obtain ⟨_, _, hc⟩ := h3
  obtain ⟨ad, hA, hcell⟩ := hc (by omega)
  obtain ⟨cs, hl, ⟨rfl, _⟩, hu⟩ := hcell i [gs[i]] (by rw [List.getElem?_map, List.getElem?_eq_getElem hi]; rfl)
  have := hu 0 gs[i] rfl
  exact ⟨ad, hA, by simpa [Kd.raw] using this⟩
theorem readsP_of_R {W : World} {b : Nat} {u : Value} {xs : List (Int × Int)} (h : Kd.R kQ 23 W b (fun _ => True) u xs) : ReadsP W u xs := by
  obtain ⟨A, c, rfl⟩ := Kd.R_slice h
  exact ⟨A, c, rfl, (Kd.R_reads' h).2.1, (Kd.R_reads' h).2.2⟩
theorem infoLists : ((Try.prog).info? 30).map (fun i => (i.zero, i.size, i.bytes)) = some (some (.slice none 0 0), 1, 24) := by kernel_rfl
set_option maxRecDepth 100000 in
set_option maxHeartbeats 4000000 in
theorem growPoints_calls (bk : Nat) (A : Option Addr) (c : Nat) (us : List Value) (ms : List Nat) (base : Nat) (w : World) (h0 : w.cell? ⟨bk, 10, none⟩ = some (.slice A us.length c)) (hl : us.length ≤ 1000)
    (hA : Lists w A us) (hR : ∀ i, (h : i < us.length) → Kd.R kQ 23 w base (fun _ => True) us[i] (marksP (i : Int) 0 (ms.getD i 0))) (hsep : ∀ i j, (hi : i < us.length) → (hj : j < us.length) → i ≠ j → ∀ k, us[i].ownBlock = some k → us[j].ownBlock ≠ some k)
    (hbk : ∀ i, (h : i < us.length) → us[i].ownBlock ≠ some bk) (hrow : ∀ i, (h : i < us.length) → ∀ ad, A = some ad → us[i].ownBlock ≠ some ad.block) (hs : ∀ i, ms.getD i 0 ≤ 900000) (hbase : base ≤ w.heap.size) :
    Calls Try.prog 53 #[.pointer (some ⟨bk, 0, none⟩)] w fun e w' => ∃ (Ag : Option Addr) (cg : Nat) (gs : List Value), e = .returned (.slice Ag us.length cg) ∧ gs.length = us.length ∧ us.length ≤ cg ∧ Lists w' Ag gs ∧
      (∀ i, (h : i < gs.length) → ReadsP w' gs[i] (marksP (i : Int) 0 (ms.getD i 0 + 72))) ∧ (∀ i, (h : i < us.length) → ReadsP w' us[i] (marksP (i : Int) 0 (ms.getD i 0))) ∧ PutKeep us w w' := by
  have H0 := Aside0.mk h0
  have HA := Aside0.mk hA
  have HSEP := Aside0.mk hsep
  have HBK := Aside0.mk hbk
  have HROW := Aside0.mk hrow
  have HS := Aside0.mk hs
  have HL := Aside0.mk hl
  have HBASE := Aside0.mk hbase
  have HLT := Aside0.mk (fun i h => Kd.R_lt (hR i h))
  have HR0 := Aside0.mk hR
  obtain ⟨n, hnn⟩ : ∃ n, us.length = n := ⟨_, rfl⟩
  have HNN := Aside0.mk hnn
  rw [hnn] at H0
  have HOut0 : Aside0 (Kd.R (Kd.raw 1) 30 w w.heap.size (fun _ => True) (.slice none 0 0) (([] : List Value).map fun v => [v])) := ⟨Kd.R_nil _ _ _ _ _⟩
  clear h0 hA hR hsep hbk hrow hs hl hnn hbase
  go_enter Try.func53, Try.ntmps53
  go_wp2_with fail
  go_loopw [3, 4] (fun out iv wr => ∃ gs : List Value, gs.length ≤ n ∧ iv = .int .i64 gs.length ∧ Aside0 (PutKeep us w wr) ∧ Aside0 (Kd.R (Kd.raw 1) 30 wr w.heap.size (fun _ => True) out (gs.map fun v => [v])) ∧
    Aside0 (∀ j, (h : j < us.length) → Kd.R kQ 23 wr base (fun _ => True) us[j] (marksP (j : Int) 0 (ms.getD j 0))) ∧
    Aside0 (∀ j, (h : j < gs.length) → (hu : j < us.length) → Kd.R kQ 23 wr base (fun _ => True) gs[j] (marksP (j : Int) 0 (ms.getD j 0 + 72)) ∧ (gs[j].ownBlock = us[j].ownBlock ∨ ∃ b, gs[j].ownBlock = some b ∧ w.heap.size ≤ b))) (fun _ iv _ => n - (intOf iv).toNat)
  case atStart => exact ⟨[], Nat.zero_le _, rfl, ⟨PutKeep.refl _ _⟩, HOut0, ⟨HR0.out⟩, ⟨fun j h => absurd h (Nat.not_lt_zero _)⟩⟩
  case round =>
    obtain ⟨gs, hi, rfl, HP, HO, HU, HG⟩ := hrel
    obtain ⟨i, hgi⟩ : ∃ i, gs.length = i := ⟨_, rfl⟩
    have HGI := Aside0.mk hgi
    rw [hgi] at hi ⊢
    clear hgi
    have g0 := HP.out.cell (a := ⟨bk, 10, none⟩) HBK.out H0.out
    obtain ⟨Ao, co, ho⟩ := Kd.R_slice HO.out
    rw [List.length_map, HGI.out] at ho
    subst ho
    by_cases hlt : i < n
    · have hiu : i < us.length := by rw [HNN.out]; exact hlt
      have c1 : decide ((i : Int) < (n : Int)) = true := decide_eq_true (by omega)
      have c2 : decide (i < n) = true := decide_eq_true hlt
      have v1 : (0 ≤ (i : Int)) = True := eq_true (by omega)
      have v2 : ((i : Int) < (n : Int)) = True := eq_true (by omega)
      have v3 : IntKind.i64.wrap ((i : Int) + 1) = (i : Int) + 1 := IntWalk.i64_in _ (by have := HL.out; have := HNN.out; omega)
      obtain ⟨ad, hAe, x0⟩ := HA.out.at_ i hiu
      have hra : ∀ j, (h : j < us.length) → us[j].ownBlock ≠ some (ad.add i).block := by
        intro j h
        have : (ad.add i).block = ad.block := by unfold Addr.add; split <;> rfl
        rw [this]
        exact HROW.out j h ad hAe
      have x0 := HP.out.cell (a := ad.add i) hra x0
      obtain ⟨u, hu⟩ : ∃ u, us[i] = u := ⟨_, rfl⟩
      have HUE := Aside0.mk hu
      obtain ⟨m, hm⟩ : ∃ m, ms.getD i 0 = m := ⟨_, rfl⟩
      have HME := Aside0.mk hm
      have hRu := HU.out i hiu
      rw [hu, hm] at hRu
      rw [hu] at x0
      have hsm := HS.out i
      rw [hm] at hsm
      have HSM := Aside0.mk hsm
      have G0 : Aside0 (Grows wr wr base u u (i : Int) m (m + 0)) := ⟨Grows.start hRu (Nat.le_trans HBASE.out HP.out.size)⟩
      have HRU := Aside0.mk hRu
      subst hAe
      clear hra hu hm hRu hsm
      go_wp2_with fail
      clear g0 x0
      go_loopw [5, 6] (fun v iv wk => ∃ r : Nat, r ≤ 12 ∧ iv = .int .i64 r ∧ Aside0 (Grows wr wk base u v (i : Int) m (m + r))) (fun _ iv _ => 12 - (intOf iv).toNat)
      case atStart => exact ⟨0, Nat.zero_le _, rfl, G0⟩
      case round =>
        obtain ⟨r, hr, rfl, HGr⟩ := hrel
        obtain ⟨Av, cv, hv⟩ := Kd.R_slice HGr.out.cur
        rw [marksP_len] at hv
        subst hv
        by_cases hr12 : r < 12
        · have d1 : decide ((r : Int) < 12) = true := decide_eq_true (by omega)
          have d2 : decide (r < 12) = true := decide_eq_true hr12
          have d5 : IntKind.i64.wrap ((r : Int) + 1) = (r : Int) + 1 := IntWalk.i64_in _ (by omega)
          have MK := Aside0.mk (markPoints_calls (i : Int) (m + r) 1 wr (by omega) (by have := HL.out; have := HNN.out; omega) (by have := HSM.out; omega))
          go_wp2_with fail
          refine MK.out.mono ?_
          rintro en w1 ⟨v3, rfl, hR3, hb1⟩
          obtain ⟨A3, c3, rfl⟩ := Kd.R_slice hR3
          rw [marksP_len] at hR3
          rw [marksP_len]
          have hC3 := (Kd.R_reads' hR3).2.2
          rw [marksP_len] at hC3
          obtain ⟨v', W', hrun, hgr⟩ := (HGr.out.below hb1).append 1 (by decide) (by have := HSM.out; omega) A3 c3 hC3 30
          have HRUN := Aside0.mk hrun
          have HGn := Aside0.mk hgr
          clear hR3 hC3 hb1 hrun hgr MK
          go_wp2_with (first
            | ((with_reducible refine gate_builtin (b := .append) (xs := #[.tmp 27, .tmp 31]) rfl ?_); (refine append_event rfl (.tmp 27) (.tmp 31) 30 rfl rfl rfl HRUN.out ?_)))
          go_roundw
          case rel => exact ⟨r + 1, by omega, by go_num, HGn⟩
          case measure => simp [intOf]; omega
        · obtain rfl : r = 12 := by omega
          have d1 : decide (((12 : Nat) : Int) < 12) = false := by decide
          have MK := Aside0.mk (markPoints_calls (i : Int) (m + 12) 60 wr (by omega) (by have := HL.out; have := HNN.out; omega) (by have := HSM.out; omega))
          go_wp2_with fail
          refine MK.out.mono ?_
          rintro en w1 ⟨v3, rfl, hR3, hb1⟩
          obtain ⟨A3, c3, rfl⟩ := Kd.R_slice hR3
          rw [marksP_len] at hR3
          rw [marksP_len]
          have hC3 := (Kd.R_reads' hR3).2.2
          rw [marksP_len] at hC3
          obtain ⟨v', W', hrun, hgr⟩ := (HGr.out.below hb1).append 60 (by decide) (by have := HSM.out; omega) A3 c3 hC3 30
          obtain ⟨Aw, cw, hw⟩ := Kd.R_slice hgr.cur
          obtain ⟨nw, hnw⟩ : ∃ nw, (marksP (i : Int) 0 (m + 12 + 60)).length = nw := ⟨_, rfl⟩
          rw [hnw] at hw
          subst hw
          have HRUN := Aside0.mk hrun
          have HGn := Aside0.mk hgr
          clear hR3 hC3 hb1 hrun hgr MK hnw
          have hO2 := Kd.R_grown2 HO.out rfl HGn.out.keep (fun k e1 e2 => outs_ne HO.out HRU.out k e2.symm e1)
          have hpk : PutKeep us w W' := HP.out.grown i hiu (by rw [HUE.out]; exact HGn.out.keep)
          have HO2 := Aside0.mk hO2
          have HPK := Aside0.mk hpk
          clear hO2 hpk
          go_wp2_with (first
            | ((with_reducible refine gate_builtin (b := .append) (xs := #[.tmp 34, .tmp 38]) rfl ?_); (refine append_event rfl (.tmp 34) (.tmp 38) 30 rfl rfl rfl HRUN.out ?_))
            | ((with_reducible refine gate_builtin (b := .append) (xs := #[.tmp 33, .tmp 40]) rfl ?_); at_builtin; refine Kd.R_append (Kd.raw 1) (w0 := W') w.heap.size rfl (.tmp 33) (.tmp 40) 47 30 (.slice none 0 0) 24 rfl Try.underlying47 infoLists rfl Nat.one_pos (by decide) (.slice Ao i co) (gs.map fun v => [v]) [.slice Aw nw cw] [.slice Aw nw cw] (fun _ => True) (fun _ => False) rfl rfl ⟨rfl, rfl, fun u hu => by rw [List.mem_singleton.1 hu]; rfl⟩ (fun _ h => h.elim) (fun _ _ => trivial) HO2.out (Below.refl _ _) HPK.out.size (by rw [List.length_map, HGI.out]; have := HL.out; have := HNN.out; omega) ?_; intro out' w3 hOn hBn hGn hAtn; have HON := Aside0.mk hOn; have HGN := Aside0.mk hGn; clear hOn hBn hGn hAtn))
          have hstep : ∀ (x : Value) (L : List (Int × Int)), Kd.R kQ 23 _ base (fun _ => True) x L → (∀ k, u.ownBlock = some k → x.ownBlock = some k → False) → Kd.R kQ 23 w3 base (fun _ => True) x L := fun x L hx hne => by
            have h2 := Kd.R_grown2 hx rfl HGn.out.keep (fun k e1 e2 => hne k e1 e2.symm)
            exact Kd.R_grown2 h2 rfl HGN.out (fun k e1 e2 => outs_ne HO2.out h2 k e1 e2.symm)
          have hU3 : ∀ j, (h : j < us.length) → Kd.R kQ 23 w3 base (fun _ => True) us[j] (marksP (j : Int) 0 (ms.getD j 0)) := by
            intro j hj
            by_cases e : j = i
            · subst e
              rw [HUE.out, HME.out]
              exact Kd.R_grown2 HGn.out.old rfl HGN.out (fun k e1 e2 => outs_ne HO2.out HGn.out.old k e1 e2.symm)
            · exact hstep _ _ (HU.out j hj) (fun k e1 e2 => HSEP.out i j hiu hj (fun e' => e e'.symm) k (by rw [HUE.out]; exact e1) e2)
          have hG3 : ∀ j, (h : j < (gs ++ [Value.slice Aw nw cw]).length) → (hu : j < us.length) → Kd.R kQ 23 w3 base (fun _ => True) (gs ++ [Value.slice Aw nw cw])[j] (marksP (j : Int) 0 (ms.getD j 0 + 72)) ∧ ((gs ++ [Value.slice Aw nw cw])[j].ownBlock = us[j].ownBlock ∨ ∃ b, (gs ++ [Value.slice Aw nw cw])[j].ownBlock = some b ∧ w.heap.size ≤ b) := by
            intro j hj hju
            by_cases hjg : j < gs.length
            · rw [List.getElem_append_left hjg]
              obtain ⟨h1, h2⟩ := HG.out j hjg hju
              refine ⟨hstep _ _ h1 (fun k e1 e2 => ?_), h2⟩
              rcases h2 with h2 | ⟨b, h2, hle⟩
              · exact HSEP.out i j hiu hju (by have := HGI.out; omega) k (by rw [HUE.out]; exact e1) (by rw [← h2]; exact e2)
              · rw [h2] at e2
                injection e2 with e2
                have := HLT.out i hiu k (by rw [HUE.out]; exact e1)
                omega
            · have hji : j = i := by rw [List.length_append, List.length_singleton] at hj; have := HGI.out; omega
              have hjl : j = gs.length := by have := HGI.out; omega
              have hget : (gs ++ [Value.slice Aw nw cw])[j] = Value.slice Aw nw cw := by
                rw [List.getElem_append_right (by omega)]
                simp
              rw [hget]
              have hms : ms.getD j 0 = m := by rw [hji]; exact HME.out
              have husj : us[j] = u := by
                have h1 := HUE.out
                subst hji
                exact h1
              refine ⟨?_, ?_⟩
              · rw [hms, hji]
                exact Kd.R_grown2 HGn.out.cur rfl HGN.out (fun k e1 e2 => outs_ne HO2.out HGn.out.cur k e1 e2.symm)
              · rw [husj]
                rcases HGn.out.at_ with ⟨A1, n1, c1, n1', e1, e2⟩ | ⟨b, hb, hle⟩
                · left
                  rw [e1, e2]
                  cases A1 <;> rfl
                · exact Or.inr ⟨b, hb, Nat.le_trans HP.out.size hle⟩
          have hO3 : Kd.R (Kd.raw 1) 30 w3 w.heap.size (fun _ => True) out' ((gs ++ [Value.slice Aw nw cw]).map fun v => [v]) := by
            rw [List.map_append]
            exact HON.out
          have hP3 : PutKeep us w w3 := HPK.out.own HGN.out (fun k hk => Kd.R_base HO2.out k hk)
          have HU3 := Aside0.mk hU3
          have HG3 := Aside0.mk hG3
          have HO3 := Aside0.mk hO3
          have HP3 := Aside0.mk hP3
          have hlen3 : (gs ++ [Value.slice Aw nw cw]).length = i + 1 := by rw [List.length_append, HGI.out]; rfl
          have HLEN3 := Aside0.mk hlen3
          clear hstep hU3 hG3 hO3 hP3 hlen3
          go_roundw
          case rel => exact ⟨gs ++ [Value.slice Aw nw cw], by have := HLEN3.out; omega, by rw [HLEN3.out]; rfl, HP3, HO3, HU3, HG3⟩
          case measure => simp [intOf]; omega
    · obtain rfl : i = n := by omega
      have c1 : decide ((i : Int) < (i : Int)) = false := decide_eq_false (by omega)
      go_wp2_with fail
      go_ret
      obtain ⟨hl1, hl2, hl3⟩ := lists_of_raw HO.out
      exact ⟨Ao, co, gs, by rw [HNN.out]; rfl, by rw [HNN.out]; exact HGI.out, by rw [HNN.out]; exact hl2, hl3, fun j h => readsP_of_R (HG.out j h (by rw [HNN.out]; have := HGI.out; omega)).1, fun j h => readsP_of_R (HU.out j h), HP.out⟩
end Go.Proofs.Ytckamijajnmbjaa.P
