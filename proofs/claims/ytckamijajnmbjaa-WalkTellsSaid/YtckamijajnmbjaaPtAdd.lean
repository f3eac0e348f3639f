/- Book's Points: one more list is kept, and a copy of it. Conditions: the lists are few; the book's rows are the call's own. (Printed by genadd.py.) -/
import Derived.Test.YtckamijajnmbjaaPtR
set_option linter.unusedVariables false
set_option linter.unusedSimpArgs false
namespace Go.Proofs.Ytckamijajnmbjaa.P
open Go.RowKit Go.Proofs.YtckamijajnmbjaaW.PrintWords Go.Proofs.YtckamijajnmbjaaW.PrintLast Go.Proofs.YtckamijajnmbjaaW.PrintMore

theorem raw_bk {W : World} {b bk : Nat} {o : Value} {X : List (List Value)} {cs : Array Value} (h : Kd.R (Kd.raw 1) 30 W b (fun _ => True) o X) (hb : W.heap[bk]? = some (.cells cs 51 (0, 0))) : o.ownBlock ≠ some bk := by
  intro e
  obtain ⟨_, o1⟩ := Kd.R_own h
  obtain ⟨c1, g1⟩ := own_typed o1 bk e
  rw [hb] at g1
  injection g1 with g1
  injection g1 with _ h3
  exact absurd h3 (by decide)
/-- Nothing is turned but the book and its two rows. -/
structure AddKeep (bk : Nat) (o0 o1 : Value) (w w' : World) : Prop where
  mk :: (os : w'.os = w.os) (tape : w'.tape = w.tape) (output : w'.output = w.output) (size : w.heap.size ≤ w'.heap.size) (far : ∀ q, q < w.heap.size → q ≠ bk → o0.ownBlock ≠ some q → o1.ownBlock ≠ some q → w'.heap[q]? = w.heap[q]?)
theorem AddKeep.nums {bk : Nat} {o0 o1 : Value} {w w' : World} {b b' : Nat} {u : Value} {L : List (Int × Int)} {X Y : List (List Value)} {cs : Array Value} (h : AddKeep bk o0 o1 w w') (h0 : Kd.R (Kd.raw 1) 30 w b (fun _ => True) o0 X) (h1 : Kd.R (Kd.raw 1) 30 w b (fun _ => True) o1 Y) (hb : w.heap[bk]? = some (.cells cs 51 (0, 0)))
    (hu : Kd.R kQ 23 w b' (fun _ => True) u L) : Kd.R kQ 23 w' b' (fun _ => True) u L := by
  have hne : u.ownBlock ≠ some bk := by
    intro e
    obtain ⟨_, o1⟩ := Kd.R_own hu
    obtain ⟨c1, g1⟩ := own_typed o1 bk e
    rw [hb] at g1
    injection g1 with g1
    injection g1 with _ h3
    exact absurd h3 (by decide)
  have hu2 := Kd.R_tight rfl hu
  refine Kd.R_mono (Kd.R_step hu2 (fun k hk hlt => h.far k hlt (fun e => hne (by rw [← hk, e])) (fun e => outs_ne h0 hu k e hk.symm) (fun e => outs_ne h1 hu k e hk.symm))) (fun _ _ => trivial)
def addPoints.T2 : Bool × List (List Nat × List Nat) := (true, [([], []), ([], []), ([1], [1]), ([2], [2]), ([3], [3]), ([], []), ([5], [5]), ([6], [6]), ([4, 7, 6], [4, 7]), ([0, 0, 1, 2, 3, 4, 5, 6, 7, 8], [0]), ([9, 0, 1, 2, 3, 4, 5, 6, 7, 8], [9]), ([10, 8, 8, 0, 1, 2, 3, 4, 5, 6, 7, 8], [8, 10])])
def addPoints.B2 : List Nat := [0, 0, 2, 6, 14, 0, 32, 96, 254, 511, 1023, 2047]
theorem addPoints.tab2 : rtab .any (opsOf Try.f21 2) = addPoints.T2 := by kernel_rfl
theorem addPoints.bits2 : waitsOk addPoints.T2.2 addPoints.B2 = true := by kernel_rfl
set_option maxRecDepth 100000 in
set_option maxHeartbeats 4000000 in
theorem addPoints_calls (bk base : Nat) (e0 e1 e2 e3 e4 e5 e6 e7 e8 e9 o0 o1 : Value) (rest us us' : List Value) (a : Option Addr) (k : Nat) (xs : List (Int × Int)) (w : World) (hblk : w.heap[bk]? = some (.cells (e0 :: e1 :: e2 :: e3 :: e4 :: e5 :: e6 :: e7 :: e8 :: e9 :: o0 :: o1 :: rest).toArray 51 (0, 0))) 
    (h0 : Kd.R (Kd.raw 1) 30 w base (fun _ => True) o0 (us.map fun v => [v])) (h1 : Kd.R (Kd.raw 1) 30 w base (fun _ => True) o1 (us'.map fun v => [v])) (hsep : ∀ q, o0.ownBlock = some q → o1.ownBlock ≠ some q) (hu : Kd.R kQ 23 w base (fun _ => True) (.slice a xs.length k) xs)
    (hn : us.length < 250) (hn' : us'.length < 250) (hbase : base ≤ w.heap.size) (hbk : base ≤ bk) (hxl : xs.length ≤ 900000) :
    Calls Try.prog 21 #[.pointer (some ⟨bk, 0, none⟩), .slice a xs.length k] w fun e w' => ∃ (p0 p1 u' : Value), e = .returned (.tuple #[]) ∧ w'.heap[bk]? = some (.cells (e0 :: e1 :: e2 :: e3 :: e4 :: e5 :: e6 :: e7 :: e8 :: e9 :: p0 :: p1 :: rest).toArray 51 (0, 0)) ∧
      Kd.R (Kd.raw 1) 30 w' base (fun _ => True) p0 ((us ++ [Value.slice a xs.length k]).map fun v => [v]) ∧ Kd.R (Kd.raw 1) 30 w' base (fun _ => True) p1 ((us' ++ [u']).map fun v => [v]) ∧ (∀ q, p0.ownBlock = some q → p1.ownBlock ≠ some q) ∧
      Kd.R kQ 23 w' w.heap.size (fun _ => True) u' xs ∧ AddKeep bk o0 o1 w w' := by
  have HBLK := Aside0.mk hblk
  have H0 := Aside0.mk h0
  have H1 := Aside0.mk h1
  have HSEP := Aside0.mk hsep
  have HBASE := Aside0.mk hbase
  have HN := Aside0.mk hn
  have HN' := Aside0.mk hn'
  have HU := Aside0.mk hu
  have CP := Aside0.mk (fun w' (hC : Kd.C kQ w' a xs.length xs) => copyPoints_calls a k xs w' hC hxl)
  obtain ⟨Ao, co, rfl⟩ := Kd.R_slice h0
  rw [List.length_map] at hblk H0 HBLK h0 HSEP ⊢
  have e0 : (Value.slice Ao us.length co).ownBlock ≠ some bk := raw_bk h0 hblk
  have e1 : o1.ownBlock ≠ some bk := raw_bk h1 hblk
  have E0 := Aside0.mk e0
  have E1 := Aside0.mk e1
  have c0 : w.cell? ⟨bk, 10, none⟩ = some (.slice Ao us.length co) := (blk_cell hblk 10).trans rfl
  have d1 : decide ((us.length : Int) < 250) = true := decide_eq_true (by omega)
  have d2 : decide (us.length < 250) = true := decide_eq_true hn
  clear hblk h0 h1 hsep hbase hn hn' hu e0 e1
  go_enter Try.func21, Try.ntmps21
  go_wp2_with (first
    | ((with_reducible refine gate_builtin (b := .append) (xs := #[.tmp 14, .tmp 16]) rfl ?_); at_builtin; refine Kd.R_append (Kd.raw 1) (w0 := w) base rfl (.tmp 14) (.tmp 16) 47 30 (.slice none 0 0) 24 rfl Try.underlying47 infoLists rfl Nat.one_pos (by decide) (.slice Ao us.length co) (us.map fun v => [v]) [.slice a xs.length k] [.slice a xs.length k] (fun _ => True) (fun _ => False) rfl rfl ⟨rfl, rfl, fun u hu => by rw [List.mem_singleton.1 hu]; rfl⟩ (fun _ h => h.elim) (fun _ _ => trivial) H0.out (Below.refl _ _) HBASE.out (by rw [List.length_map]; have := HN.out; omega) ?_; intro p0 w1 hOn hBn hGn hAtn; obtain ⟨A0', c0', hp0⟩ := Kd.R_slice hOn; obtain ⟨n0', hn0⟩ : ∃ q, (us.map (fun v => [v]) ++ [[Value.slice a xs.length k]]).length = q := ⟨_, rfl⟩; rw [hn0] at hp0; subst hp0; have HON := Aside0.mk hOn; have HGN := Aside0.mk hGn; have HAT := Aside0.mk hAtn; have hb1 := blk_grown HBLK.out hGn E0.out.symm; have HB1 := Aside0.mk hb1; have z0 : w1.cell? ⟨bk, 10, none⟩ = some (.slice Ao us.length co) := (blk_cell hb1 10).trans rfl; have z1 := blk_frozen hb1 10; clear hOn hBn hGn hAtn hb1 hn0))
  obtain ⟨w2, hw2⟩ : ∃ x, w1.setCell ⟨bk, 10, none⟩ (.slice A0' n0' c0') = x := ⟨_, rfl⟩
  have hblk2 : w2.heap[bk]? = some (.cells (e0 :: e1 :: e2 :: e3 :: e4 :: e5 :: e6 :: e7 :: e8 :: e9 :: Value.slice A0' n0' c0' :: o1 :: rest).toArray 51 (0, 0)) := by rw [← hw2]; exact blk_set HB1.out 10 _
  have hP0 : Kd.R (Kd.raw 1) 30 w2 base (fun _ => True) (.slice A0' n0' c0') (us.map (fun v => [v]) ++ [[Value.slice a xs.length k]]) := by rw [← hw2]; exact Kd.R_set HON.out HB1.out (by intro q hq; rw [show q = 30 by simpa [Kd.raw] using hq]; decide) 10 _
  have h1a := Kd.R_grown2 H1.out rfl HGN.out (fun q e1 e2 => HSEP.out q e1 e2.symm)
  have hP1 : Kd.R (Kd.raw 1) 30 w2 base (fun _ => True) o1 (us'.map fun v => [v]) := by rw [← hw2]; exact Kd.R_set h1a HB1.out (by intro q hq; rw [show q = 30 by simpa [Kd.raw] using hq]; decide) 10 _
  have hUa := Kd.R_grown2 HU.out rfl HGN.out (fun q e1 e2 => outs_ne H0.out HU.out q e1 e2.symm)
  have hU2 : Kd.R kQ 23 w2 base (fun _ => True) (.slice a xs.length k) xs := by rw [← hw2]; exact Kd.R_set hUa HB1.out (by intro q hq; rw [show q = 23 by simpa [kQ, Kd.scalar] using hq]; decide) 10 _
  have hK2 : AddKeep bk (.slice Ao us.length co) o1 w w2 := by
    rw [← hw2]
    exact ⟨HGN.out.os, HGN.out.tape, HGN.out.output, by simpa [World.setCell] using HGN.out.size, fun q hq e1 e2 e3 => (Below.heap_setCell w1 ⟨bk, 10, none⟩ _ q e1).trans (HGN.out.block q hq (fun e => e2 e.symm))⟩
  have hsz2 : w2.heap.size = w1.heap.size := by rw [← hw2]; simp [World.setCell]
  have hS2 : w2.cell? ⟨bk, 11, none⟩ = some o1 := (blk_cell hblk2 11).trans rfl
  have HBLK2 := Aside0.mk hblk2
  have HP0 := Aside0.mk hP0
  have HP1 := Aside0.mk hP1
  have HU2 := Aside0.mk hU2
  have HK2 := Aside0.mk hK2
  have HSZ2 := Aside0.mk hsz2
  rw [hw2]
  clear hw2 hblk2 hP0 h1a hP1 hUa hU2 hK2 hsz2 z0 z1 c0
  refine start_ (n := 12) (S := fun w' => w'.cell? ⟨bk, 11, none⟩ = some o1) (ds := [11]) #[false, false, false, false, false, false, false, false, false, false, false, false] (by kernel_rfl) rfl rfl hS2 (fun hHeld => ?_)
  refine with_tabW addPoints.tab2 addPoints.bits2 (fun HT_ HW_ => ?_)
  refine take_ (i := 0) (N := some 20) (v := ?_) (a' := ?_) #[true, false, false, false, false, false, false, false, false, false, false, false] rfl rfl (take_ofW HT_.out HW_.out (by kernel_rfl)) (fun _ _ _ h => h) (Or.inl ⟨by rfl, ?_⟩) hHeld ?_ ?_
  rotate_left
  · intro w' s
    go_simp
    with_reducible rfl
  rotate_left
  · simp only [Act.put, List.setIfInBounds_toArray, List.set_cons_zero, List.set_cons_succ, i64_w, i32_w]
    rfl
  refine take_ (i := 1) (N := some 21) (v := ?_) (a' := ?_) #[true, true, false, false, false, false, false, false, false, false, false, false] rfl rfl (take_ofW HT_.out HW_.out (by kernel_rfl)) (fun _ _ _ h => h) (Or.inl ⟨by rfl, ?_⟩) hHeld ?_ ?_
  rotate_left
  · intro w' s
    go_simp
    with_reducible rfl
  rotate_left
  · simp only [Act.put, List.setIfInBounds_toArray, List.set_cons_zero, List.set_cons_succ, i64_w, i32_w]
    rfl
  refine take_ (i := 2) (N := some 22) (v := ?_) (a' := ?_) #[true, true, true, false, false, false, false, false, false, false, false, false] rfl rfl (take_ofW HT_.out HW_.out (by kernel_rfl)) (fun _ _ _ h => h) (Or.inl ⟨by rfl, ?_⟩) hHeld ?_ ?_
  rotate_left
  · intro w' s
    go_simp
    with_reducible rfl
  rotate_left
  · simp only [Act.put, List.setIfInBounds_toArray, List.set_cons_zero, List.set_cons_succ, i64_w, i32_w]
    rfl
  refine take_ (i := 3) (N := some 23) (v := ?_) (a' := ?_) #[true, true, true, true, false, false, false, false, false, false, false, false] rfl rfl (take_ofW HT_.out HW_.out (by kernel_rfl)) (fun _ _ _ h => h) (Or.inl ⟨by rfl, ?_⟩) hHeld ?_ ?_
  rotate_left
  · intro w' s
    go_simp
    with_reducible rfl
  rotate_left
  · simp only [Act.put, List.setIfInBounds_toArray, List.set_cons_zero, List.set_cons_succ, i64_w, i32_w]
    rfl
  refine take_ (i := 4) (N := some 24) (v := ?_) (a' := ?_) #[true, true, true, true, true, false, false, false, false, false, false, false] rfl rfl (take_ofW HT_.out HW_.out (by kernel_rfl)) (fun _ _ _ h => h) (Or.inl ⟨by rfl, ?_⟩) hHeld ?_ ?_
  rotate_left
  · intro w' s
    go_simp
    with_reducible rfl
  rotate_left
  · simp only [Act.put, List.setIfInBounds_toArray, List.set_cons_zero, List.set_cons_succ, i64_w, i32_w]
    rfl
  refine take_ (i := 5) (N := some 25) (v := ?_) (a' := ?_) #[true, true, true, true, true, true, false, false, false, false, false, false] rfl rfl (take_ofW HT_.out HW_.out (by kernel_rfl)) (fun _ _ _ h => h) (Or.inl ⟨by rfl, ?_⟩) hHeld ?_ ?_
  rotate_left
  · intro w' s
    go_simp
    with_reducible rfl
  rotate_left
  · simp only [Act.put, List.setIfInBounds_toArray, List.set_cons_zero, List.set_cons_succ, i64_w, i32_w]
    rfl
  refine one_ (i := 6) (N := some 26) #[true, true, true, true, true, true, true, false, false, false, false, false] rfl rfl (one_of HT_.out (by kernel_rfl)) (by decide) (fun K hK => ?_)
  refine goes_ Try.func31 (by kernel_rfl) rfl #[.slice a xs.length k] (by rfl) rfl rfl (by (try simp only [List.map_toArray, List.map_cons, List.map_nil]); first | done | rfl | (simp only [List.length_drop, List.length_take]; rfl)) ?_
  refine (CP.out _ (Kd.R_reads' (Kd.R_drew HU2.out)).2.2).mono ?_
  rintro en w3 ⟨u', rfl, hRu, hb⟩
  refine ⟨_, rfl, ?_⟩
  obtain ⟨A3, c3, rfl⟩ := Kd.R_slice hRu
  have HB23 := Aside0.mk (show Below w2.heap.size w2 w3 from below_step (below_drew1 (Below.refl _ _)) hb)
  have HRU := Aside0.mk hRu
  refine hK.out _ _ (pw_cell_below hb hHeld) (fun hHeld => ?_)
  clear hRu hb
  clear hK K
  refine norm_ (a' := ?_) ?_ ?_
  rotate_left
  · show Act.put _ (some 26) _ = _
    simp only [Act.put, List.setIfInBounds_toArray, List.set_cons_zero, List.set_cons_succ, i64_w, i32_w]
    rfl
  refine one_ (i := 7) (N := some 27) #[true, true, true, true, true, true, true, true, false, false, false, false] rfl rfl (one_of HT_.out (by kernel_rfl)) (by decide) (fun K hK => ?_)
  refine value_ (v := .slice (some ⟨w3.heap.size, 0, none⟩) 1 1) (w1 := w3.alloc (.cells #[.slice A3 xs.length c3] 30)) (by rfl) rfl (by first | (go_simp; done) | (go_simp; rfl)) (hK.out _ _ (pw_cell_below (below_alloc (Below.refl _ _) _) hHeld) (fun hHeld => ?_))
  clear hK K
  refine norm_ (a' := ?_) ?_ ?_
  rotate_left
  · show Act.put _ (some 27) _ = _
    simp only [Act.put, List.setIfInBounds_toArray, List.set_cons_zero, List.set_cons_succ, i64_w, i32_w]
    rfl
  refine one_ (i := 8) (N := some 28) #[true, true, true, true, true, true, true, true, true, false, false, false] rfl rfl (one_of HT_.out (by kernel_rfl)) (by decide) (fun K hK => ?_)
  refine Kd.R_append_step (Kd.raw 1) (w0 := w3) base (by rfl) (.tmp 24) (.tmp 27) 47 30 (.slice none 0 0) 24 rfl Try.underlying47 infoLists rfl Nat.one_pos (by decide) o1 (us'.map fun v => [v]) [.slice A3 xs.length c3] [.slice A3 xs.length c3] (fun _ => True) (fun _ => False) rfl rfl ⟨rfl, rfl, fun u hu => by rw [List.mem_singleton.1 hu]; rfl⟩ (fun _ h => h.elim) (fun _ _ => trivial) (Kd.R_below HP1.out HB23.out) (Below.refl _ _) (Nat.le_trans HBASE.out (Nat.le_trans HK2.out.size HB23.out.size)) (by rw [List.length_map]; have := HN'.out; omega) ?_
  intro p1 w4 hO4 hB4 hG4 hA4
  obtain ⟨A1', c1', hp1⟩ := Kd.R_slice hO4
  obtain ⟨n1', hn1⟩ : ∃ q, (us'.map (fun v => [v]) ++ [[Value.slice A3 xs.length c3]]).length = q := ⟨_, rfl⟩
  rw [hn1] at hp1
  subst hp1
  have HO4 := Aside0.mk hO4
  have HG4 := Aside0.mk hG4
  have HA4 := Aside0.mk hA4
  have hb4 := blk_grown (blk_below HBLK2.out HB23.out) hG4 E1.out.symm
  have HB4 := Aside0.mk hb4
  refine hK.out _ _ ((blk_cell hb4 11).trans rfl) (fun hHeld => ?_)
  clear hO4 hB4 hG4 hA4 hb4 hn1
  clear hK K
  refine norm_ (a' := ?_) ?_ ?_
  rotate_left
  · show Act.put _ (some 28) _ = _
    simp only [Act.put, List.setIfInBounds_toArray, List.set_cons_zero, List.set_cons_succ, i64_w, i32_w]
    rfl
  refine take_ (i := 9) (N := some 29) (v := ?_) (a' := ?_) #[true, true, true, true, true, true, true, true, true, true, false, false] rfl rfl (take_ofW HT_.out HW_.out (by kernel_rfl)) (fun _ _ _ h => h) (Or.inl ⟨by rfl, ?_⟩) hHeld ?_ ?_
  rotate_left
  · intro w' s
    go_simp
    with_reducible rfl
  rotate_left
  · simp only [Act.put, List.setIfInBounds_toArray, List.set_cons_zero, List.set_cons_succ, i64_w, i32_w]
    rfl
  refine take_ (i := 10) (N := some 30) (v := ?_) (a' := ?_) #[true, true, true, true, true, true, true, true, true, true, true, false] rfl rfl (take_ofW HT_.out HW_.out (by kernel_rfl)) (fun _ _ _ h => h) (Or.inl ⟨by rfl, ?_⟩) hHeld ?_ ?_
  rotate_left
  · intro w' s
    go_simp
    with_reducible rfl
  rotate_left
  · simp only [Act.put, List.setIfInBounds_toArray, List.set_cons_zero, List.set_cons_succ, i64_w, i32_w]
    rfl
  refine last_ (i := 11) (N := none) #[true, true, true, true, true, true, true, true, true, true, true, true] rfl rfl (one_of HT_.out (by kernel_rfl)) (by decide) (fun K hK => ?_)
  have z0 : w4.cell? ⟨bk, 11, none⟩ = some o1 := (blk_cell HB4.out 11).trans rfl
  have z1 := blk_frozen HB4.out 11
  obtain ⟨w5, hw5⟩ : ∃ x, w4.setCell ⟨bk, 11, none⟩ (.slice A1' n1' c1') = x := ⟨_, rfl⟩
  refine skip_ (w1 := w4.setCell ⟨bk, 11, none⟩ (.slice A1' n1' c1')) (by rfl) rfl (by first | (go_simp; done) | (go_simp; rfl)) (hK.out _ _ ?_)
  rw [hw5]
  have HW5 := Aside0.mk hw5
  clear hw5 z0 z1 hHeld
  clear hK K
  refine done_ (done_of HT_.out (by kernel_rfl)) ?_
  clear hHeld
  go_end0
  have hs0 : ∀ q, (Value.slice A0' n0' c0').ownBlock = some q → o1.ownBlock = some q → False := by
    intro q e1 e2
    rcases HAT.out with h | ⟨b, h, hle⟩
    · exact HSEP.out q (by rw [← h]; exact e1) e2
    · rw [h] at e1
      injection e1 with e1
      have := Kd.R_lt H1.out q e2
      omega
  have hP0a := Kd.R_below HP0.out HB23.out
  have hP0b := Kd.R_grown2 hP0a rfl HG4.out (fun q e1 e2 => hs0 q e2.symm e1)
  have hUb := Kd.R_grown2 HRU.out rfl HG4.out (fun q e1 e2 => outs_ne (Kd.R_below HP1.out HB23.out) HRU.out q e1 e2.symm)
  have hw2le : w.heap.size ≤ w2.heap.size := HK2.out.size
  refine ⟨.slice A0' n0' c0', .slice A1' n1' c1', .slice A3 xs.length c3, rfl, ?_, ?_, ?_, ?_, ?_, ?_⟩
  · rw [← HW5.out]
    exact blk_set HB4.out 11 _
  · rw [List.map_append, ← HW5.out]
    exact Kd.R_set hP0b HB4.out (by intro q hq; rw [show q = 30 by simpa [Kd.raw] using hq]; decide) 11 _
  · rw [List.map_append, ← HW5.out]
    exact Kd.R_set HO4.out HB4.out (by intro q hq; rw [show q = 30 by simpa [Kd.raw] using hq]; decide) 11 _
  · intro q e1 e2
    rcases HA4.out with h | ⟨b, h, hle⟩
    · exact hs0 q e1 (by rw [← h]; exact e2)
    · rw [h] at e2
      injection e2 with e2
      have := Kd.R_lt hP0a q e1
      omega
  · rw [← HW5.out]
    exact Kd.R_lower (Kd.R_set hUb HB4.out (by intro q hq; rw [show q = 23 by simpa [kQ, Kd.scalar] using hq]; decide) 11 _) hw2le
  · rw [← HW5.out]
    refine ⟨?_, ?_, ?_, ?_, fun q hq e1 e2 e3 => ?_⟩
    · exact HG4.out.os.trans (HB23.out.os.trans HK2.out.os)
    · exact HG4.out.tape.trans (HB23.out.tape.trans HK2.out.tape)
    · exact HG4.out.output.trans (HB23.out.output.trans HK2.out.output)
    · have h1 : w3.heap.size ≤ w4.heap.size := HG4.out.size
      have h2 : w2.heap.size ≤ w3.heap.size := HB23.out.size
      have h3 : (w4.setCell ⟨bk, 11, none⟩ (.slice A1' n1' c1')).heap.size = w4.heap.size := by simp [World.setCell]
      omega
    · have h2 : w2.heap.size ≤ w3.heap.size := HB23.out.size
      rw [Below.heap_setCell w4 ⟨bk, 11, none⟩ _ q e1, HG4.out.block q (by omega) (fun e => e3 e.symm), HB23.out.block q (by omega)]
      exact HK2.out.far q hq e1 e2 e3
end Go.Proofs.Ytckamijajnmbjaa.P
