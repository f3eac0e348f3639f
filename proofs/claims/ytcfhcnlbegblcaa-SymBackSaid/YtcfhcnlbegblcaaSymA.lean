/- The symbols of a text are its bytes, each and 1; the laws SymBack and SymJoins return true. Conditions: none beyond the given statements'. -/
import Derived.Test.YtcfhcnlbegblcaaPSymJoinsx1
set_option linter.unusedVariables false
set_option linter.unusedSimpArgs false
namespace Go.Proofs.Ytcfhcnlbegblcaa.SymA
open Go.RowKit Go.Proofs.Ytcfhcnlbegblcaa.PSymJoins Go.Proofs.YtcfhcnlbegblcaaW.PrintWords Go.Proofs.YtcfhcnlbegblcaaW.PrintLast Go.Proofs.YtcfhcnlbegblcaaW.PrintMore

theorem bstep {w w1 w2 : World} (h : Below w.heap.size w w1) (k : Below w1.heap.size w1 w2) : Below w.heap.size w w2 := below_then h h.size k

theorem alive4 : scriniumlaw1_alive.f 4 = some true := by decide +kernel
theorem alive_calls (w : World) : Calls Try.prog 9 #[] w fun e w' => e = .returned (.bool true) ∧ Below w.heap.size w w' := scriniumlaw1_alive.calls 4 true w alive4

theorem of_some (a : Int) (h0 : 0 ≤ a) (h1 : a ≤ 255) : sym_Of.f a = some (a + 1) := by
  unfold sym_Of.f wrap64
  congr 1
  omega
theorem byte_some (a : Int) (h0 : 0 ≤ a) (h1 : a ≤ 255) : sym_Byte.f (a + 1) = some (a, true) := by
  unfold sym_Byte.f wrap64
  rw [if_neg (by omega), if_neg (by omega)]
  congr 2
  omega

/-- The symbols of a text. -/
def syms (s : ByteArray) : List Int := (bytesOf s).map (· + 1)
theorem syms_length (s : ByteArray) : (syms s).length = s.size := by rw [syms, List.length_map, bytesOf_length]
theorem bt_get (s : ByteArray) (i : Nat) (h : i < s.size) : (bytesOf s)[i]'(by rw [bytesOf_length]; exact h) = bt s i := by
  rw [← rd_bytesOf]
  simp [rd, List.getD_eq_getElem?_getD, List.getElem?_eq_getElem (show i < (bytesOf s).length by rw [bytesOf_length]; exact h)]
theorem all_loop (s : ByteArray) (hs : s.size ≤ 1000) (d : Nat) : ∀ (k i : Nat), i + d = s.size → d < k →
    sym_All.l0 k s ((syms s).take i) (s.size : Int) i = some (syms s) := by
  induction d with
  | zero =>
    intro k i hi hk
    obtain ⟨k, rfl⟩ : ∃ m, k = m + 1 := ⟨k - 1, by omega⟩
    simp only [sym_All.l0]
    rw [if_neg (by omega), List.take_of_length_le (by rw [syms_length]; omega)]
  | succ d ih =>
    intro k i hi hk
    obtain ⟨k, rfl⟩ : ∃ m, k = m + 1 := ⟨k - 1, by omega⟩
    have hr := bt_range s (i : Int)
    have hlt : i < (syms s).length := by rw [syms_length]; omega
    simp only [sym_All.l0]
    rw [if_pos (by omega), if_pos (by omega), if_pos (by omega), of_some _ hr.1 hr.2]
    simp only [Option.bind_some]
    rw [if_pos (by rw [List.length_take]; omega)]
    have e : (syms s).take i ++ [bt s i + 1] = (syms s).take (i + 1) := by
      rw [List.take_succ_eq_append_getElem hlt]
      congr 2
      simp only [syms, List.getElem_map]
      rw [bt_get s i (by omega)]
    have e2 : wrap64 ((i : Int) + 1) = ((i + 1 : Nat) : Int) := by unfold wrap64; omega
    rw [e, e2]
    exact ih k (i + 1) (by omega) (by omega)
theorem all_some (s : ByteArray) (hs : s.size ≤ 1000) : sym_All.f (s.size + 1) s = some (syms s) := by
  have := all_loop s hs s.size (s.size + 1) 0 (by omega) (by omega)
  simpa [sym_All.f] using this

theorem All_calls (s : ByteArray) (hs : s.size ≤ 1000) (w : World) :
    Calls Try.prog 11 #[.string s] w fun e w' => ∃ v0_ : Value, e = .returned (v0_) ∧ Kd.R (Kd.int .i64) 3 w' w.heap.size (fun _ => True) v0_ (syms s) ∧ Below w.heap.size w w' :=
  sym_All.calls _ s _ w (all_some s hs)

theorem bytesOf_one (b : Int) (h0 : 0 ≤ b) (h1 : b ≤ 255) : bytesOf (strOfNums [b]) = [b] := by
  unfold bytesOf strOfNums
  simp only [List.map_cons, List.map_nil, List.cons.injEq, and_true]
  have e : (UInt8.ofNat b.toNat).toNat = b.toNat := by
    rw [UInt8.toNat_ofNat']
    omega
  rw [e]
  omega
theorem cell_news (W : World) (cs : Array Value) (t : TypeId) (i : Nat) (v : Value) (h : cs[i]? = some v) : (W.alloc (.cells cs t)).cell? ⟨W.heap.size, 0 + i, none⟩ = some v := by
  have hb : (W.alloc (.cells cs t)).heap[W.heap.size]? = some (.cells cs t (0, 0)) := heap_alloc_new W _
  rw [Nat.zero_add]
  unfold World.cell?
  dsimp only
  rw [hb]
  exact h
theorem conv_str (xs : List Int) (W : World) (n : Nat) :
    (convert 46 9 (.slice (some ⟨W.heap.size, 0, none⟩) xs.length xs.length)).run Try.prog ((W.drewN n).alloc (.cells (xs.map (Value.int .u8)).toArray 5)) = .ok (.string (strOfNums xs)) ((W.drewN n).alloc (.cells (xs.map (Value.int .u8)).toArray 5)) :=
  run_convert_bytes_arg _ 46 5 Try.underlying46 Try.underlying5 W.heap.size 0 xs.length xs.length xs rfl (fun i hi => by
    refine cell_news (W.drewN n) _ _ i _ ?_
    simp [List.getD_eq_getElem?_getD, List.getElem?_eq_getElem hi]) 9 Try.underlying9

theorem int_cell {w w1 : World} {base : Nat} {xs : List Int} {g n c : Nat} (HO : (Kd.int .i64).R 3 w1 base (fun _ => True) (.slice (some ⟨g, 0, none⟩) n c) xs) (k : Nat) (hk : k < xs.length) :
    w1.cell? ⟨g, k, none⟩ = some (.int .i64 (rd xs k)) := by
  obtain ⟨A, c', hv, hlc, hC⟩ := Kd.R_reads HO
  injection hv with hA
  subst hA
  obtain ⟨ad, cs, he, hcs, hK, hcell⟩ := Kd.C_get hC 0 (k : Int) (by omega) (by omega)
  injection he with he
  subst he
  have hK' : cs = [.int .i64 (xs.getD (k : Int).toNat 0)] := hK
  have hc1 := hcell 0 (.int .i64 (xs.getD (k : Int).toNat 0)) (by rw [hK']; rfl)
  have e1 : (k : Int).toNat * (Kd.int .i64).sz + 0 = k := by show (k : Int).toNat * 1 + 0 = k; omega
  rw [e1, add_plain] at hc1
  exact hc1

set_option maxRecDepth 100000 in
set_option maxHeartbeats 2000000 in
theorem SymBack_all (b : Int) (w : World) (hw : (Lit.int .u8 b).wf = true) :
    Calls Try.prog 8 #[.int .u8 b] w fun e w' => e = .returned (.bool true) ∧ Below w.heap.size w w' := by
  have hb0 : 0 ≤ b ∧ b ≤ 255 := by
    simp only [Lit.wf, Bool.and_eq_true, decide_eq_true_eq] at hw
    have e0 : IntKind.u8.min = 0 := rfl
    have e1 : IntKind.u8.max = 255 := rfl
    omega
  have O1 := Aside0.mk (fun w => sym_Of.calls b (b + 1) w (of_some b hb0.1 hb0.2))
  have Y1 := Aside0.mk (fun w => sym_Byte.calls (b + 1) b true w (byte_some b hb0.1 hb0.2))
  have A1 := Aside0.mk (All_calls (strOfNums [b]) (by rw [strOfNums_size]; simp))
  have hs : syms (strOfNums [b]) = [b + 1] := by rw [syms, bytesOf_one b hb0.1 hb0.2]; rfl
  rw [hs] at A1
  have cv := conv_str [b]
  simp only [List.length_cons, List.length_nil, List.map_cons, List.map_nil] at cv
  have AL := Aside0.mk alive_calls
  have b0 := hb0.1
  have b1 := hb0.2
  clear hw hs hb0
  go_enter Try.func8, Try.ntmps8
  go_wp2_with fail
  refine (AL.out _).mono ?_
  rintro e w1 ⟨rfl, hB1⟩
  have B1 := Aside0.mk hB1
  clear hB1
  go_wp2_with fail
  refine (O1.out _).mono ?_
  rintro e w2 ⟨rfl, ⟨n1, rfl⟩⟩
  go_wp2_with fail
  refine (Y1.out _).mono ?_
  rintro e w2 ⟨rfl, ⟨n2, rfl⟩⟩
  go_wp2_with fail
  refine (A1.out _).mono ?_
  rintro e w2 ⟨v, rfl, hR, hB2⟩
  have B2 := Aside0.mk hB2
  obtain ⟨A, c, rfl, hlc, hC⟩ := Kd.R_reads hR
  obtain ⟨ad, cs, rfl, hcs, hK, hcell⟩ := Kd.C_get hC 0 (0 : Int) (by omega) (by simp)
  obtain ⟨g, rfl⟩ := Kd.R_head hR
  have hc1 : w2.cell? ⟨g, 0, none⟩ = some (.int .i64 (b + 1)) := int_cell (w := w) hR 0 (by simp)
  clear hR hB2 hlc hC hcs hK hcell
  have k1 : (b == b) = true := beq_self_eq_true b
  go_wp2_with fail
  go_quiet ((go_at_call 13; (with_reducible refine (O1.out _).mono ?_); rintro e w' ⟨rfl, ⟨nd, rfl⟩⟩; exact ⟨rfl, _, World.drewN_drewN _ _ _⟩))
  go_wp2_with fail
  go_ret
  refine ⟨?_, ?_⟩
  · rfl
  · exact pw_below_drewN (below_step (by repeat (first | (with_reducible first | exact B1.out | apply below_alloc | apply pw_below_drewN | apply below_drew1) | exact B1.out)) B2.out) _

theorem same_loop (l : List Int) (hl : l.length ≤ 1000000) (d : Nat) : ∀ (k i : Nat), i + d = l.length → d < k → scriniumbook_SameInts.l0 k l l i = some true := by
  induction d with
  | zero =>
    intro k i hi hk
    obtain ⟨k, rfl⟩ : ∃ m, k = m + 1 := ⟨k - 1, by omega⟩
    simp only [scriniumbook_SameInts.l0]
    rw [if_neg (by omega)]
  | succ d ih =>
    intro k i hi hk
    obtain ⟨k, rfl⟩ : ∃ m, k = m + 1 := ⟨k - 1, by omega⟩
    simp only [scriniumbook_SameInts.l0]
    have e2 : wrap64 ((i : Int) + 1) = ((i + 1 : Nat) : Int) := by unfold wrap64; omega
    rw [if_pos (by omega), if_pos (by omega), if_pos (by omega), e2]
    exact ih k (i + 1) (by omega) (by omega)
theorem same_some (l : List Int) (hl : l.length ≤ 1000000) : scriniumbook_SameInts.f (l.length + 1) l l = some true := by
  have := same_loop l hl l.length (l.length + 1) 0 (by omega) (by omega)
  simpa [scriniumbook_SameInts.f] using this

theorem syms_append (s t : ByteArray) : syms (s ++ t) = syms s ++ syms t := by
  unfold syms bytesOf
  rw [ByteArray.data_append, Array.toList_append, List.map_append, List.map_append]

theorem info3 : (Try.prog.info? 3).map (fun i => (i.zero, i.size, i.bytes)) = some (some (.int .i64 0), 1, 8) := by kernel_rfl
theorem reads_of {w w1 : World} {xs : List Int} {base : Nat} {A : Option Addr} {c : Nat} (h : (Kd.int .i64).R 3 w1 base (fun _ => True) (.slice A xs.length c) xs) : (Kd.int .i64).C w1 A xs.length xs ∧ xs.length ≤ c := by
  obtain ⟨A', c', hv, hlc, hC⟩ := Kd.R_reads h
  injection hv with h1 h2 h3
  subst h1 h3
  exact ⟨hC, hlc⟩

set_option maxRecDepth 100000 in
set_option maxHeartbeats 2000000 in
theorem SymJoins_main (s t : ByteArray) (hs : s.size ≤ 100) (ht : t.size ≤ 100) (w : World) :
    Calls Try.prog 6 #[.string s, .string t] w fun e w' => e = .returned (.bool true) ∧ Below w.heap.size w w' := by
  have hst : (s ++ t).size = s.size + t.size := ByteArray.size_append
  have ls := syms_length s
  have lt := syms_length t
  have lst := syms_length (s ++ t)
  have C1 := Aside0.mk (All_calls s (by omega))
  have C2 := Aside0.mk (All_calls t (by omega))
  have C3 := Aside0.mk (All_calls (s ++ t) (by omega))
  have SA := Aside0.mk (syms_append s t)
  have g1 : decide (100 < (s.size : Int)) = false := decide_eq_false (by omega)
  have g2 : decide (100 < (t.size : Int)) = false := decide_eq_false (by omega)
  have hsz : s.size + t.size ≤ 9223372036854775807 := by omega
  have AL := Aside0.mk alive_calls
  have LS := Aside0.mk ls
  have LT := Aside0.mk lt
  have LST : Aside0 ((syms (s ++ t)).length = s.size + t.size) := ⟨by omega⟩
  have HST := Aside0.mk hst
  clear hst ls lt lst
  go_enter Try.func6, Try.ntmps6
  go_wp2_with fail
  refine (AL.out _).mono ?_
  rintro e w1 ⟨rfl, hB1⟩
  have B1 := Aside0.mk hB1
  clear hB1
  go_wp2_with fail
  refine (C3.out _).mono ?_
  rintro e w2 ⟨v3, rfl, hR3, hB2⟩
  have R3 := Aside0.mk (Kd.R_mono (ok' := fun k => k < w2.heap.size) (Kd.R_bound hR3) (fun k hk => hk.2.2.1))
  have B2 := Aside0.mk (bstep B1.out hB2)
  clear hR3 hB2 B1
  go_wp2_with fail
  refine (C1.out _).mono ?_
  rintro e w3 ⟨v1, rfl, hR1, hB3⟩
  obtain ⟨A1, c1, rfl, hlc1, hC1⟩ := Kd.R_reads hR1
  have R3' := Aside0.mk (Kd.R_below R3.out hB3)
  have B3 := Aside0.mk (bstep B2.out hB3)
  have S3 := Aside0.mk hB3.size
  have H1 := Aside0.mk hC1
  clear R3 hR1 hB3 hlc1 hC1 B2
  go_wp2_with (at_builtin; refine Kd.R_append_rows (Kd.int .i64) (Rr := (Kd.int .i64).K w3) (w0 := w) w.heap.size rfl (.const (.slice none 0 0)) (.tmp 29) 25 3 (.int .i64 0) 8 rfl Try.underlying25 info3 rfl (by decide) (by omega) (.slice none 0 0) [] (syms s) A1 (syms s).length c1 (fun _ => True) (fun _ => False) rfl rfl ?aO H1.out (fun _ _ h => h) (fun _ h => h.elim) (fun _ _ => trivial) B3.out B3.out.size ?aL ?_; (case aO => exact Kd.R_nil _ _ _ _ _); (case aL => simp only [List.length_nil]; have := LS.out; omega); intro v4 w4 hr4 hb4 hg4 hat4; rw [List.nil_append] at hr4; have R4 := Aside0.mk hr4; have R3'' := Aside0.mk (Kd.R_grown R3'.out hg4 (fun _ _ => by simp [Value.ownBlock])); have B4 := Aside0.mk hb4; have AT : Aside0 (∀ k, k < w2.heap.size → some k ≠ v4.ownBlock) := ⟨fun k hk he => by (rcases hat4 with h | ⟨b, h, hle⟩); (rw [h] at he; simp [Value.ownBlock] at he); (rw [h] at he; injection he with he; have := S3.out; omega)⟩; clear hr4 hb4 hg4 hat4)
  refine (C2.out _).mono ?_
  rintro e w5 ⟨v2, rfl, hR2, hB5⟩
  obtain ⟨A2, c2, rfl, hlc2, hC2⟩ := Kd.R_reads hR2
  have R3c := Aside0.mk (Kd.R_below R3''.out hB5)
  have R4' := Aside0.mk (Kd.R_below R4.out hB5)
  have B5 := Aside0.mk (bstep B4.out hB5)
  have H2 := Aside0.mk hC2
  clear R3' R3'' R4 hR2 hB5 hlc2 hC2 B3 B4
  go_wp2_with (at_builtin; refine Kd.R_append_rows (Kd.int .i64) (Rr := (Kd.int .i64).K w5) (w0 := w) w.heap.size rfl (.tmp 30) (.tmp 32) 25 3 (.int .i64 0) 8 rfl Try.underlying25 info3 rfl (by decide) (by omega) v4 (syms s) (syms t) A2 (syms t).length c2 (fun _ => True) (fun _ => False) rfl rfl R4'.out H2.out (fun _ _ h => h) (fun _ h => h.elim) (fun _ _ => trivial) B5.out B5.out.size ?aL ?_; (case aL => have := LS.out; have := LT.out; omega); intro v6 w6 hr6 hb6 hg6 _; rw [← SA.out] at hr6; have R6 := Aside0.mk hr6; have R3d := Aside0.mk (Kd.R_grown R3c.out hg6 AT.out); have B6 := Aside0.mk hb6; clear hr6 hb6 hg6)
  obtain ⟨A3, c3, rfl, hlc3, hC3⟩ := Kd.R_reads R3d.out
  obtain ⟨A6, c6, rfl, hlc6, hC6⟩ := Kd.R_reads R6.out
  refine (scriniumbook_SameInts.calls _ A3 c3 _ A6 c6 _ true _ hC3 hlc3 hC6 hlc6 (same_some _ (by rw [LST.out]; omega))).mono ?_
  rintro e w7 ⟨rfl, ⟨n7, rfl⟩⟩
  have HC := Aside0.mk hC3
  have B7 := Aside0.mk (pw_below_drewN B6.out n7)
  have C7 := Aside0.mk (Kd.C_drewN hC3 n7)
  rw [LST.out]
  rw [LST.out] at C7
  clear hC3 hlc3 hC6 hlc6 HC
  generalize w6.drewN n7 = w8 at *
  go_wp2_with fail
  go_loopw [38] (fun i wr => ∃ k : Nat, k ≤ s.size + t.size ∧ i = .int .i64 k ∧ Aside0 (Drawn0 w8 wr)) (fun i _ => s.size + t.size - (intOf i).toNat)
  case atStart => exact ⟨0, by omega, rfl, ⟨Drawn0.refl _⟩⟩
  case round =>
    obtain ⟨k, hk, rfl, HD⟩ := hrel
    by_cases hlt : k < s.size + t.size
    · obtain ⟨nd, hw⟩ := HD.out.out
      obtain ⟨ad, cs, rfl, hcs, hK, hcell⟩ := Kd.C_get C7.out 0 (k : Int) (by omega) (by omega)
      have hget : (syms (s ++ t)).getD (k : Int).toNat 0 = bt (s ++ t) k + 1 := by
        rw [Int.toNat_natCast]
        have hl : k < (syms (s ++ t)).length := by rw [LST.out]; omega
        rw [List.getD_eq_getElem?_getD, List.getElem?_eq_getElem hl, Option.getD_some]
        simp only [syms, List.getElem_map]
        rw [bt_get (s ++ t) k (by rw [HST.out]; exact hlt)]
      have hK' : cs = [.int .i64 ((syms (s ++ t)).getD (k : Int).toNat 0)] := hK
      rw [hget] at hK'
      have hc1 := hcell 0 (.int .i64 (bt (s ++ t) k + 1)) (by rw [hK']; rfl)
      have e1 : (k : Int).toNat * (Kd.int .i64).sz + 0 = k := by show (k : Int).toNat * 1 + 0 = k; omega
      rw [e1] at hc1
      have hc2 : wr.cell? (ad.add k) = some (.int .i64 (bt (s ++ t) k + 1)) := by rw [hw]; exact hc1
      have hb := bt_range (s ++ t) (k : Int)
      have BY := Aside0.mk (fun w => sym_Byte.calls (bt (s ++ t) k + 1) (bt (s ++ t) k) true w (byte_some _ hb.1 hb.2))
      have hx := bt_at (s ++ t) (k : Int)
      rw [Int.toNat_natCast] at hx
      have hsz2 : k < (s ++ t).size := by rw [HST.out]; exact hlt
      have hne : (bt (s ++ t) k != bt (s ++ t) k) = false := by simp
      clear hw hcs hK hcell hget hK' hc1 e1 hb
      go_wp2_with fail
      refine (BY.out _).mono ?_
      rintro e w9 ⟨rfl, ⟨n9, rfl⟩⟩
      go_wp2_with fail
      go_roundw
      case rel => exact ⟨k + 1, by omega, by go_num, ⟨HD.out.step _⟩⟩
      case measure => simp [intOf]; omega
    · obtain rfl : k = s.size + t.size := by omega
      go_wp2_with fail
      go_ret
      refine ⟨?_, below_then B7.out B7.out.size HD.out.below⟩
      rfl

theorem SymJoins_all (s t : ByteArray) (w : World) (_ : s.size ≤ 140737488351232) (_ : t.size ≤ 140737488351232) :
    Calls Try.prog 6 #[.string s, .string t] w fun e w' => e = .returned (.bool true) ∧ Below w.heap.size w w' := by
  by_cases h0 : 100 < (s.size : Int)
  case pos =>
    have gg : decide (100 < (s.size : Int)) = true := decide_eq_true h0
    have AL := Aside0.mk alive_calls
    clear h0
    go_enter Try.func6, Try.ntmps6
    go_wp2_with fail
    refine (AL.out _).mono ?_
    rintro e w' ⟨rfl, hb⟩
    go_wp2_with fail
    go_ret
    exact ⟨rfl, hb⟩
  by_cases h1 : 100 < (t.size : Int)
  case pos =>
    have g0 : decide (100 < (s.size : Int)) = false := decide_eq_false h0
    have gg : decide (100 < (t.size : Int)) = true := decide_eq_true h1
    have AL := Aside0.mk alive_calls
    clear h0 h1
    go_enter Try.func6, Try.ntmps6
    go_wp2_with fail
    refine (AL.out _).mono ?_
    rintro e w' ⟨rfl, hb⟩
    go_wp2_with fail
    go_ret
    exact ⟨rfl, hb⟩
  exact SymJoins_main s t (by omega) (by omega) w

end Go.Proofs.Ytcfhcnlbegblcaa.SymA
