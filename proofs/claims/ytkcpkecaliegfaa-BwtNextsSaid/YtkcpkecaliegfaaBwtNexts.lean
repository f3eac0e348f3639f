/- The statement BwtNexts: no two rows have the same next one: its plain law and its walk. Conditions: the row's. -/
import Derived.Test.YtkcpkecaliegfaaBwtC
import Derived.Test.YtkcpkecaliegfaaMapB
set_option linter.unusedVariables false
set_option linter.unusedSimpArgs false
namespace Go.Proofs.Ytkcpkecaliegfaa.P
open Go.RowKit Go.Proofs.YtkcpkecaliegfaaW.PrintWords Go.Proofs.YtkcpkecaliegfaaW.PrintLast Go.Proofs.YtkcpkecaliegfaaW.PrintMore
open Go.ChangeMaps (setBlock)

theorem before_count (s : List Int) {x y : Int} (h : x < y) : before x s + s.countP (fun z => decide (z = x)) ≤ before y s := by
  unfold before
  rw [← countP_split (fun z => decide (z < x)) (fun z => decide (z = x)) (fun z hz => by rw [decide_eq_true_eq] at hz; exact decide_eq_false (by omega))]
  exact List.countP_mono_left (fun z _ hz => by
    rw [Bool.or_eq_true, decide_eq_true_eq, decide_eq_true_eq] at hz
    exact decide_eq_true (by omega))
theorem rank_lt (s : List Int) {i j : Nat} (hij : i < j) (hj : j ≤ s.length) (x : Int) (h : symOf s i = x) : rank x i s < rank x j s := by
  have h1 : rank x (i + 1) s = rank x i s + 1 := by
    unfold rank
    rw [List.take_succ_eq_append_getElem (by omega), List.countP_append]
    rw [symOf_get s i (by omega)] at h
    simp [List.countP_cons, h]
  have h2 := rank_mono x s (show i + 1 ≤ j by omega)
  omega
theorem rank_all (s : List Int) {i : Nat} (hi : i < s.length) (x : Int) (h : symOf s i = x) : rank x i s < s.countP (fun z => decide (z = x)) := by
  have h1 := rank_lt s hi (Nat.le_refl _) x h
  unfold rank at h1 ⊢
  rwa [List.take_length] at h1
/-- No two rows have the same next one. -/
theorem next_inj (s : List Int) {i j : Nat} (hi : i < s.length) (hj : j < s.length) (h : nextOf s i = nextOf s j) : i = j := by
  have key : ∀ {i j : Nat}, i < s.length → j < s.length → symOf s i < symOf s j → nextOf s i < nextOf s j := by
    intro i j hi hj hlt
    unfold nextOf
    have h1 := before_count s hlt
    have h2 := rank_all s hi _ rfl
    omega
  have key2 : ∀ {i j : Nat}, i < j → j < s.length → symOf s i = symOf s j → nextOf s i < nextOf s j := by
    intro i j hij hj he
    unfold nextOf
    have h1 := rank_lt s hij (by omega) (symOf s j) he
    rw [he]
    omega
  rcases Int.lt_trichotomy (symOf s i) (symOf s j) with h1 | h1 | h1
  · have := key hi hj h1; omega
  · rcases Nat.lt_trichotomy i j with h2 | h2 | h2
    · have := key2 h2 hj h1; omega
    · exact h2
    · have := key2 h2 hi h1.symm; omega
  · have := key hj hi h1; omega
/-- The next rows of the first ones. -/
def seenOf (s : List Int) (k : Nat) : List Int := ((List.range k).filter (fun i => decide (symOf s i ≠ 0))).map fun i : Nat => (nextOf s i : Int)
theorem seen_succ (s : List Int) (k : Nat) : seenOf s (k + 1) = if symOf s k = 0 then seenOf s k else seenOf s k ++ [(nextOf s k : Int)] := by
  unfold seenOf
  rw [List.range_succ, List.filter_append, List.map_append]
  by_cases h : symOf s k = 0
  · rw [if_pos h]; simp [h]
  · rw [if_neg h]; simp [h]
theorem seen_not (s : List Int) (k : Nat) (hk : k < s.length) : (nextOf s k : Int) ∉ seenOf s k := by
  intro hm
  unfold seenOf at hm
  obtain ⟨i, hi, he⟩ := List.mem_map.1 hm
  have h1 := List.mem_range.1 (List.mem_filter.1 hi).1
  have := next_inj s (show i < s.length by omega) hk (by omega)
  omega
theorem alive4_calls (w : World) : Calls Try.prog 28 #[] w fun e w' => e = .returned (.bool true) ∧ Below w.heap.size w w' := by
  obtain ⟨k, h⟩ := alive4_ev.rounds
  exact scriniumlaw4_alive.calls k true w h
theorem bool_zero (w : World) : (zeroValue 4).run Try.prog w = .ok (.bool false) w := by kernel_rfl

set_option maxRecDepth 100000 in
set_option maxHeartbeats 4000000 in
theorem nexts_main (A0 : Option Addr) (c0 : Nat) (l0 : List Int) (w : World) (hC : Kd.C (Kd.int .i64) w A0 l0.length l0) (hc : l0.length ≤ c0) (hn : l0.length ≤ 120) (hcol : colB l0 = true) :
    Calls Try.prog 14 #[.slice A0 l0.length c0] w fun e w' => e = .returned (.bool true) ∧ Below w.heap.size w w' := by
  have t1 : decide ((120 : Int) < (l0.length : Int)) = false := decide_eq_false (by omega)
  have RC := Aside0.mk (bwt_Right.calls A0 c0 l0 true w hC hc (by rw [col_f l0 (by omega), hcol]))
  have AL := Aside0.mk alive4_calls
  have NX := Aside0.mk (fun (i : Nat) (hi : i < l0.length) (h0 : symOf l0 i ≠ 0) w' (hr : Kd.C (Kd.int .i64) w' A0 l0.length l0) => bwt_Next.calls (l0.length + 2) (i : Int) A0 c0 l0 (nextOf l0 i : Int) true w' hr hc (next_ok l0 (by omega) i hi hcol h0 _ (Nat.le_refl _)))
  have NZ := Aside0.mk (fun (i : Int) (h : (l0.length : Int) ≤ i ∨ rd l0 i = 0) w' (hr : Kd.C (Kd.int .i64) w' A0 l0.length l0) => bwt_Next.calls 1 i A0 c0 l0 0 false w' hr hc (next_none l0 (by omega) i (Or.inr (Or.inr h)) 1 (Nat.le_refl _)))
  have SX := Aside0.mk (fun (i : Nat) (h : i < l0.length) => col_sym l0 hcol i h)
  have HR := Aside0.mk hC
  have HN := Aside0.mk hn
  have hmm := @run_makeMap Try.prog
  clear hC hc hn hcol
  go_enter Try.func14, Try.ntmps14
  go_wp2_with fail
  refine RC.out.mono ?_
  rintro en w1 ⟨rfl, hb⟩
  have HB1 := Aside0.mk hb
  clear hb
  go_wp2_with fail
  refine (AL.out _).mono ?_
  rintro en w2 ⟨rfl, hb⟩
  have HB2 := Aside0.mk (below_step HB1.out hb)
  clear hb
  go_wp2_with fail
  clear t1
  have HS2 : Aside0 (IsSet (w2.alloc (.map #[] 0)) w2.heap.size ((seenOf l0 0).map (fun x : Int => Value.int .i64 x))) := ⟨isSet_new w2⟩
  obtain ⟨W3, hW3⟩ : ∃ W3, w2.alloc (.map #[] 0) = W3 := ⟨_, rfl⟩
  have HB3 : Aside0 (Below w.heap.size w W3) := ⟨by rw [← hW3]; exact below_alloc HB2.out _⟩
  obtain ⟨B, hB⟩ : ∃ B, w2.heap.size = B := ⟨_, rfl⟩
  have HBB : Aside0 (w.heap.size ≤ B) := ⟨by rw [← hB]; exact HB2.out.size⟩
  rw [hW3, hB] at HS2
  rw [hW3, hB]
  clear hW3 hB hmm
  go_loopw [25] (fun i wr => ∃ k : Nat, k ≤ l0.length ∧ i = .int .i64 k ∧ Aside0 (IsSet wr B ((seenOf l0 k).map (fun x : Int => Value.int .i64 x))) ∧ Aside0 (Below w.heap.size w wr)) (fun i _ => l0.length - (intOf i).toNat)
  case atStart => exact ⟨0, Nat.zero_le _, rfl, HS2, HB3⟩
  case round =>
    obtain ⟨k, hk, rfl, HS, HB⟩ := hrel
    by_cases hlt : k < l0.length
    · have hsx := SX.out k hlt
      obtain ⟨ad, hA, hx0⟩ := Kd.at_int (Kd.C_below HR.out HB.out) (k : Int) (by omega) (by omega)
      subst hA
      have hxs : rd l0 (k : Int) = symOf l0 k := by rw [rd_get l0 k hlt, symOf_get l0 k hlt]
      have c1 : decide ((k : Int) < (l0.length : Int)) = true := decide_eq_true (by omega)
      have v1 : ((k : Int) < (l0.length : Int)) = True := eq_true (by omega)
      have v2 : (0 ≤ (k : Int)) = True := eq_true (by omega)
      have v3 : IntKind.i64.wrap ((k : Int) + 1) = (k : Int) + 1 := IntWalk.i64_in _ (by have := HN.out; omega)
      by_cases h0 : symOf l0 k = 0
      · have hseen : seenOf l0 (k + 1) = seenOf l0 k := by rw [seen_succ, if_pos h0]
        rw [← hseen] at HS
        have NC := Aside0.mk (fun w' hr => NZ.out (k : Int) (Or.inr (hxs.trans h0)) w' hr)
        rw [Int.toNat_natCast, hxs, h0] at hx0
        clear hseen hxs h0 hsx
        go_wp2_with fail
        refine (NC.out _ (Kd.C_below HR.out HB.out)).mono ?_
        rintro en w4 ⟨rfl, hb⟩
        have y1 := pw_cell_below hb hx0
        have HS4 := Aside0.mk (isSet_below HS.out hb (isSet_lt HS.out))
        have HB4 := Aside0.mk (below_step HB.out hb)
        clear hb hx0
        go_wp2_with fail
        go_roundw
        case rel => exact ⟨k + 1, by omega, by go_num, HS4, HB4⟩
        case measure => simp [intOf]; omega
      · have hseen : seenOf l0 (k + 1) = seenOf l0 k ++ [(nextOf l0 k : Int)] := by rw [seen_succ, if_neg h0]
        have hnot := seen_not l0 k hlt
        have hnl := before_rank_lt l0 k hlt
        have NC := Aside0.mk (NX.out k hlt h0)
        obtain ⟨x, hx⟩ : ∃ x, symOf l0 k = x := ⟨_, rfl⟩
        obtain ⟨n, hn⟩ : ∃ n : Int, (nextOf l0 k : Int) = n := ⟨_, rfl⟩
        rw [hx] at hxs hsx
        rw [hn] at hseen hnot NC
        have t2 : decide (0 < x) = true := decide_eq_true (by rw [hx] at h0; omega)
        have t3 : decide (n < 0) = false := decide_eq_false (by omega)
        have t4 : decide ((l0.length : Int) ≤ n) = false := decide_eq_false (by omega)
        rw [Int.toNat_natCast, hxs] at hx0
        have HQ : Aside0 (n ∉ seenOf l0 k ∧ seenOf l0 (k + 1) = seenOf l0 k ++ [n] ∧ k < l0.length) := ⟨⟨hnot, hseen, hlt⟩⟩
        clear hseen hnot hxs h0 hsx hnl hx hn hlt
        go_wp2_with fail
        refine (NC.out _ (Kd.C_below HR.out HB.out)).mono ?_
        rintro en w4 ⟨rfl, hb⟩
        have y1 := pw_cell_below hb hx0
        have hs4 := isSet_below HS.out hb (isSet_lt HS.out)
        have hlk := lookup_set (int_key (P := Try.prog) Try.underlying3) (T := 52) (E := 4) Try.underlying52 bool_zero hs4 n
        rw [decide_eq_false HQ.out.1] at hlk
        obtain ⟨w5, hst, hs5, hu⟩ := store_set (int_key (P := Try.prog) Try.underlying3) (T := 52) Try.underlying52 hs4 n HQ.out.1
        rw [← HQ.out.2.1] at hs5
        have HS5 := Aside0.mk hs5
        have HB5 := Aside0.mk (hu.below (below_step HB.out hb) HBB.out)
        have KL := HQ.out.2.2
        clear hb hx0 hs4 hs5 hu HQ
        go_wp2_with fail
        go_roundw
        case rel => exact ⟨k + 1, by omega, by go_num, HS5, HB5⟩
        case measure => simp [intOf]; omega
    · obtain rfl : k = l0.length := by omega
      have c1 : decide ((l0.length : Int) < (l0.length : Int)) = false := decide_eq_false (by omega)
      have NC := Aside0.mk (NZ.out (l0.length : Int) (Or.inl (Int.le_refl _)))
      clear hlt
      go_wp2_with fail
      refine (NC.out _ (Kd.C_below HR.out HB.out)).mono ?_
      rintro en w4 ⟨rfl, hb⟩
      have HB4 := Aside0.mk (below_step HB.out hb)
      clear hb
      go_wp2_with fail
      go_ret
      exact ⟨rfl, HB4.out⟩
set_option maxRecDepth 100000 in
theorem nexts_long (A0 : Option Addr) (c0 : Nat) (l0 : List Int) (w : World) (hn : 120 < l0.length) :
    Calls Try.prog 14 #[.slice A0 l0.length c0] w fun e w' => e = .returned (.bool true) ∧ Below w.heap.size w w' := by
  have t1 : decide ((120 : Int) < (l0.length : Int)) = true := decide_eq_true (by omega)
  have AL := Aside0.mk alive4_calls
  clear hn
  go_enter Try.func14, Try.ntmps14
  go_wp2_with fail
  refine (AL.out _).mono ?_
  rintro en w2 ⟨rfl, hb⟩
  have HB2 := Aside0.mk hb
  clear hb
  go_wp2_with fail
  go_ret
  exact ⟨rfl, HB2.out⟩
set_option maxRecDepth 100000 in
theorem nexts_wrong (A0 : Option Addr) (c0 : Nat) (l0 : List Int) (w : World) (hC : Kd.C (Kd.int .i64) w A0 l0.length l0) (hc : l0.length ≤ c0) (hn : l0.length ≤ 120) (hcol : colB l0 = false) :
    Calls Try.prog 14 #[.slice A0 l0.length c0] w fun e w' => e = .returned (.bool true) ∧ Below w.heap.size w w' := by
  have t1 : decide ((120 : Int) < (l0.length : Int)) = false := decide_eq_false (by omega)
  have RC := Aside0.mk (bwt_Right.calls A0 c0 l0 false w hC hc (by rw [col_f l0 (by omega), hcol]))
  have AL := Aside0.mk alive4_calls
  clear hC hc hn hcol
  go_enter Try.func14, Try.ntmps14
  go_wp2_with fail
  refine RC.out.mono ?_
  rintro en w1 ⟨rfl, hb⟩
  have HB1 := Aside0.mk hb
  clear hb
  go_wp2_with fail
  refine (AL.out _).mono ?_
  rintro en w2 ⟨rfl, hb⟩
  have HB2 := Aside0.mk (below_step HB1.out hb)
  clear hb
  go_wp2_with fail
  go_ret
  exact ⟨rfl, HB2.out⟩
theorem BwtNexts_all (A0 : Option Addr) (c0 : Nat) (l0 : List Int) (w : World) (hC : Kd.C (Kd.int .i64) w A0 l0.length l0) (hc : l0.length ≤ c0) (hs : ∀ x ∈ l0, (Lit.int .i64 x).wf = true) (hl : l0.length * 8 ≤ 140737488351232) :
    Calls Try.prog 14 #[.slice A0 l0.length c0] w fun e w' => e = .returned (.bool true) ∧ Below w.heap.size w w' := by
  by_cases hn : l0.length ≤ 120
  · cases hcol : colB l0 with
    | true => exact nexts_main A0 c0 l0 w hC hc hn hcol
    | false => exact nexts_wrong A0 c0 l0 w hC hc hn hcol
  · exact nexts_long A0 c0 l0 w (by omega)
end Go.Proofs.Ytkcpkecaliegfaa.P
