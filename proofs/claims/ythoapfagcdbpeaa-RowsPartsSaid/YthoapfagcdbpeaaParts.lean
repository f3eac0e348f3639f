/- The statement RowsParts: a piece comes ahead of what it begins: its plain law and its walk. Conditions: the row's. -/
import Derived.Test.YthoapfagcdbpeaaPure0
import Derived.Test.YthoapfagcdbpeaaKeys
set_option linter.unusedVariables false
set_option linter.unusedSimpArgs false
namespace Go.Proofs.Ythoapfagcdbpeaa.P
open Go.RowKit Go.Proofs.YthoapfagcdbpeaaW.PrintWords Go.Proofs.YthoapfagcdbpeaaW.PrintLast Go.Proofs.YthoapfagcdbpeaaW.PrintMore

theorem ltS_pre : ∀ (s t : List Int) (d e : Int), t ≠ [] → ltS s d (s ++ t) e = true
  | [], [], _, _, h => absurd rfl h
  | [], _ :: _, _, _, _ => by simp [ltS]
  | a :: s, t, d, e, h => by
    rw [List.cons_append]
    unfold ltS
    rw [if_pos rfl]
    exact ltS_pre s t d e h
theorem ltS_asymm {s t : List Int} {d e : Int} (h : ltS s d t e = true) : ltS t e s d = false := by
  cases hb : ltS t e s d with
  | false => rfl
  | true =>
    have := ltS_trans _ _ _ _ _ _ h hb
    rw [ltS_irrefl] at this
    cases this
theorem bytesOf_append (s t : ByteArray) : bytesOf (s ++ t) = bytesOf s ++ bytesOf t := by
  unfold bytesOf
  rw [ByteArray.data_append, Array.toList_append, List.map_append]
theorem less_self (l : List ByteArray) (d i : Int) : lessB l d i d i = false := by
  unfold lessB
  rw [ltS_irrefl, Bool.and_false, Bool.and_false]

theorem row_ok0 (l : List ByteArray) (d : Nat) (h : d < l.length) : rowOk l (d : Int) 0 = true := by
  unfold rowOk
  simp only [Bool.and_eq_true, decide_eq_true_eq]
  omega
theorem suf0 (l : List ByteArray) (d : Int) : suf l d 0 = bytesOf (docAt l d) := rfl
theorem ne_bytes {t : ByteArray} (ht : t.toList ≠ ([] : List UInt8)) : bytesOf t ≠ [] := by
  intro h
  apply ht
  have h1 : (bytesOf t).length = 0 := by rw [h]; rfl
  rw [bytesOf_length] at h1
  obtain ⟨⟨xs⟩⟩ := t
  have h2 : xs.length = 0 := h1
  obtain rfl := List.eq_nil_of_length_eq_zero h2
  exact ByteArray.toList_eq _
theorem less_app (l : List ByteArray) (d e : Nat) (hd : d < l.length) (he : e < l.length) (s t : ByteArray) (h1 : docAt l d = s) (h2 : docAt l e = s ++ t) (ht : t.toList ≠ ([] : List UInt8)) :
    lessB l d 0 e 0 = true ∧ lessB l e 0 d 0 = false := by
  have hlt : ltS (bytesOf s) d (bytesOf (s ++ t)) e = true := by rw [bytesOf_append]; exact ltS_pre _ _ _ _ (ne_bytes ht)
  unfold lessB
  rw [row_ok0 l d hd, row_ok0 l e he, suf0, suf0, h1, h2, Bool.true_and, Bool.true_and, Bool.true_and, Bool.true_and]
  exact ⟨hlt, ltS_asymm hlt⟩
theorem less_f (l : List ByteArray) (d i e j : Int) (h : (docAt l d).size ≤ 140737488351232) : rows_Less.f l d i e j = some (lessB l d i e j) := if_pos h

theorem alive3_callsP (w : World) : Calls Try.prog 14 #[] w fun e w' => e = .returned (.bool true) ∧ Below w.heap.size w w' :=
  scriniumlaw3_alive.calls 5 true w (alive_ok 5 (Nat.le_refl _))
theorem heap_one (W : World) (o : Obj) : (W.alloc o).heap.size = W.heap.size + 1 := Array.size_push _
theorem two_texts {W : World} {ad : Addr} {x y : ByteArray} (hx : W.cell? (ad.add 0) = some (.string x)) (hy : W.cell? (ad.add 1) = some (.string y)) : Kd.C Kd.string W (some ad) ([x, y] : List ByteArray).length [x, y] := by
  refine ⟨rfl, by simp, fun _ => ⟨ad, rfl, fun j p hj => ⟨[.string p], rfl, rfl, fun i u hu => ?_⟩⟩⟩
  have hi : i = 0 := by
    rcases Nat.eq_zero_or_pos i with h | h
    · exact h
    · rw [List.getElem?_eq_none (by simp; omega)] at hu; cases hu
  subst hi
  have hu' : u = .string p := by simpa using hu.symm
  subst hu'
  rcases j with _ | _ | j
  · have : x = p := by simpa using hj
    subst this
    exact hx
  · have : y = p := by simpa using hj
    subst this
    exact hy
  · simp at hj
set_option maxRecDepth 100000 in
set_option maxHeartbeats 4000000 in
theorem parts_main (s t : ByteArray) (b : Bool) (w : World) (h1 : s.size ≤ 40) (h2 : t.size ≤ 20) (h3 : s.size + t.size ≤ 40) (ht : t.toList ≠ ([] : List UInt8)) :
    Calls Try.prog 8 #[.string s, .string t, .bool b] w fun e w' => e = .returned (.bool true) ∧ Below w.heap.size w w' := by
  have c1 : decide ((40 : Int) < (s.size : Int)) = false := decide_eq_false (by omega)
  have c2 : decide ((20 : Int) < (t.size : Int)) = false := decide_eq_false (by omega)
  have v1 : IntKind.i64.wrap ((s.size : Int) + (t.size : Int)) = (s.size : Int) + (t.size : Int) := IntWalk.i64_in _ (by omega)
  have c3 : decide ((40 : Int) < (s.size : Int) + (t.size : Int)) = false := decide_eq_false (by omega)
  have c4 : t.toList.isEmpty = false := by
    cases h : t.toList with
    | nil => exact absurd h ht
    | cons a r => rfl
  have hz : (s ++ t).size = s.size + t.size := by simp
  have AL := Aside0.mk alive3_callsP
  have LC := Aside0.mk (fun (x y : ByteArray) (hx : x.size ≤ 40) (hy : y.size ≤ 40) (d e : Nat) (hd : d < 2) (v : Bool) (h : lessB [x, y] (d : Int) 0 (e : Int) 0 = v) (A0 : Option Addr) w' hr => rows_Less.calls A0 2 [x, y] (d : Int) 0 (e : Int) 0 v w' hr (by simp) (by rw [less_f _ _ _ _ _ (by rcases d with _ | _ | d; exact Nat.le_trans hx (by decide); exact Nat.le_trans hy (by decide); omega), h]))
  go_enter Try.func8, Try.ntmps8
  go_wp2_with fail
  refine (AL.out _).mono ?_
  rintro en w1 ⟨rfl, hb⟩
  have HB1 := Aside0.mk hb
  clear hb
  cases b with
  | true =>
    obtain ⟨q1, q2⟩ := less_app [s ++ t, s] 1 0 (by simp) (by simp) s t rfl rfl ht
    have L1 := Aside0.mk (LC.out (s ++ t) s (by omega) h1 1 0 (by omega) true q1)
    have L2 := Aside0.mk (LC.out (s ++ t) s (by omega) h1 0 1 (by omega) false q2)
    have L3 := Aside0.mk (LC.out (s ++ t) s (by omega) h1 1 1 (by omega) false (less_self _ _ _))
    clear LC q1 q2 ht
    go_wp2_with fail
    obtain ⟨Wa, hWa⟩ : ∃ Wa, w1.alloc (.cells #[.string s, .string (s ++ t)] 9) = Wa := ⟨_, rfl⟩
    have HBWa := Aside0.mk (show Below w.heap.size w Wa by rw [← hWa]; exact below_alloc HB1.out _)
    have ea : w1.heap.size + 1 = Wa.heap.size := by rw [← hWa, heap_one]
    rw [hWa, ea]
    clear hWa ea
    obtain ⟨Wb, hWb⟩ : ∃ Wb, Wa.alloc (.cells #[.string (s ++ t), .string s] 9) = Wb := ⟨_, rfl⟩
    have HBWb := Aside0.mk (show Below w.heap.size w Wb by rw [← hWb]; exact below_alloc HBWa.out _)
    have eWb : Wa.heap.size + 1 = Wb.heap.size := by rw [← hWb, heap_one]
    have g0 : Wb.cell? (Addr.add ⟨Wa.heap.size, 0, none⟩ 0) = some (.string (s ++ t)) := by rw [← hWb]; exact cell_new Wa _ _ 0 _ rfl
    have g1 : Wb.cell? (Addr.add ⟨Wa.heap.size, 0, none⟩ 1) = some (.string s) := by rw [← hWb]; exact cell_new Wa _ _ 1 _ rfl
    have hcb := two_texts g0 g1
    rw [hWb, eWb]
    clear hWb eWb g0 g1
    obtain ⟨Wc, hWc⟩ : ∃ Wc, Wb.alloc (.cells #[.int .i64 1, .int .i64 0] 24) = Wc := ⟨_, rfl⟩
    have HBWc := Aside0.mk (show Below w.heap.size w Wc by rw [← hWc]; exact below_alloc HBWb.out _)
    have eWc : Wb.heap.size + 1 = Wc.heap.size := by rw [← hWc, heap_one]
    have p0 : Wc.cell? ⟨Wb.heap.size, 0, none⟩ = some (.int .i64 1) := by rw [← hWc]; exact cell_new Wb _ _ 0 _ rfl
    have p1 : Wc.cell? ⟨Wb.heap.size, 1, none⟩ = some (.int .i64 0) := by rw [← hWc]; exact cell_new Wb _ _ 1 _ rfl
    have hcc : Kd.C Kd.string Wc (some ⟨Wa.heap.size, 0, none⟩) ([(s ++ t), s] : List ByteArray).length [(s ++ t), s] := by rw [← hWc]; exact Kd.C_alloc hcb _
    rw [hWc, eWc]
    clear hWc eWc hcb
    obtain ⟨Wd, hWd⟩ : ∃ Wd, Wc.alloc (.cells #[.int .i64 0, .int .i64 0] 24) = Wd := ⟨_, rfl⟩
    have HBWd := Aside0.mk (show Below w.heap.size w Wd by rw [← hWd]; exact below_alloc HBWc.out _)
    have eWd : Wc.heap.size + 1 = Wd.heap.size := by rw [← hWd, heap_one]
    have q0 : Wd.cell? ⟨Wc.heap.size, 0, none⟩ = some (.int .i64 0) := by rw [← hWd]; exact cell_new Wc _ _ 0 _ rfl
    have q1 : Wd.cell? ⟨Wc.heap.size, 1, none⟩ = some (.int .i64 0) := by rw [← hWd]; exact cell_new Wc _ _ 1 _ rfl
    have HCD : Aside0 (Kd.C Kd.string Wd (some ⟨Wa.heap.size, 0, none⟩) ([(s ++ t), s] : List ByteArray).length [(s ++ t), s]) := ⟨by rw [← hWd]; exact Kd.C_alloc hcc _⟩
    have P0 : Aside0 (Wd.cell? ⟨Wb.heap.size, 0, none⟩ = some (.int .i64 1)) := ⟨by rw [← hWd]; exact pw_cell_below (below_alloc (Below.refl _ _) _) p0⟩
    have P1 : Aside0 (Wd.cell? ⟨Wb.heap.size, 1, none⟩ = some (.int .i64 0)) := ⟨by rw [← hWd]; exact pw_cell_below (below_alloc (Below.refl _ _) _) p1⟩
    have Q0 := Aside0.mk q0
    have Q1 := Aside0.mk q1
    rw [hWd]
    clear hWd eWd hcc p0 p1 q0 q1
    have BD := Aside0.mk (Below.refl Wd.heap.size Wd)
    refine (L1.out _ _ (Kd.C_below HCD.out BD.out)).mono ?_
    rintro en u1 ⟨rfl, hb⟩
    have BD' := Aside0.mk (below_step BD.out hb)
    clear BD hb
    have BD := BD'
    clear BD'
    have p0 := pw_cell_below BD.out P0.out
    have p1 := pw_cell_below BD.out P1.out
    have q0 := pw_cell_below BD.out Q0.out
    have q1 := pw_cell_below BD.out Q1.out
    go_wp2_with fail
    clear p0 p1 q0 q1
    refine (L2.out _ _ (Kd.C_below HCD.out BD.out)).mono ?_
    rintro en u2 ⟨rfl, hb⟩
    have BD' := Aside0.mk (below_step BD.out hb)
    clear BD hb
    have BD := BD'
    clear BD'
    have p0 := pw_cell_below BD.out P0.out
    have p1 := pw_cell_below BD.out P1.out
    have q0 := pw_cell_below BD.out Q0.out
    have q1 := pw_cell_below BD.out Q1.out
    go_wp2_with fail
    clear p0 p1 q0 q1
    refine (L3.out _ _ (Kd.C_below HCD.out BD.out)).mono ?_
    rintro en u3 ⟨rfl, hb⟩
    have HZ := Aside0.mk (below_step HBWd.out (below_step BD.out hb))
    clear hb
    go_wp2_with fail
    go_ret
    exact ⟨by first | rfl | simp, HZ.out⟩
  | false =>
    obtain ⟨q1, q2⟩ := less_app [s, s ++ t] 0 1 (by simp) (by simp) s t rfl rfl ht
    have L1 := Aside0.mk (LC.out s (s ++ t) h1 (by omega) 0 1 (by omega) true q1)
    have L2 := Aside0.mk (LC.out s (s ++ t) h1 (by omega) 1 0 (by omega) false q2)
    have L3 := Aside0.mk (LC.out s (s ++ t) h1 (by omega) 0 0 (by omega) false (less_self _ _ _))
    clear LC q1 q2 ht
    have HBw1 := HB1
    go_wp2_with fail
    obtain ⟨Wb, hWb⟩ : ∃ Wb, w1.alloc (.cells #[.string s, .string (s ++ t)] 9) = Wb := ⟨_, rfl⟩
    have HBWb := Aside0.mk (show Below w.heap.size w Wb by rw [← hWb]; exact below_alloc HBw1.out _)
    have eWb : w1.heap.size + 1 = Wb.heap.size := by rw [← hWb, heap_one]
    have g0 : Wb.cell? (Addr.add ⟨w1.heap.size, 0, none⟩ 0) = some (.string s) := by rw [← hWb]; exact cell_new w1 _ _ 0 _ rfl
    have g1 : Wb.cell? (Addr.add ⟨w1.heap.size, 0, none⟩ 1) = some (.string (s ++ t)) := by rw [← hWb]; exact cell_new w1 _ _ 1 _ rfl
    have hcb := two_texts g0 g1
    rw [hWb, eWb]
    clear hWb eWb g0 g1
    obtain ⟨Wc, hWc⟩ : ∃ Wc, Wb.alloc (.cells #[.int .i64 0, .int .i64 0] 24) = Wc := ⟨_, rfl⟩
    have HBWc := Aside0.mk (show Below w.heap.size w Wc by rw [← hWc]; exact below_alloc HBWb.out _)
    have eWc : Wb.heap.size + 1 = Wc.heap.size := by rw [← hWc, heap_one]
    have p0 : Wc.cell? ⟨Wb.heap.size, 0, none⟩ = some (.int .i64 0) := by rw [← hWc]; exact cell_new Wb _ _ 0 _ rfl
    have p1 : Wc.cell? ⟨Wb.heap.size, 1, none⟩ = some (.int .i64 0) := by rw [← hWc]; exact cell_new Wb _ _ 1 _ rfl
    have hcc : Kd.C Kd.string Wc (some ⟨w1.heap.size, 0, none⟩) ([s, (s ++ t)] : List ByteArray).length [s, (s ++ t)] := by rw [← hWc]; exact Kd.C_alloc hcb _
    rw [hWc, eWc]
    clear hWc eWc hcb
    obtain ⟨Wd, hWd⟩ : ∃ Wd, Wc.alloc (.cells #[.int .i64 1, .int .i64 0] 24) = Wd := ⟨_, rfl⟩
    have HBWd := Aside0.mk (show Below w.heap.size w Wd by rw [← hWd]; exact below_alloc HBWc.out _)
    have eWd : Wc.heap.size + 1 = Wd.heap.size := by rw [← hWd, heap_one]
    have q0 : Wd.cell? ⟨Wc.heap.size, 0, none⟩ = some (.int .i64 1) := by rw [← hWd]; exact cell_new Wc _ _ 0 _ rfl
    have q1 : Wd.cell? ⟨Wc.heap.size, 1, none⟩ = some (.int .i64 0) := by rw [← hWd]; exact cell_new Wc _ _ 1 _ rfl
    have HCD : Aside0 (Kd.C Kd.string Wd (some ⟨w1.heap.size, 0, none⟩) ([s, (s ++ t)] : List ByteArray).length [s, (s ++ t)]) := ⟨by rw [← hWd]; exact Kd.C_alloc hcc _⟩
    have P0 : Aside0 (Wd.cell? ⟨Wb.heap.size, 0, none⟩ = some (.int .i64 0)) := ⟨by rw [← hWd]; exact pw_cell_below (below_alloc (Below.refl _ _) _) p0⟩
    have P1 : Aside0 (Wd.cell? ⟨Wb.heap.size, 1, none⟩ = some (.int .i64 0)) := ⟨by rw [← hWd]; exact pw_cell_below (below_alloc (Below.refl _ _) _) p1⟩
    have Q0 := Aside0.mk q0
    have Q1 := Aside0.mk q1
    rw [hWd]
    clear hWd eWd hcc p0 p1 q0 q1
    have BD := Aside0.mk (Below.refl Wd.heap.size Wd)
    refine (L1.out _ _ (Kd.C_below HCD.out BD.out)).mono ?_
    rintro en u1 ⟨rfl, hb⟩
    have BD' := Aside0.mk (below_step BD.out hb)
    clear BD hb
    have BD := BD'
    clear BD'
    have p0 := pw_cell_below BD.out P0.out
    have p1 := pw_cell_below BD.out P1.out
    have q0 := pw_cell_below BD.out Q0.out
    have q1 := pw_cell_below BD.out Q1.out
    go_wp2_with fail
    clear p0 p1 q0 q1
    refine (L2.out _ _ (Kd.C_below HCD.out BD.out)).mono ?_
    rintro en u2 ⟨rfl, hb⟩
    have BD' := Aside0.mk (below_step BD.out hb)
    clear BD hb
    have BD := BD'
    clear BD'
    have p0 := pw_cell_below BD.out P0.out
    have p1 := pw_cell_below BD.out P1.out
    have q0 := pw_cell_below BD.out Q0.out
    have q1 := pw_cell_below BD.out Q1.out
    go_wp2_with fail
    clear p0 p1 q0 q1
    refine (L3.out _ _ (Kd.C_below HCD.out BD.out)).mono ?_
    rintro en u3 ⟨rfl, hb⟩
    have HZ := Aside0.mk (below_step HBWd.out (below_step BD.out hb))
    clear hb
    go_wp2_with fail
    go_ret
    exact ⟨by first | rfl | simp, HZ.out⟩
set_option maxRecDepth 100000 in
theorem parts_o1 (s t : ByteArray) (b : Bool) (w : World) (h1 : 40 < s.size) :
    Calls Try.prog 8 #[.string s, .string t, .bool b] w fun e w' => e = .returned (.bool true) ∧ Below w.heap.size w w' := by
  have c1 : decide ((40 : Int) < (s.size : Int)) = true := decide_eq_true (by omega)
  have AL := Aside0.mk alive3_callsP
  go_enter Try.func8, Try.ntmps8
  go_wp2_with fail
  refine (AL.out _).mono ?_
  rintro en w1 ⟨rfl, hb⟩
  have HB1 := Aside0.mk hb
  clear hb
  go_wp2_with fail
  go_ret
  exact ⟨rfl, HB1.out⟩
set_option maxRecDepth 100000 in
theorem parts_o2 (s t : ByteArray) (b : Bool) (w : World) (h1 : s.size ≤ 40) (h2 : 20 < t.size) :
    Calls Try.prog 8 #[.string s, .string t, .bool b] w fun e w' => e = .returned (.bool true) ∧ Below w.heap.size w w' := by
  have c1 : decide ((40 : Int) < (s.size : Int)) = false := decide_eq_false (by omega)
  have c2 : decide ((20 : Int) < (t.size : Int)) = true := decide_eq_true (by omega)
  have AL := Aside0.mk alive3_callsP
  go_enter Try.func8, Try.ntmps8
  go_wp2_with fail
  refine (AL.out _).mono ?_
  rintro en w1 ⟨rfl, hb⟩
  have HB1 := Aside0.mk hb
  clear hb
  go_wp2_with fail
  go_ret
  exact ⟨rfl, HB1.out⟩
set_option maxRecDepth 100000 in
theorem parts_o3 (s t : ByteArray) (b : Bool) (w : World) (h1 : s.size ≤ 40) (h2 : t.size ≤ 20) (h3 : 40 < s.size + t.size) :
    Calls Try.prog 8 #[.string s, .string t, .bool b] w fun e w' => e = .returned (.bool true) ∧ Below w.heap.size w w' := by
  have c1 : decide ((40 : Int) < (s.size : Int)) = false := decide_eq_false (by omega)
  have c2 : decide ((20 : Int) < (t.size : Int)) = false := decide_eq_false (by omega)
  have v1 : IntKind.i64.wrap ((s.size : Int) + (t.size : Int)) = (s.size : Int) + (t.size : Int) := IntWalk.i64_in _ (by omega)
  have c3 : decide ((40 : Int) < (s.size : Int) + (t.size : Int)) = true := decide_eq_true (by omega)
  have AL := Aside0.mk alive3_callsP
  go_enter Try.func8, Try.ntmps8
  go_wp2_with fail
  refine (AL.out _).mono ?_
  rintro en w1 ⟨rfl, hb⟩
  have HB1 := Aside0.mk hb
  clear hb
  go_wp2_with fail
  go_ret
  exact ⟨rfl, HB1.out⟩
set_option maxRecDepth 100000 in
theorem parts_o4 (s t : ByteArray) (b : Bool) (w : World) (h1 : s.size ≤ 40) (h2 : t.size ≤ 20) (h3 : s.size + t.size ≤ 40) (ht : t.toList = ([] : List UInt8)) :
    Calls Try.prog 8 #[.string s, .string t, .bool b] w fun e w' => e = .returned (.bool true) ∧ Below w.heap.size w w' := by
  have c1 : decide ((40 : Int) < (s.size : Int)) = false := decide_eq_false (by omega)
  have c2 : decide ((20 : Int) < (t.size : Int)) = false := decide_eq_false (by omega)
  have v1 : IntKind.i64.wrap ((s.size : Int) + (t.size : Int)) = (s.size : Int) + (t.size : Int) := IntWalk.i64_in _ (by omega)
  have c3 : decide ((40 : Int) < (s.size : Int) + (t.size : Int)) = false := decide_eq_false (by omega)
  have c4 : t.toList.isEmpty = true := by rw [ht]; rfl
  have AL := Aside0.mk alive3_callsP
  go_enter Try.func8, Try.ntmps8
  go_wp2_with fail
  refine (AL.out _).mono ?_
  rintro en w1 ⟨rfl, hb⟩
  have HB1 := Aside0.mk hb
  clear hb
  go_wp2_with fail
  go_ret
  exact ⟨rfl, HB1.out⟩
theorem RowsParts_all (a0 a1 : ByteArray) (a2 : Bool) (w : World) (_ : a0.size ≤ 140737488351232) (_ : a1.size ≤ 140737488351232) :
    Calls Try.prog 8 #[.string a0, .string a1, .bool a2] w fun e w' => e = .returned (.bool true) ∧ Below w.heap.size w w' := by
  by_cases h1 : a0.size ≤ 40
  case neg => exact parts_o1 a0 a1 a2 w (by omega)
  by_cases h2 : a1.size ≤ 20
  case neg => exact parts_o2 a0 a1 a2 w h1 (by omega)
  by_cases h3 : a0.size + a1.size ≤ 40
  case neg => exact parts_o3 a0 a1 a2 w h1 h2 (by omega)
  by_cases h4 : a1.toList = ([] : List UInt8)
  · exact parts_o4 a0 a1 a2 w h1 h2 h3 h4
  · exact parts_main a0 a1 a2 w h1 h2 h3 h4
end Go.Proofs.Ythoapfagcdbpeaa.P
