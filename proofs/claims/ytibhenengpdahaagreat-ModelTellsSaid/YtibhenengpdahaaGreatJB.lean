/- The function find of package model: the first place at which a document of this number stands. Conditions: how the list lies in memory. -/
import Derived.Test.YtibhenengpdahaaGreatJA
section
set_option linter.unusedVariables false
set_option linter.unusedSimpArgs false
namespace Go.Proofs.YtibhenengpdahaaGreat.P
open Go.RowKit Go.Proofs.YtibhenengpdahaaGreatW.PrintWords Go.Proofs.YtibhenengpdahaaGreatW.PrintLast Go.Proofs.YtibhenengpdahaaGreatW.PrintMore

theorem cell_new0 (W : World) (cs : Array Value) (t : TypeId) (i : Nat) (v : Value) (h : cs[i]? = some v) : (W.alloc (.cells cs t)).cell? ⟨W.heap.size, i, none⟩ = some v := by
 have hb : (W.alloc (.cells cs t)).heap[W.heap.size]? = some (.cells cs t (0, 0)) := heap_alloc_new W _
 unfold World.cell?
 dsimp only
 rw [hb]
 exact h
/-- The first document of a number: its place, or -1. -/
def findOf (l : List S27) (id : Int) : Int := match l.findIdx? (fun d => d.f0 == id) with | some i => (i : Int) | none => -1
def model_find.f (l0 : List S27) (a1 : Int) : Option Int := some (findOf l0 a1)
theorem find_at (l : List S27) (id : Int) (k : Nat) (hk : k < l.length) (hb : ∀ j, (h : j < k) → l[j].f0 ≠ id) (he : l[k].f0 = id) : findOf l id = (k : Int) := by
 have h : l.findIdx? (fun d => d.f0 == id) = some k := by
  rw [List.findIdx?_eq_some_iff_getElem]
  exact ⟨hk, by simp [he], fun j hj => by simp [hb j hj]⟩
 unfold findOf
 rw [h]
theorem find_none (l : List S27) (id : Int) (hb : ∀ j, (h : j < l.length) → l[j].f0 ≠ id) : findOf l id = -1 := by
 have h : l.findIdx? (fun d => d.f0 == id) = none := by
  rw [List.findIdx?_eq_none_iff]
  intro x hx
  obtain ⟨j, hj, rfl⟩ := List.getElem_of_mem hx
  simp [hb j hj]
 unfold findOf
 rw [h]
theorem rd_doc_get (xs : List S27) (j : Nat) (h : j < xs.length) : rd_T27 xs (j : Int) = xs[j] := by
 unfold rd_T27
 rw [Int.toNat_natCast, List.getD_eq_getElem?_getD, List.getElem?_eq_getElem h]
 rfl
theorem docIs_calls (p : Addr) (id : Int) (x0 : Int) (x1 : ByteArray) (w : World) (hp : w.cell? p = some (.int .i64 id)) (v : Bool) (hv : (x0 == id) = v) : Calls Tryz.prog 79 #[.agg #[.int .i64 x0, .string x1], .pointer (some p)] w fun e w' => e = .returned (.bool v) ∧ Below w.heap.size w w' := by
 have hp1 : (w.alloc (.cells #[.int .i64 x0, .string x1] 27)).cell? p = some (.int .i64 id) := pw_cell_below (below_alloc (Below.refl _ _) _) hp
 go_enter Tryz.func79, Tryz.ntmps79
 go_wp2_with fail
 go_ret
 exact ⟨rfl, below_alloc (Below.refl _ _) _⟩
set_option maxHeartbeats 1000000 in
theorem findIn_calls (p : Addr) (id : Int) (A0 : Option Addr) (c0 : Nat) (l0 : List S27) (w : World) (hr0 : Kd.C k27 w A0 l0.length l0) (hp : w.cell? p = some (.int .i64 id)) :
  Calls Tryz.prog 78 #[.slice A0 l0.length c0, .func (.func 79) #[] #[.pointer (some p)]] w fun e w' => e = .returned (.int .i64 (findOf l0 id)) ∧ Below w.heap.size w w' := by
 have HR := Aside0.mk hr0
 have HP := Aside0.mk hp
 have HM := Aside0.mk (Kd.C_max hr0)
 clear hr0 hp
 go_enter Tryz.func78, Tryz.ntmps78
 go_wp2_with fail
 go_loopw [8] (fun i wr => ∃ k : Nat, k ≤ l0.length ∧ i = .int .i64 k ∧ Aside0 (∀ j, (h : j < k) → ∀ hl : j < l0.length, l0[j].f0 ≠ id) ∧ Aside0 (Below w.heap.size w wr)) (fun i _ => l0.length - (intOf i).toNat)
 case atStart => exact ⟨0, by omega, rfl, ⟨fun j h => by omega⟩, ⟨Below.refl _ _⟩⟩
 case round =>
  obtain ⟨k, hk, rfl, HA, HB⟩ := hrel
  by_cases hlt : k < l0.length
  ·obtain ⟨ad, hA, hx0, hx1⟩ := at_T27 (Kd.C_below HR.out HB.out) (k : Int) (by omega) (by omega)
   subst hA
   rw [rd_doc_get l0 k hlt, Int.toNat_natCast] at hx0 hx1
   have FA := Aside0.mk (find_at l0 id k hlt (fun j h => HA.out j h (by omega)))
   have NA := Aside0.mk (fun (hne : l0[k].f0 ≠ id) j (h : j < k + 1) (hl : j < l0.length) => (by
    by_cases e : j = k
    ·subst e; exact hne
    ·exact HA.out j (by omega) hl : l0[j].f0 ≠ id))
   have c1 : decide ((k : Int) < (l0.length : Int)) = true := decide_eq_true (by omega)
   have v1 : ((k : Int) < (l0.length : Int)) = True := eq_true (by omega)
   have v2 : (0 ≤ (k : Int)) = True := eq_true (by omega)
   have v3 : IntKind.i64.wrap ((k : Int) + 1) = (k : Int) + 1 := IntWalk.i64_in _ (by have := HM.out; omega)
   obtain ⟨b0, hb0⟩ : ∃ b0, l0[k].f0 = b0 := ⟨_, rfl⟩
   obtain ⟨b1, hb1⟩ : ∃ b1, l0[k].f1 = b1 := ⟨_, rfl⟩
   rw [hb0] at hx0 FA NA
   rw [hb1] at hx1
   have DI := Aside0.mk (docIs_calls p id b0 b1 wr (pw_cell_below HB.out HP.out) _ rfl)
   clear hb0 hb1
   by_cases he : b0 = id
   ·have hbe : (b0 == id) = true := beq_iff_eq.2 he
    have hfo := FA.out he
    rw [hbe] at DI
    clear he hbe FA NA
    go_wp2_with fail
    refine DI.out.mono ?_
    rintro en w1 ⟨rfl, hb⟩
    have HB1 := Aside0.mk (below_step HB.out hb)
    clear hb
    go_wp2_with fail
    go_ret
    exact ⟨by rw [hfo]; rfl, HB1.out⟩
   ·have hbe : (b0 == id) = false := beq_eq_false_iff_ne.2 he
    have HN := Aside0.mk (NA.out he)
    rw [hbe] at DI
    clear he hbe FA NA
    go_wp2_with fail
    refine DI.out.mono ?_
    rintro en w1 ⟨rfl, hb⟩
    have HB1 := Aside0.mk (below_step HB.out hb)
    clear hb
    go_wp2_with fail
    go_roundw
    case rel => exact ⟨k + 1, by omega, by go_num, HN, HB1⟩
    case measure => simp [intOf]; omega
  ·obtain rfl : k = l0.length := by omega
   have hfo := find_none l0 id (fun j h => HA.out j h h)
   have c1 : decide ((l0.length : Int) < (l0.length : Int)) = false := decide_eq_false (by omega)
   clear hlt
   go_wp2_with fail
   go_ret
   exact ⟨by rw [hfo]; rfl, HB.out⟩
theorem model_find.calls (A0 : Option Addr) (c0 : Nat) (l0 : List S27) (a1 : Int) (r : Int) (w : World) (hr0 : Kd.C k27 w A0 l0.length l0) (hc0 : l0.length ≤ c0) (h : model_find.f l0 a1 = some r) :
  Calls Tryz.prog 31 #[.slice A0 l0.length c0, .int .i64 a1] w fun e w' => e = .returned (.int .i64 r) ∧ Below w.heap.size w w' := by
 obtain rfl := Option.some.inj h
 clear h hc0
 obtain ⟨W1, hW1⟩ : ∃ W1, w.alloc (.cells #[.int .i64 a1] 3) = W1 := ⟨_, rfl⟩
 have hb1 : Below w.heap.size w W1 := by rw [← hW1]; exact below_alloc (Below.refl _ _) _
 have hz : W1.cell? ⟨w.heap.size, 0, none⟩ = some (.int .i64 a1) := by rw [← hW1]; exact cell_new0 w _ _ 0 _ rfl
 have FI := Aside0.mk (findIn_calls ⟨w.heap.size, 0, none⟩ a1 A0 c0 l0 W1 (Kd.C_below hr0 hb1) hz)
 have HB1 := Aside0.mk hb1
 have W1E := Aside0.mk hW1
 clear hb1 hz hr0 hW1
 go_enter Tryz.func31, Tryz.ntmps31
 go_wp2_with fail
 rw [W1E.out]
 refine FI.out.mono ?_
 rintro en w2 ⟨rfl, hb⟩
 have HB2 := Aside0.mk (below_step HB1.out hb)
 clear hb
 go_wp2_with fail
 go_ret
 exact ⟨rfl, HB2.out⟩
end Go.Proofs.YtibhenengpdahaaGreat.P

end
section
namespace Go.Proofs.YtibhenengpdahaaGreat.P
open Go.RowKit Go.Proofs.YtibhenengpdahaaGreatW.PrintWords Go.Proofs.YtibhenengpdahaaGreatW.PrintLast Go.Proofs.YtibhenengpdahaaGreatW.PrintMore
set_option linter.unusedVariables false
set_option linter.unusedSimpArgs false

theorem eqA61 (d : Nat) (w : World) (x0 y0 : Int) (x1 y1 : Int) :
  (Op.equalIn (d + 2) 61 (.agg #[.int .i64 x0, .int .i64 x1]) (.agg #[.int .i64 y0, .int .i64 y1])).run Tryz.prog w = .ok (x0 == y0 && (x1 == y1)) w := by
 refine eqA_of Tryz.underlying61 (by kernel_rfl) ?_
 refine eqf_cons (by rfl) (by go_simp; rfl) (by go_simp; rfl) (by go_simp) ?_
 exact eqf_last (by rfl) (by go_simp; rfl) (by go_simp; rfl) (by go_simp)
end Go.Proofs.YtibhenengpdahaaGreat.P

end
section
set_option linter.unusedVariables false
set_option linter.unusedSimpArgs false
namespace Go.Proofs.YtibhenengpdahaaGreat.P
open Go.RowKit Go.Proofs.YtibhenengpdahaaGreatW.PrintWords Go.Proofs.YtibhenengpdahaaGreatW.PrintLast Go.Proofs.YtibhenengpdahaaGreatW.PrintMore

theorem long_calls (s : ByteArray) (w : World) : Calls Tryz.prog 81 #[.string s] w fun e w' => e = .returned (.bool (!decide ((s.size : Int) ≤ 40))) ∧ w = w' := by
 have ht : ∀ w, Calls Tryz.prog 70 #[.string s] w fun e w' => e = .returned (.bool (decide ((s.size : Int) ≤ 40))) ∧ w = w' := by
  intro w
  go_enter Tryz.func70, Tryz.ntmps70
  go_wp2
  go_ret
  exact ⟨rfl, rfl⟩
 have HT := Aside0.mk ht
 clear ht
 go_enter Tryz.func81, Tryz.ntmps81
 go_wp2_with fail
 refine (HT.out _).mono ?_
 rintro e w' ⟨rfl, rfl⟩
 go_wp2_with fail
 go_ret
 exact ⟨rfl, rfl⟩

def longB (s : ByteArray) : Bool := decide (40 < s.size)
/-- No document is too long, and they are not too many. -/
def rightB (l : List ByteArray) : Bool := decide (l.length ≤ 10) && !l.any longB
def rows_Right.f (l0 : List ByteArray) : Option Bool := some (rightB l0)

set_option maxHeartbeats 1000000 in
theorem index_calls (A0 : Option Addr) (c0 : Nat) (l0 : List ByteArray) (w : World) (hr0 : Kd.C Kd.string w A0 l0.length l0) (hn : l0.length ≤ 10) :
  Calls Tryz.prog 101 #[.slice A0 l0.length c0, .func (.func 81) #[] #[]] w fun e w' => ∃ i : Int, e = .returned (.int .i64 i) ∧ Aside0 (decide (0 ≤ i) = l0.any longB) ∧ Drawn0 w w' := by
 have HR := Aside0.mk hr0
 clear hr0
 go_enter Tryz.func101, Tryz.ntmps101
 go_wp2_with fail
 go_loopw [8] (fun i wr => ∃ k : Nat, k ≤ l0.length ∧ i = .int .i64 k ∧ Aside0 ((l0.take k).any longB = false) ∧ Aside0 (Drawn0 w wr)) (fun i _ => l0.length - (intOf i).toNat)
 case atStart => exact ⟨0, by omega, rfl, ⟨rfl⟩, ⟨Drawn0.refl _⟩⟩
 case round =>
  obtain ⟨k, hk, rfl, HA, HD⟩ := hrel
  by_cases hlt : k < l0.length
  ·obtain ⟨nd, hw⟩ := HD.out.out
   obtain ⟨ad, cs, rfl, hcs, hK, hcell⟩ := Kd.C_get HR.out ByteArray.empty (k : Int) (by omega) (by omega)
   have hK' : cs = [.string (l0.getD (k : Int).toNat ByteArray.empty)] := hK
   have hc1 := hcell 0 (.string (l0.getD (k : Int).toNat ByteArray.empty)) (by rw [hK']; rfl)
   have e1 : (k : Int).toNat * Kd.string.sz + 0 = k := by show (k : Int).toNat * 1 + 0 = k; omega
   rw [e1, Int.toNat_natCast] at hc1
   have hg : l0.getD k ByteArray.empty = l0[k] := by rw [List.getD_eq_getElem?_getD, List.getElem?_eq_getElem hlt]; rfl
   rw [hg] at hc1
   have hc2 : wr.cell? (ad.add k) = some (.string l0[k]) := by rw [hw]; exact hc1
   have htk : (l0.take (k + 1)).any longB = longB l0[k] := by
    rw [List.take_succ_eq_append_getElem hlt, List.any_append, HA.out]
    simp
   clear hw hcell hK hK' hcs e1 hc1 hg
   by_cases hL : longB l0[k] = true
   ·have hall : l0.any longB = true := List.any_eq_true.2 ⟨l0[k], List.getElem_mem hlt, hL⟩
    have HALL := Aside0.mk hall
    have hb : (!decide ((l0[k].size : Int) ≤ 40)) = true := by
     unfold longB at hL
     simp at hL ⊢
     omega
    have LC := Aside0.mk (long_calls l0[k])
    clear htk hL hall
    go_wp2_with fail
    refine (LC.out _).mono ?_
    rintro e w' ⟨rfl, rfl⟩
    go_wp2_with fail
    go_ret
    exact ⟨k, rfl, ⟨by rw [HALL.out]; exact decide_eq_true (by omega)⟩, HD.out⟩
   ·have hb : (!decide ((l0[k].size : Int) ≤ 40)) = false := by
     unfold longB at hL
     simp at hL ⊢
     omega
    rw [Bool.not_eq_true] at hL
    rw [hL] at htk
    have HTK := Aside0.mk htk
    have LC := Aside0.mk (long_calls l0[k])
    clear htk hL
    go_wp2_with fail
    refine (LC.out _).mono ?_
    rintro e w' ⟨rfl, rfl⟩
    go_wp2_with fail
    go_roundw
    case rel => exact ⟨k + 1, by omega, by go_num, HTK, HD⟩
    case measure => simp [intOf]; omega
  ·obtain rfl : k = l0.length := by omega
   have hall : l0.any longB = false := by have := HA.out; rwa [List.take_of_length_le (Nat.le_refl _)] at this
   have HALL := Aside0.mk hall
   clear hall
   go_wp2_with fail
   go_ret
   exact ⟨-1, rfl, ⟨by rw [HALL.out]; rfl⟩, HD.out⟩

theorem rows_Right.calls (A0 : Option Addr) (c0 : Nat) (l0 : List ByteArray) (r : Bool) (w : World) (hr0 : Kd.C Kd.string w A0 l0.length l0) (hc0 : l0.length ≤ c0) (h : rows_Right.f l0 = some r) :
  Calls Tryz.prog 36 #[.slice A0 l0.length c0] w fun e w' => e = .returned (.bool r) ∧ Below w.heap.size w w' := by
 obtain rfl := Option.some.inj h
 clear h hc0
 by_cases hn : l0.length ≤ 10
 ·have hi : ∀ w', Kd.C Kd.string w' A0 l0.length l0 → Calls Tryz.prog 80 #[.slice A0 l0.length c0, .func (.func 81) #[] #[]] w' fun e w'' => e = .returned (.bool (l0.any longB)) ∧ Drawn0 w' w'' := by
   intro w' hC
   have HI := Aside0.mk (index_calls A0 c0 l0 w' hC hn)
   clear hC hr0
   go_enter Tryz.func80, Tryz.ntmps80
   go_wp2_with fail
   refine HI.out.mono ?_
   rintro e w2 ⟨i, rfl, ⟨hA⟩, hD⟩
   have HA := Aside0.mk hA
   clear hA
   go_wp2_with fail
   go_ret
   exact ⟨congrArg (fun z => Ending.returned (.bool z)) HA.out, hD⟩
  have HI := Aside0.mk (hi w hr0)
  have hd : decide ((l0.length : Int) ≤ 10) = true := decide_eq_true (by omega)
  have hf : rightB l0 = !l0.any longB := by unfold rightB; rw [decide_eq_true hn]; rfl
  have HF := Aside0.mk hf
  clear hi hr0 hf
  go_enter Tryz.func36, Tryz.ntmps36
  go_wp2_with fail
  refine HI.out.mono ?_
  rintro e w2 ⟨rfl, hD⟩
  go_wp2_with fail
  go_ret
  exact ⟨congrArg (fun z => Ending.returned (.bool z)) HF.out.symm, hD.below⟩
 ·have hd : decide ((l0.length : Int) ≤ 10) = false := decide_eq_false (by omega)
  have hf : rightB l0 = false := by unfold rightB; rw [decide_eq_false hn]; rfl
  have HF := Aside0.mk hf
  clear hr0 hf
  go_enter Tryz.func36, Tryz.ntmps36
  go_wp2_with fail
  go_ret
  exact ⟨congrArg (fun z => Ending.returned (.bool z)) HF.out.symm, Below.refl _ _⟩

end Go.Proofs.YtibhenengpdahaaGreat.P

end
