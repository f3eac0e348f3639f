/- The function Right of package bwt computes what the plain function colB says. Conditions: how the list lies in memory. -/
import Derived.Test.YtkcpkecaliegfaaGreatP0
import Derived.Test.YtkcpkecaliegfaaGreatP2
set_option linter.unusedVariables false
set_option linter.unusedSimpArgs false
namespace Go.Proofs.YtkcpkecaliegfaaGreat.P
open Go.RowKit Go.Proofs.YtkcpkecaliegfaaGreatW.PrintWords Go.Proofs.YtkcpkecaliegfaaGreatW.PrintLast Go.Proofs.YtkcpkecaliegfaaGreatW.PrintMore

/-- Is a number no symbol? -/
def badB (s : Int) : Bool := decide (s < 0) || decide (257 ≤ s)
def colB (l : List Int) : Bool := !l.any badB
def bwt_Right.f (l0 : List Int) : Option Bool := if l0.length ≤ 4611686018427387904 then some (colB l0) else none

theorem bad_calls (s : Int) (w : World) : Calls Tryz.prog 81 #[.int .i64 s] w fun e w' => e = .returned (.bool (badB s)) ∧ w = w' := by
 by_cases h1 : s < 0
 ·have t1 : decide (s < 0) = true := decide_eq_true h1
  have hr : badB s = true := by unfold badB; rw [t1]; rfl
  rw [hr]
  clear h1 hr
  go_enter Tryz.func81, Tryz.ntmps81
  go_wp2
  go_ret
  exact ⟨rfl, rfl⟩
 ·have t1 : decide (s < 0) = false := decide_eq_false h1
  by_cases h2 : 257 ≤ s
  ·have t2 : decide (257 ≤ s) = true := decide_eq_true h2
   have hr : badB s = true := by unfold badB; rw [t1, t2]; rfl
   rw [hr]
   clear h1 h2 hr
   go_enter Tryz.func81, Tryz.ntmps81
   go_wp2
   go_ret
   exact ⟨rfl, rfl⟩
  ·have t2 : decide (257 ≤ s) = false := decide_eq_false h2
   have hr : badB s = false := by unfold badB; rw [t1, t2]; rfl
   rw [hr]
   clear h1 h2 hr
   go_enter Tryz.func81, Tryz.ntmps81
   go_wp2
   go_ret
   exact ⟨rfl, rfl⟩

set_option maxHeartbeats 1000000 in
theorem index_bad (A0 : Option Addr) (c0 : Nat) (l0 : List Int) (w : World) (hr0 : Kd.C (Kd.int .i64) w A0 l0.length l0) (hn : l0.length ≤ 4611686018427387904) :
  Calls Tryz.prog 98 #[.slice A0 l0.length c0, .func (.func 81) #[] #[]] w fun e w' => ∃ i : Int, e = .returned (.int .i64 i) ∧ Aside0 (decide (0 ≤ i) = l0.any badB) ∧ Drawn0 w w' := by
 have HR := Aside0.mk hr0
 clear hr0
 go_enter Tryz.func98, Tryz.ntmps98
 go_wp2_with fail
 go_loopw [8] (fun i wr => ∃ k : Nat, k ≤ l0.length ∧ i = .int .i64 k ∧ Aside0 ((l0.take k).any badB = false) ∧ Aside0 (Drawn0 w wr)) (fun i _ => l0.length - (intOf i).toNat)
 case atStart => exact ⟨0, by omega, rfl, ⟨rfl⟩, ⟨Drawn0.refl _⟩⟩
 case round =>
  obtain ⟨k, hk, rfl, HA, HD⟩ := hrel
  by_cases hlt : k < l0.length
  ·obtain ⟨nd, hw⟩ := HD.out.out
   obtain ⟨ad, cs, rfl, hcs, hK, hcell⟩ := Kd.C_get HR.out (0 : Int) (k : Int) (by omega) (by omega)
   have hK' : cs = [.int .i64 (l0.getD (k : Int).toNat 0)] := hK
   have hc1 := hcell 0 (.int .i64 (l0.getD (k : Int).toNat 0)) (by rw [hK']; rfl)
   have e1 : (k : Int).toNat * (Kd.int .i64).sz + 0 = k := by show (k : Int).toNat * 1 + 0 = k; omega
   rw [e1, Int.toNat_natCast] at hc1
   have hg : l0.getD k 0 = l0[k] := by rw [List.getD_eq_getElem?_getD, List.getElem?_eq_getElem hlt]; rfl
   rw [hg] at hc1
   have hc2 : wr.cell? (ad.add k) = some (.int .i64 l0[k]) := by rw [hw]; exact hc1
   have htk : (l0.take (k + 1)).any badB = badB l0[k] := by
    rw [List.take_succ_eq_append_getElem hlt, List.any_append, HA.out]
    simp
   have hmem : l0[k] ∈ l0 := List.getElem_mem hlt
   obtain ⟨x, hx⟩ : ∃ x, l0[k] = x := ⟨_, rfl⟩
   rw [hx] at hc2 htk hmem
   clear hw hcell hK hK' hcs e1 hc1 hg hx
   by_cases hL : badB x = true
   ·have hall : l0.any badB = true := List.any_eq_true.2 ⟨x, hmem, hL⟩
    have HALL := Aside0.mk hall
    have LC := Aside0.mk (bad_calls x)
    rw [hL] at LC
    clear htk hL hall hmem
    go_wp2_with fail
    refine (LC.out _).mono ?_
    rintro e w' ⟨rfl, rfl⟩
    go_wp2_with fail
    go_ret
    exact ⟨k, rfl, ⟨by rw [HALL.out]; exact decide_eq_true (by omega)⟩, HD.out⟩
   ·rw [Bool.not_eq_true] at hL
    rw [hL] at htk
    have HTK := Aside0.mk htk
    have LC := Aside0.mk (bad_calls x)
    rw [hL] at LC
    clear htk hL hmem
    go_wp2_with fail
    refine (LC.out _).mono ?_
    rintro e w' ⟨rfl, rfl⟩
    go_wp2_with fail
    go_roundw
    case rel => exact ⟨k + 1, by omega, by go_num, HTK, HD⟩
    case measure => simp [intOf]; omega
  ·obtain rfl : k = l0.length := by omega
   have hall : l0.any badB = false := by have := HA.out; rwa [List.take_of_length_le (Nat.le_refl _)] at this
   have HALL := Aside0.mk hall
   clear hall
   go_wp2_with fail
   go_ret
   exact ⟨-1, rfl, ⟨by rw [HALL.out]; rfl⟩, HD.out⟩

theorem bwt_Right.calls (A0 : Option Addr) (c0 : Nat) (l0 : List Int) (r : Bool) (w : World) (hr0 : Kd.C (Kd.int .i64) w A0 l0.length l0) (hc0 : l0.length ≤ c0) (h : bwt_Right.f l0 = some r) :
  Calls Tryz.prog 30 #[.slice A0 l0.length c0] w fun e w' => e = .returned (.bool r) ∧ Below w.heap.size w w' := by
 unfold bwt_Right.f at h
 by_cases hn : l0.length ≤ 4611686018427387904
 case neg => rw [if_neg hn] at h; cases h
 rw [if_pos hn] at h
 obtain rfl := Option.some.inj h
 clear h hc0
 have hi : ∀ w', Kd.C (Kd.int .i64) w' A0 l0.length l0 → Calls Tryz.prog 80 #[.slice A0 l0.length c0, .func (.func 81) #[] #[]] w' fun e w'' => e = .returned (.bool (l0.any badB)) ∧ Drawn0 w' w'' := by
  intro w' hC
  have HI := Aside0.mk (index_bad A0 c0 l0 w' hC hn)
  clear hC hr0
  go_enter Tryz.func80, Tryz.ntmps80
  go_wp2_with fail
  refine HI.out.mono ?_
  rintro e w2 ⟨i, rfl, ⟨hA⟩, hD⟩
  have HA := Aside0.mk hA
  clear hA
  go_wp2_with fail
  go_ret
  exact ⟨congrArg (fun z => Ending.returned (.bool z)) HA.out, hD⟩
 have HI := Aside0.mk (hi w hr0)
 clear hi hr0
 go_enter Tryz.func30, Tryz.ntmps30
 go_wp2_with fail
 refine HI.out.mono ?_
 rintro e w2 ⟨rfl, hD⟩
 go_wp2_with fail
 go_ret
 exact ⟨rfl, hD.below⟩

end Go.Proofs.YtkcpkecaliegfaaGreat.P
