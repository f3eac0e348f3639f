/- The functions Right and Less of package rows compute what the plain functions rightB and lessB say. Conditions: how the lists lie in memory. -/
import Derived.Test.YtkcpkecaliegfaaGreatP0
import Derived.Test.YtkcpkecaliegfaaGreatP2
set_option linter.unusedVariables false
set_option linter.unusedSimpArgs false
namespace Go.Proofs.YtkcpkecaliegfaaGreat.P
open Go.RowKit Go.Proofs.YtkcpkecaliegfaaGreatW.PrintWords Go.Proofs.YtkcpkecaliegfaaGreatW.PrintLast Go.Proofs.YtkcpkecaliegfaaGreatW.PrintMore

theorem long_calls (s : ByteArray) (w : World) : Calls Tryz.prog 107 #[.string s] w fun e w' => e = .returned (.bool (!decide ((s.size : Int) ≤ 40))) ∧ w = w' := by
  have ht : ∀ w, Calls Tryz.prog 108 #[.string s] w fun e w' => e = .returned (.bool (decide ((s.size : Int) ≤ 40))) ∧ w = w' := by
    intro w
    go_enter Tryz.func108, Tryz.ntmps108
    go_wp2
    go_ret
    exact ⟨rfl, rfl⟩
  have HT := Aside0.mk ht
  clear ht
  go_enter Tryz.func107, Tryz.ntmps107
  go_wp2_with fail
  refine (HT.out _).mono ?_
  rintro e w' ⟨rfl, rfl⟩
  go_wp2_with fail
  go_ret
  exact ⟨rfl, rfl⟩

def longB (s : ByteArray) : Bool := decide (40 < s.size)
/-- No document is too long, and they are not too many. -/
def rightB (l : List ByteArray) : Bool := decide (l.length ≤ 10) && !l.any longB
def rows_Right.f (l0 : List ByteArray) : Option Bool := some (rightB l0)

set_option maxHeartbeats 1000000 in
theorem index_calls (A0 : Option Addr) (c0 : Nat) (l0 : List ByteArray) (w : World) (hr0 : Kd.C Kd.string w A0 l0.length l0) (hn : l0.length ≤ 10) :
    Calls Tryz.prog 114 #[.slice A0 l0.length c0, .func (.func 107) #[] #[]] w fun e w' => ∃ i : Int, e = .returned (.int .i64 i) ∧ Aside0 (decide (0 ≤ i) = l0.any longB) ∧ Drawn0 w w' := by
  have HR := Aside0.mk hr0
  clear hr0
  go_enter Tryz.func114, Tryz.ntmps114
  go_wp2_with fail
  go_loopw [8] (fun i wr => ∃ k : Nat, k ≤ l0.length ∧ i = .int .i64 k ∧ Aside0 ((l0.take k).any longB = false) ∧ Aside0 (Drawn0 w wr)) (fun i _ => l0.length - (intOf i).toNat)
  case atStart => exact ⟨0, by omega, rfl, ⟨rfl⟩, ⟨Drawn0.refl _⟩⟩
  case round =>
    obtain ⟨k, hk, rfl, HA, HD⟩ := hrel
    by_cases hlt : k < l0.length
    · obtain ⟨nd, hw⟩ := HD.out.out
      obtain ⟨ad, cs, rfl, hcs, hK, hcell⟩ := Kd.C_get HR.out ByteArray.empty (k : Int) (by omega) (by omega)
      have hK' : cs = [.string (l0.getD (k : Int).toNat ByteArray.empty)] := hK
      have hc1 := hcell 0 (.string (l0.getD (k : Int).toNat ByteArray.empty)) (by rw [hK']; rfl)
      have e1 : (k : Int).toNat * Kd.string.sz + 0 = k := by show (k : Int).toNat * 1 + 0 = k; omega
      rw [e1, Int.toNat_natCast] at hc1
      have hg : l0.getD k ByteArray.empty = l0[k] := by rw [List.getD_eq_getElem?_getD, List.getElem?_eq_getElem hlt]; rfl
      rw [hg] at hc1
      have hc2 : wr.cell? (ad.add k) = some (.string l0[k]) := by rw [hw]; exact hc1
      have htk : (l0.take (k + 1)).any longB = longB l0[k] := by
        rw [List.take_succ_eq_append_getElem hlt, List.any_append, HA.out]
        simp
      clear hw hcell hK hK' hcs e1 hc1 hg
      by_cases hL : longB l0[k] = true
      · have hall : l0.any longB = true := List.any_eq_true.2 ⟨l0[k], List.getElem_mem hlt, hL⟩
        have HALL := Aside0.mk hall
        have hb : (!decide ((l0[k].size : Int) ≤ 40)) = true := by
          unfold longB at hL
          simp at hL ⊢
          omega
        have LC := Aside0.mk (long_calls l0[k])
        clear htk hL hall
        go_wp2_with fail
        refine (LC.out _).mono ?_
        rintro e w' ⟨rfl, rfl⟩
        go_wp2_with fail
        go_ret
        exact ⟨k, rfl, ⟨by rw [HALL.out]; exact decide_eq_true (by omega)⟩, HD.out⟩
      · have hb : (!decide ((l0[k].size : Int) ≤ 40)) = false := by
          unfold longB at hL
          simp at hL ⊢
          omega
        rw [Bool.not_eq_true] at hL
        rw [hL] at htk
        have HTK := Aside0.mk htk
        have LC := Aside0.mk (long_calls l0[k])
        clear htk hL
        go_wp2_with fail
        refine (LC.out _).mono ?_
        rintro e w' ⟨rfl, rfl⟩
        go_wp2_with fail
        go_roundw
        case rel => exact ⟨k + 1, by omega, by go_num, HTK, HD⟩
        case measure => simp [intOf]; omega
    · obtain rfl : k = l0.length := by omega
      have hall : l0.any longB = false := by have := HA.out; rwa [List.take_of_length_le (Nat.le_refl _)] at this
      have HALL := Aside0.mk hall
      clear hall
      go_wp2_with fail
      go_ret
      exact ⟨-1, rfl, ⟨by rw [HALL.out]; rfl⟩, HD.out⟩

theorem rows_Right.calls (A0 : Option Addr) (c0 : Nat) (l0 : List ByteArray) (r : Bool) (w : World) (hr0 : Kd.C Kd.string w A0 l0.length l0) (hc0 : l0.length ≤ c0) (h : rows_Right.f l0 = some r) :
    Calls Tryz.prog 99 #[.slice A0 l0.length c0] w fun e w' => e = .returned (.bool r) ∧ Below w.heap.size w w' := by
  obtain rfl := Option.some.inj h
  clear h hc0
  by_cases hn : l0.length ≤ 10
  · have hi : ∀ w', Kd.C Kd.string w' A0 l0.length l0 → Calls Tryz.prog 106 #[.slice A0 l0.length c0, .func (.func 107) #[] #[]] w' fun e w'' => e = .returned (.bool (l0.any longB)) ∧ Drawn0 w' w'' := by
      intro w' hC
      have HI := Aside0.mk (index_calls A0 c0 l0 w' hC hn)
      clear hC hr0
      go_enter Tryz.func106, Tryz.ntmps106
      go_wp2_with fail
      refine HI.out.mono ?_
      rintro e w2 ⟨i, rfl, ⟨hA⟩, hD⟩
      have HA := Aside0.mk hA
      clear hA
      go_wp2_with fail
      go_ret
      exact ⟨congrArg (fun z => Ending.returned (.bool z)) HA.out, hD⟩
    have HI := Aside0.mk (hi w hr0)
    have hd : decide ((l0.length : Int) ≤ 10) = true := decide_eq_true (by omega)
    have hf : rightB l0 = !l0.any longB := by unfold rightB; rw [decide_eq_true hn]; rfl
    have HF := Aside0.mk hf
    clear hi hr0 hf
    go_enter Tryz.func99, Tryz.ntmps99
    go_wp2_with fail
    refine HI.out.mono ?_
    rintro e w2 ⟨rfl, hD⟩
    go_wp2_with fail
    go_ret
    exact ⟨congrArg (fun z => Ending.returned (.bool z)) HF.out.symm, hD.below⟩
  · have hd : decide ((l0.length : Int) ≤ 10) = false := decide_eq_false (by omega)
    have hf : rightB l0 = false := by unfold rightB; rw [decide_eq_false hn]; rfl
    have HF := Aside0.mk hf
    clear hr0 hf
    go_enter Tryz.func99, Tryz.ntmps99
    go_wp2_with fail
    go_ret
    exact ⟨congrArg (fun z => Ending.returned (.bool z)) HF.out.symm, Below.refl _ _⟩

end Go.Proofs.YtkcpkecaliegfaaGreat.P
