/- The function find of package model: the first place at which a document of this number stands. Conditions: how the list lies in memory. -/
import Derived.Test.YtibhenengpdahaaP0
set_option linter.unusedVariables false
set_option linter.unusedSimpArgs false
namespace Go.Proofs.Ytibhenengpdahaa.P
open Go.RowKit Go.Proofs.YtibhenengpdahaaW.PrintWords Go.Proofs.YtibhenengpdahaaW.PrintLast Go.Proofs.YtibhenengpdahaaW.PrintMore

theorem cell_new0 (W : World) (cs : Array Value) (t : TypeId) (i : Nat) (v : Value) (h : cs[i]? = some v) : (W.alloc (.cells cs t)).cell? ⟨W.heap.size, i, none⟩ = some v := by
  have hb : (W.alloc (.cells cs t)).heap[W.heap.size]? = some (.cells cs t (0, 0)) := heap_alloc_new W _
  unfold World.cell?
  dsimp only
  rw [hb]
  exact h
/-- The first document of a number: its place, or -1. -/
def findOf (l : List S42) (id : Int) : Int := match l.findIdx? (fun d => d.f0 == id) with | some i => (i : Int) | none => -1
def model_find.f (l0 : List S42) (a1 : Int) : Option Int := some (findOf l0 a1)
theorem find_at (l : List S42) (id : Int) (k : Nat) (hk : k < l.length) (hb : ∀ j, (h : j < k) → l[j].f0 ≠ id) (he : l[k].f0 = id) : findOf l id = (k : Int) := by
  have h : l.findIdx? (fun d => d.f0 == id) = some k := by
    rw [List.findIdx?_eq_some_iff_getElem]
    exact ⟨hk, by simp [he], fun j hj => by simp [hb j hj]⟩
  unfold findOf
  rw [h]
theorem find_none (l : List S42) (id : Int) (hb : ∀ j, (h : j < l.length) → l[j].f0 ≠ id) : findOf l id = -1 := by
  have h : l.findIdx? (fun d => d.f0 == id) = none := by
    rw [List.findIdx?_eq_none_iff]
    intro x hx
    obtain ⟨j, hj, rfl⟩ := List.getElem_of_mem hx
    simp [hb j hj]
  unfold findOf
  rw [h]
theorem rd_doc_get (xs : List S42) (j : Nat) (h : j < xs.length) : rd_T42 xs (j : Int) = xs[j] := by
  unfold rd_T42
  rw [Int.toNat_natCast, List.getD_eq_getElem?_getD, List.getElem?_eq_getElem h]
  rfl
theorem docIs_calls (p : Addr) (id : Int) (x0 : Int) (x1 : ByteArray) (w : World) (hp : w.cell? p = some (.int .i64 id)) (v : Bool) (hv : (x0 == id) = v) : Calls Try.prog 31 #[.agg #[.int .i64 x0, .string x1], .pointer (some p)] w fun e w' => e = .returned (.bool v) ∧ Below w.heap.size w w' := by
  have hp1 : (w.alloc (.cells #[.int .i64 x0, .string x1] 42)).cell? p = some (.int .i64 id) := pw_cell_below (below_alloc (Below.refl _ _) _) hp
  go_enter Try.func31, Try.ntmps31
  go_wp2_with fail
  go_ret
  exact ⟨rfl, below_alloc (Below.refl _ _) _⟩
set_option maxHeartbeats 1000000 in
theorem findIn_calls (p : Addr) (id : Int) (A0 : Option Addr) (c0 : Nat) (l0 : List S42) (w : World) (hr0 : Kd.C k42 w A0 l0.length l0) (hp : w.cell? p = some (.int .i64 id)) :
    Calls Try.prog 30 #[.slice A0 l0.length c0, .func (.func 31) #[] #[.pointer (some p)]] w fun e w' => e = .returned (.int .i64 (findOf l0 id)) ∧ Below w.heap.size w w' := by
  have HR := Aside0.mk hr0
  have HP := Aside0.mk hp
  have HM := Aside0.mk (Kd.C_max hr0)
  clear hr0 hp
  go_enter Try.func30, Try.ntmps30
  go_wp2_with fail
  go_loopw [8] (fun i wr => ∃ k : Nat, k ≤ l0.length ∧ i = .int .i64 k ∧ Aside0 (∀ j, (h : j < k) → ∀ hl : j < l0.length, l0[j].f0 ≠ id) ∧ Aside0 (Below w.heap.size w wr)) (fun i _ => l0.length - (intOf i).toNat)
  case atStart => exact ⟨0, by omega, rfl, ⟨fun j h => by omega⟩, ⟨Below.refl _ _⟩⟩
  case round =>
    obtain ⟨k, hk, rfl, HA, HB⟩ := hrel
    by_cases hlt : k < l0.length
    · obtain ⟨ad, hA, hx0, hx1⟩ := at_T42 (Kd.C_below HR.out HB.out) (k : Int) (by omega) (by omega)
      subst hA
      rw [rd_doc_get l0 k hlt, Int.toNat_natCast] at hx0 hx1
      have FA := Aside0.mk (find_at l0 id k hlt (fun j h => HA.out j h (by omega)))
      have NA := Aside0.mk (fun (hne : l0[k].f0 ≠ id) j (h : j < k + 1) (hl : j < l0.length) => (by
        by_cases e : j = k
        · subst e; exact hne
        · exact HA.out j (by omega) hl : l0[j].f0 ≠ id))
      have c1 : decide ((k : Int) < (l0.length : Int)) = true := decide_eq_true (by omega)
      have v1 : ((k : Int) < (l0.length : Int)) = True := eq_true (by omega)
      have v2 : (0 ≤ (k : Int)) = True := eq_true (by omega)
      have v3 : IntKind.i64.wrap ((k : Int) + 1) = (k : Int) + 1 := IntWalk.i64_in _ (by have := HM.out; omega)
      obtain ⟨b0, hb0⟩ : ∃ b0, l0[k].f0 = b0 := ⟨_, rfl⟩
      obtain ⟨b1, hb1⟩ : ∃ b1, l0[k].f1 = b1 := ⟨_, rfl⟩
      rw [hb0] at hx0 FA NA
      rw [hb1] at hx1
      have DI := Aside0.mk (docIs_calls p id b0 b1 wr (pw_cell_below HB.out HP.out) _ rfl)
      clear hb0 hb1
      by_cases he : b0 = id
      · have hbe : (b0 == id) = true := beq_iff_eq.2 he
        have hfo := FA.out he
        rw [hbe] at DI
        clear he hbe FA NA
        go_wp2_with fail
        refine DI.out.mono ?_
        rintro en w1 ⟨rfl, hb⟩
        have HB1 := Aside0.mk (below_step HB.out hb)
        clear hb
        go_wp2_with fail
        go_ret
        exact ⟨by rw [hfo]; rfl, HB1.out⟩
      · have hbe : (b0 == id) = false := beq_eq_false_iff_ne.2 he
        have HN := Aside0.mk (NA.out he)
        rw [hbe] at DI
        clear he hbe FA NA
        go_wp2_with fail
        refine DI.out.mono ?_
        rintro en w1 ⟨rfl, hb⟩
        have HB1 := Aside0.mk (below_step HB.out hb)
        clear hb
        go_wp2_with fail
        go_roundw
        case rel => exact ⟨k + 1, by omega, by go_num, HN, HB1⟩
        case measure => simp [intOf]; omega
    · obtain rfl : k = l0.length := by omega
      have hfo := find_none l0 id (fun j h => HA.out j h h)
      have c1 : decide ((l0.length : Int) < (l0.length : Int)) = false := decide_eq_false (by omega)
      clear hlt
      go_wp2_with fail
      go_ret
      exact ⟨by rw [hfo]; rfl, HB.out⟩
theorem model_find.calls (A0 : Option Addr) (c0 : Nat) (l0 : List S42) (a1 : Int) (r : Int) (w : World) (hr0 : Kd.C k42 w A0 l0.length l0) (hc0 : l0.length ≤ c0) (h : model_find.f l0 a1 = some r) :
    Calls Try.prog 18 #[.slice A0 l0.length c0, .int .i64 a1] w fun e w' => e = .returned (.int .i64 r) ∧ Below w.heap.size w w' := by
  obtain rfl := Option.some.inj h
  clear h hc0
  obtain ⟨W1, hW1⟩ : ∃ W1, w.alloc (.cells #[.int .i64 a1] 3) = W1 := ⟨_, rfl⟩
  have hb1 : Below w.heap.size w W1 := by rw [← hW1]; exact below_alloc (Below.refl _ _) _
  have hz : W1.cell? ⟨w.heap.size, 0, none⟩ = some (.int .i64 a1) := by rw [← hW1]; exact cell_new0 w _ _ 0 _ rfl
  have FI := Aside0.mk (findIn_calls ⟨w.heap.size, 0, none⟩ a1 A0 c0 l0 W1 (Kd.C_below hr0 hb1) hz)
  have HB1 := Aside0.mk hb1
  have W1E := Aside0.mk hW1
  clear hb1 hz hr0 hW1
  go_enter Try.func18, Try.ntmps18
  go_wp2_with fail
  rw [W1E.out]
  refine FI.out.mono ?_
  rintro en w2 ⟨rfl, hb⟩
  have HB2 := Aside0.mk (below_step HB1.out hb)
  clear hb
  go_wp2_with fail
  go_ret
  exact ⟨rfl, HB2.out⟩
end Go.Proofs.Ytibhenengpdahaa.P
