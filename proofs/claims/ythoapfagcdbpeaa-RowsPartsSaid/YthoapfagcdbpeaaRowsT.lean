/- Between the words for a row that a call has made and the sort's words for it, at rows of two numbers. Conditions: none. -/
import Derived.Test.YthoapfagcdbpeaaRowsS
import Derived.Shelf.GgSortFunc.RowK
set_option linter.unusedVariables false
set_option linter.unusedSimpArgs false
namespace Go.Proofs.Ythoapfagcdbpeaa.P
open Go.Sort (flatK size_flatK get_flatK HoldsK putRowK)
open Go.RowKit Go.Proofs.YthoapfagcdbpeaaW.PrintWords Go.Proofs.YthoapfagcdbpeaaW.PrintLast Go.Proofs.YthoapfagcdbpeaaW.PrintMore

/-- A row's cells. -/
def encR {l : List ByteArray} (x : RowOf l) : List Value := [.int .i64 x.1.1, .int .i64 x.1.2]
def unR {l : List ByteArray} (x : RowOf l) : S24 := ⟨x.1.1, x.1.2⟩

theorem flat_at {l : List ByteArray} [Inhabited (RowOf l)] (d : Array (RowOf l)) (j : Nat) (h : j < d.size) :
    (flatK encR 2 d)[j * 2]! = .int .i64 d[j]!.1.1 ∧ (flatK encR 2 d)[j * 2 + 1]! = .int .i64 d[j]!.1.2 := by
  constructor
  · rw [get_flatK encR 2 d (j * 2) (by omega)]
    have e1 : j * 2 / 2 = j := by omega
    have e2 : j * 2 % 2 = 0 := by omega
    rw [e1, e2]
    rfl
  · rw [get_flatK encR 2 d (j * 2 + 1) (by omega)]
    have e1 : (j * 2 + 1) / 2 = j := by omega
    have e2 : (j * 2 + 1) % 2 = 1 := by omega
    rw [e1, e2]
    rfl

theorem holds_row {l : List ByteArray} [Inhabited (RowOf l)] {w : World} {base g n cap : Nat} {ok : Nat → Prop} {d : Array (RowOf l)}
    (h : k24.R 24 w base ok (.slice (some ⟨g, 0, none⟩) n cap) (d.toList.map unR)) : HoldsK encR 2 w g 0 d := by
  intro j hj
  rw [size_flatK] at hj
  have hfr : w.frozen? ⟨g, 0 + j, none⟩ = false := by
    obtain ⟨_, inner, ho, _⟩ := h
    rcases ho.2 with ⟨e0, _⟩ | ⟨g', cap', cur, e0, _, hg, _⟩
    · cases e0
    · injection e0 with e1
      injection e1 with e1
      injection e1 with e1
      subst e1
      simp [World.frozen?, hg]
  refine ⟨?_, hfr⟩
  obtain ⟨c, hcl, hM, hcc⟩ := Kd.R_get h z24 ((j / 2 : Nat) : Int) (by omega) (by
    obtain ⟨A, c, hv, hl, _⟩ := Kd.R_reads h
    injection hv with _ hv _
    rw [List.length_map, Array.length_toList] at hv
    omega)
  obtain rfl := k24_openM hM
  rw [Int.toNat_natCast] at hcc
  have hlt : j / 2 < d.size := by omega
  have hget : (d.toList.map unR).getD (j / 2) z24 = unR d[j / 2]! := by
    rw [List.getD_eq_getElem?_getD, List.getElem?_map, Array.getElem?_toList, Array.getElem?_eq_getElem hlt, getElem!_pos d _ hlt]
    rfl
  rw [hget] at hcc
  have h2 := flat_at d (j / 2) hlt
  rcases Nat.mod_two_eq_zero_or_one j with h0 | h0
  · have e : j = j / 2 * 2 := by omega
    have hc := hcc 0 (.int .i64 d[j / 2]!.1.1) rfl
    rw [add_plain] at hc
    have e3 : j / 2 * k24.sz + 0 = j := by show j / 2 * 2 + 0 = j; omega
    rw [e3] at hc
    rw [Nat.zero_add, hc]
    show _ = some (flatK encR 2 d)[j]!
    rw [← h2.1, ← e]
  · have e : j = j / 2 * 2 + 1 := by omega
    have hc := hcc 1 (.int .i64 d[j / 2]!.1.2) rfl
    rw [add_plain] at hc
    have e3 : j / 2 * k24.sz + 1 = j := by show j / 2 * 2 + 1 = j; omega
    rw [e3] at hc
    rw [Nat.zero_add, hc]
    show _ = some (flatK encR 2 d)[j]!
    rw [← h2.2, ← e]

theorem row_sorted {l : List ByteArray} [Inhabited (RowOf l)] {w : World} {base g n cap q : Nat} {os : Array Obj} {ok : Nat → Prop} {xs : List S24} {d : Array (RowOf l)} (hd : d.size = n) (hx : xs.length = n)
    (h : k24.R 24 w base ok (.slice (some ⟨g, 0, none⟩) n cap) xs) :
    k24.R 24 (Sort.grow (putRowK encR 2 (Sort.ahead w q) g 0 d) os) base ok (.slice (some ⟨g, 0, none⟩) n cap) (d.toList.map unR) := by
  obtain ⟨h0, inner, ho, hr⟩ := h
  rw [hx] at ho
  have hlen : (d.toList.map unR).length = n := by rw [List.length_map, Array.length_toList]; exact hd
  rcases ho.2 with ⟨e0, _⟩ | ⟨g', cap', cur, e0, hb, hg, hn, hm, hs, ht⟩
  · cases e0
  · injection e0 with e1 _ e3
    injection e1 with e1
    injection e1 with e1
    subst e1; subst e3
    have hglt : g < w.heap.size := by
      rcases Nat.lt_or_ge g w.heap.size with h' | h'
      · exact h'
      · rw [Array.getElem?_eq_none h'] at hg; cases hg
    have hF : (flatK encR 2 d).size = n * 2 := by rw [size_flatK, hd]
    have hcs : n * 2 ≤ cur.size := by
      have : cur.size = cap * 2 := hs
      omega
    have htake : (Sort.putCells id 0 (flatK encR 2 d) cur).toList.take (n * 2) = (flatK encR 2 d).toList := by
      apply List.ext_getElem?
      intro j
      rw [List.getElem?_take, Array.getElem?_toList, Array.getElem?_toList]
      by_cases hj : j < n * 2
      · have hjc : j < cur.size := by omega
        have hjF : j < (flatK encR 2 d).size := by omega
        simp only [if_pos hj, Sort.putCells, Array.getElem?_mapIdx, Array.getElem?_eq_getElem hjc, Option.map_some]
        rw [if_pos (by omega), Array.getElem?_eq_getElem hjF, Nat.sub_zero, getElem!_pos (flatK encR 2 d) j hjF]
        rfl
      · rw [if_neg hj, Array.getElem?_eq_none (by omega)]
    refine ⟨h0, (flatK encR 2 d).toList, ?_, ?_⟩
    · rw [hlen]
      refine ⟨by rw [Array.length_toList, hF]; rfl, .inr ⟨g, cap, Sort.putCells id 0 (flatK encR 2 d) cur, rfl, hb, ?_, hn, hm, by simpa [Sort.putCells] using hs, htake⟩⟩
      have e : (Sort.mapBlock (Sort.ahead w q) g (Sort.putCells id 0 (flatK encR 2 d))).heap[g]? = some (.cells (Sort.putCells id 0 (flatK encR 2 d) cur) 24 (0, 0)) := by
        simp [Sort.mapBlock, Sort.ahead, Array.getElem?_modify, hg, Sort.onCells]
      show ((Sort.mapBlock (Sort.ahead w q) g (Sort.putCells id 0 (flatK encR 2 d))).heap ++ os)[g]? = _
      rw [Array.getElem?_append_left (by simpa [Sort.mapBlock, Sort.ahead] using hglt)]
      exact e
    · refine ⟨by rw [Array.length_toList, hF, hlen]; rfl, fun j p hj => ?_⟩
      rw [List.getElem?_map, Array.getElem?_toList] at hj
      obtain ⟨x, hx1, rfl⟩ := Option.map_eq_some_iff.1 hj
      obtain ⟨hjd, hx2⟩ := Array.getElem?_eq_some_iff.1 hx1
      have hxx : d[j]! = x := by rw [getElem!_pos d j hjd, hx2]
      have h2 := flat_at d j hjd
      rw [hxx] at h2
      have hm2 := k24_mkM (Sort.grow (putRowK encR 2 (Sort.ahead w q) g 0 d) os) base (fun k => ok k ∧ some k ≠ (Value.slice (some ⟨g, 0, none⟩) n cap).ownBlock) (unR x)
      have hdt : ((flatK encR 2 d).toList.drop (j * 2)).take 2 = [.int .i64 (unR x).f0, .int .i64 (unR x).f1] := by
        have k1 : j * 2 < (flatK encR 2 d).toList.length := by rw [Array.length_toList, hF]; omega
        have k2 : j * 2 + 1 < (flatK encR 2 d).toList.length := by rw [Array.length_toList, hF]; omega
        rw [List.drop_eq_getElem_cons k1, List.take_succ_cons, List.drop_eq_getElem_cons k2, List.take_succ_cons, List.take_zero]
        rw [getElem!_pos (flatK encR 2 d) (j * 2) (by rw [hF]; omega), getElem!_pos (flatK encR 2 d) (j * 2 + 1) (by rw [hF]; omega)] at h2
        rw [Array.getElem_toList, Array.getElem_toList, h2.1, h2.2]
        rfl
      show k24.M _ _ _ (unR x) (((flatK encR 2 d).toList.drop (j * 2)).take 2)
      rw [hdt]
      exact hm2

end Go.Proofs.Ythoapfagcdbpeaa.P
