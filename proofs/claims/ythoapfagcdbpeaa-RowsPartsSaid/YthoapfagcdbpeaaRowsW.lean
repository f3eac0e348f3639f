/- The function Sorted of package rows computes the plain list sortedRows. Conditions: how the list lies in memory. -/
import Derived.Test.YthoapfagcdbpeaaRowsV
import Derived.Test.YthoapfagcdbpeaaSortPlain
import Derived.Shelf.SlSortCmp.NoneTotal
set_option linter.unusedVariables false
set_option linter.unusedSimpArgs false
namespace Go.Proofs.Ythoapfagcdbpeaa.P
open Go.Sort (flatK size_flatK get_flatK HoldsK putRowK SWO PermIn SortedIn)
open Go.RowKit Go.Proofs.YthoapfagcdbpeaaW.PrintWords Go.Proofs.YthoapfagcdbpeaaW.PrintLast Go.Proofs.YthoapfagcdbpeaaW.PrintMore

def rows_Sorted.f (l0 : List ByteArray) : Option (List S24) := some (sortedRows l0)

theorem right_len {l : List ByteArray} (h : rightB l = true) : l.length ≤ 10 := by
  unfold rightB at h
  simp only [Bool.and_eq_true, decide_eq_true_eq] at h
  exact h.1
theorem right_doc {l : List ByteArray} (h : rightB l = true) (d : Int) : (docAt l d).size ≤ 40 := by
  unfold rightB at h
  simp only [Bool.and_eq_true, Bool.not_eq_true', List.any_eq_false] at h
  unfold docAt rdOf
  rw [List.getD_eq_getElem?_getD]
  cases he : l[d.toNat]? with
  | none => show (0 : Nat) ≤ 40; omega
  | some s =>
    have := h.2 s (List.mem_of_getElem? he)
    unfold longB at this
    simp only [decide_eq_true_eq, Nat.not_lt] at this
    exact this
theorem rowsTo_le {l : List ByteArray} (h : rightB l = true) (D : Nat) : (rowsTo l D).length ≤ D * 41 := by
  induction D with
  | zero => exact Nat.le_refl _
  | succ D ih =>
    rw [rowsTo, List.length_append, rowsOf_length]
    have := right_doc h (D : Int)
    omega

/-- The sort, called on the row of all suffixes. -/
theorem sort_all (A0 : Option Addr) (c0 : Nat) (l0 : List ByteArray) (HL : LessOk A0 c0 l0) (hR : rightB l0 = true) (g : Nat) (w0 w : World) (v : Value) (hr0 : Kd.C Kd.string w0 A0 l0.length l0) (hb : w0.cell? ⟨g, 0, none⟩ = some (.slice A0 l0.length c0)) (hB : Below w0.heap.size w0 w)
    (h : k24.R 24 w w0.heap.size (fun _ => True) v (allRows l0)) :
    Calls Try.prog 31 #[v, .func (.func 32) #[] #[.pointer (some ⟨g, 0, none⟩)]] w fun e w' => e = .returned (.tuple #[]) ∧ k24.R 24 w' w0.heap.size (fun _ => True) v (sortedRows l0) ∧ Below w0.heap.size w0 w' := by
  obtain ⟨A, c, hv⟩ := Kd.R_slice h
  subst hv
  by_cases hn : (allRows l0).length = 0
  · have hnil : allRows l0 = [] := List.eq_nil_of_length_eq_zero hn
    have hs : sortedRows l0 = [] := by unfold sortedRows; rw [if_pos hR, hnil, List.mergeSort_nil]
    rw [hnil] at h ⊢
    rw [hs]
    have hcon := AnyF.slices_SortFunc_none Try.sortRow A c (.func (.func 32) #[] #[.pointer (some ⟨g, 0, none⟩)]) w
    change Calls Try.prog 31 _ _ _ at hcon
    refine hcon.mono ?_
    rintro e w' ⟨rfl, rfl⟩
    exact ⟨rfl, h, hB⟩
  · have hne : ∃ r, r ∈ allRows l0 := List.exists_mem_of_length_pos (by omega)
    obtain ⟨r, hr⟩ := hne
    haveI : Inhabited (RowOf l0) := ⟨⟨(r.f0, r.f1), allRows_ok l0 r hr⟩⟩
    obtain ⟨blk, hA, hblk, hlt⟩ : ∃ blk, A = some ⟨blk, 0, none⟩ ∧ w0.heap.size ≤ blk ∧ blk < w.heap.size := by
      obtain ⟨h0, inner, ho, _⟩ := h
      rcases ho.2 with ⟨e0, hz⟩ | ⟨g', cap', cur, e0, hb', hg, _⟩
      · injection e0 with _ e0
        exact absurd e0 hn
      · injection e0 with e1
        have hl : g' < w.heap.size := by
          rcases Nat.lt_or_ge g' w.heap.size with h' | h'
          · exact h'
          · rw [Array.getElem?_eq_none h'] at hg; cases hg
        exact ⟨g', e1, hb', hl⟩
    subst hA
    have hmap := map_allOf l0
    have hsz : (allOf l0).size = (allRows l0).length := size_allOf l0
    have h' := h
    rw [← hmap] at h'
    have hH := holds_row h'
    have eg : ∀ args w, (callFunc 32 args).run Try.prog w = .ok (.enter 32 args) w := enters_of Try.func32 (by kernel_rfl) rfl
    have hle : (allRows l0).length ≤ 410 := by
      have := rowsTo_le hR l0.length
      have := right_len hR
      unfold allRows
      omega
    have hcon := AnyQ.slices_SortFunc Try.sortRow 2 Try.isAgg24 Try.sizeOf24 (encR (l := l0)) (fun _ => rfl) (fun x v hv => by simp [encR] at hv; rcases hv with rfl | rfl <;> rfl) (cmpR l0) (swoR l0) 32 #[.pointer (some ⟨g, 0, none⟩)] blk 0 c (allOf l0) w eg (cmpLays A0 c0 l0 HL g w0.heap.size blk 0 (allOf l0).size w0 w hr0 hb hB rfl hblk) hH hlt (by omega)
    change Calls Try.prog 31 _ _ _ at hcon
    rw [hsz] at hcon
    refine hcon.mono ?_
    rintro e w' ⟨rfl, d', n, os, hp, hs, rfl⟩
    rw [← hsz] at hp hs
    have hsort := sort_left l0 hR d' hp hs
    have hd' : d'.size = (allRows l0).length := by rw [← hsz]; exact hp.1
    refine ⟨rfl, ?_, below_sortWorldK encR 2 w0 w _ blk 0 n d' os hB hblk hB.size⟩
    rw [← hsort]
    have := row_sorted (l := l0) (q := n) (os := os) (d := d') hd' rfl h
    exact this

end Go.Proofs.Ythoapfagcdbpeaa.P
