/- append(v, ys...) for a row of one's own: it grows where it is, or it goes elsewhere and leaves the old one as it was. Conditions: ys is not empty; the lengths are small. -/
import Derived.Test.YtckamijajnmbjaaPtI
set_option linter.unusedVariables false
set_option linter.unusedSimpArgs false
namespace Go.Proofs.Ytckamijajnmbjaa.P
open Go.RowKit Go.Proofs.YtckamijajnmbjaaW.PrintWords Go.Proofs.YtckamijajnmbjaaW.PrintLast Go.Proofs.YtckamijajnmbjaaW.PrintMore

theorem append_two {α : Type} {enc : α → Value} {h1 : ∀ x, (enc x).oneCell' = true} {P : Program} {W : World} {base bytes : Nat} {t e ty : TypeId} {i : TypeInfo} {z : Value} (d : α) (ht : P.underlying t = some (.slice e)) (hi : P.info? e = some i) (hz : i.zero = some z) (hsz : i.size = 1) (hby : i.bytes = bytes) (hzs : z.cells.size = 1)
    (hbp : 0 < bytes) (v : Value) (xs ys : List α) (hR : (Kd.scalar enc h1).R e W base (fun _ => True) v xs) (Au : Option Addr) (cu : Nat) (hC : (Kd.scalar enc h1).C W Au ys.length ys) (hpos : 0 < ys.length) (hlen : (xs.length + ys.length) * bytes ≤ 140737488355328) (hbase : base ≤ W.heap.size) :
    ∃ v' W', (Builtin.append_ #[t, t] ty #[v, .slice Au ys.length cu]).run P W = .ok v' W' ∧ (Kd.scalar enc h1).R e W' base (fun _ => True) v' (xs ++ ys) ∧ W.grownBy W' v.ownBlock ∧
      ((∃ A n c n', v = .slice A n c ∧ v' = .slice A n' c) ∨ ((∃ b, v'.ownBlock = some b ∧ W.heap.size ≤ b) ∧ W.grownBy W' none)) := by
  have hsmall : xs.length + ys.length ≤ 140737488355328 := Nat.le_trans (Nat.le_mul_of_pos_right _ hbp) hlen
  obtain ⟨_, _, hrd⟩ := Kd.reads_of_C (d := d) hC
  obtain ⟨ad, rfl, hcell⟩ := hrd hpos
  have hown := Kd.own_of_R hR
  have hln : (encs enc ys).length = ys.length * 1 := by unfold encs; rw [List.length_map, Nat.mul_one]
  have hnews : ∀ j u, (encs enc ys)[j]? = some u → W.cell? (ad.add j) = some u := by
    intro j u hj
    unfold encs at hj
    rw [List.getElem?_map] at hj
    obtain ⟨y, hy, rfl⟩ := Option.map_eq_some_iff.1 hj
    obtain ⟨hjl, rfl⟩ := List.getElem?_eq_some_iff.1 hy
    rw [hcell j hjl, List.getD_eq_getElem?_getD, List.getElem?_eq_getElem hjl]
    rfl
  have hone : ∀ u ∈ encs enc ys, u.oneCell' = true := by
    intro u hu
    obtain ⟨y, _, rfl⟩ := List.mem_map.1 hu
    exact h1 y
  obtain ⟨v', W', hr, hown', hg, _, hat⟩ := run_append_own_at (P := P) W base t ty e i z 1 bytes ht hi hz hsz hby hzs (by decide) v xs.length (encs enc xs) hown ad ys.length cu (encs enc ys) hln hnews hone (by simp only [maxLen]; omega) hlen hbase
  have hR' : (Kd.scalar enc h1).R e W' base (fun _ => True) v' (xs ++ ys) := by
    refine Kd.R_of_own ?_ (fun _ _ => trivial)
    have he : encs enc (xs ++ ys) = encs enc xs ++ encs enc ys := by unfold encs; rw [List.map_append]
    rw [he, List.length_append]
    exact hown'
  refine ⟨v', W', hr, hR', hg, ?_⟩
  rcases hown.2 with ⟨rfl, hn0⟩ | ⟨g, cap, cur, rfl, hbg, hgc, hnc, hcm, hcs, htake⟩
  · right
    rcases hat with hat | hat
    · exfalso
      obtain ⟨A', c', rfl⟩ := Kd.R_slice hR'
      have hC' := (Kd.R_reads' hR').2.2
      obtain ⟨_, _, hrd'⟩ := Kd.reads_of_C (d := d) hC'
      obtain ⟨ad', rfl, _⟩ := hrd' (by rw [List.length_append]; omega)
      simp [Value.ownBlock] at hat
    · exact ⟨⟨_, hat, Nat.le_refl _⟩, hg⟩
  · by_cases hroom : xs.length + ys.length ≤ cap
    · left
      have hr2 := run_append_room (P := P) W t ty e i ht hi g xs.length cap cur hgc ad ys.length cu (encs enc ys) (by rw [hsz]; exact hln) hnews hone hroom (by rw [hsz, hln, hcs]; omega)
      rw [hr] at hr2
      injection hr2 with hv _
      exact ⟨_, _, _, _, rfl, hv⟩
    · right
      have holds : ∀ j u, (encs enc xs)[j]? = some u → W.cell? ((⟨g, 0, none⟩ : Addr).add j) = some u := hown.cells (g := g) rfl
      have hr2 := run_append_grow (P := P) W t ty e i z ht hi hz ⟨g, 0, none⟩ xs.length cap (encs enc xs) (by rw [hsz]; exact hown.1) holds ad ys.length cu (encs enc ys) (by rw [hsz]; exact hln) hnews (by omega) (by omega) (growslice_fits (by omega) (by rw [hby]; exact hlen))
      rw [hr] at hr2
      injection hr2 with hv hw
      refine ⟨⟨W.heap.size, by rw [hv]; rfl, Nat.le_refl _⟩, ?_⟩
      rw [hw]
      exact ⟨rfl, rfl, rfl, by simp, fun k hk _ => (below_alloc (Below.refl W.drew.heap.size W.drew) _).block k hk⟩
theorem grownBy_fresh {a b c : World} {r r' : Option Nat} (h : a.grownBy b r) (k : b.grownBy c r') (hr : r' = r ∨ ∃ q, r' = some q ∧ a.heap.size ≤ q) : a.grownBy c r := by
  refine ⟨k.os.trans h.os, k.tape.trans h.tape, k.output.trans h.output, Nat.le_trans h.size k.size, fun q hq hne => ?_⟩
  rw [k.block q (Nat.lt_of_lt_of_le hq h.size) ?_]
  · exact h.block q hq hne
  · rcases hr with rfl | ⟨q', rfl, hle⟩
    · exact hne
    · intro e
      injection e with e
      omega
/-- A call of append, told by its run. -/
theorem append_event {P : Program} {ops : Array Oper} {rest : List Oper} {o : Oper} {a : Act} {Q : Exit → Act → World → Prop} {W W' : World} {v u v' : Value} (hgd : o.guard = none) (s x : Operand) (t : TypeId)
    (ho : o.op = .call { callee := .builtin .append, args := #[s, x], argTypes := #[t, t] }) (hs : a.eval s = v) (hx : a.eval x = u) (hr : (Builtin.append_ #[t, t] o.type #[v, u]).run P W = .ok v' W') (h : wpList P ops Q rest (a.put o.dst v') W') : wpList P ops Q (o :: rest) a W := by
  refine wpList_plain hgd fun K hK => ?_
  unfold Oper.wp execOp
  simp only [ho, resolve, invoke, builtin, Sem.run_bind, Sem.run_pure, Result.andThen_ok, List.map_toArray, List.map_cons, List.map_nil, hs, hx, hr]
  exact hK _ _ h
end Go.Proofs.Ytckamijajnmbjaa.P
