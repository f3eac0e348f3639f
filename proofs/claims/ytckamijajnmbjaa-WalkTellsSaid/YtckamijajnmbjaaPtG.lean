/- A list of marks grows: the old one stays as it is. Conditions: the lengths are small. -/
import Derived.Test.YtckamijajnmbjaaPtA
set_option linter.unusedVariables false
set_option linter.unusedSimpArgs false
namespace Go.Proofs.Ytckamijajnmbjaa.P
open Go.RowKit Go.Proofs.YtckamijajnmbjaaW.PrintWords Go.Proofs.YtckamijajnmbjaaW.PrintLast Go.Proofs.YtckamijajnmbjaaW.PrintMore

theorem infoPt1 : ∃ i z, (Try.prog).info? 23 = some i ∧ i.zero = some z ∧ i.size = 1 ∧ i.bytes = 16 ∧ z.cells.size = 1 := by
  have h : ((Try.prog).info? 23).map (fun i => (i.zero, i.size, i.bytes)) = some (some (.complex .f64 0 0), 1, 16) := by kernel_rfl
  obtain ⟨i, hi, he⟩ := Option.map_eq_some_iff.1 h
  simp only [Prod.mk.injEq] at he
  exact ⟨i, .complex .f64 0 0, hi, he.1, he.2.1, he.2.2, rfl⟩
structure Grows (wi wr : World) (base : Nat) (u v : Value) (i : Int) (m s : Nat) : Prop where
  mk :: (cur : Kd.R kQ 23 wr base (fun _ => True) v (marksP i 0 s)) (old : Kd.R kQ 23 wr base (fun _ => True) u (marksP i 0 m)) (keep : wi.grownBy wr u.ownBlock) (more : m ≤ s) (at_ : (∃ A n c n', u = .slice A n c ∧ v = .slice A n' c) ∨ (∃ b, v.ownBlock = some b ∧ wi.heap.size ≤ b)) (lt : ∀ k, u.ownBlock = some k → k < wi.heap.size) (base_ : base ≤ wi.heap.size)
theorem Grows.start {wi : World} {base : Nat} {u : Value} {i : Int} {m : Nat} (h : Kd.R kQ 23 wi base (fun _ => True) u (marksP i 0 m)) (hb : base ≤ wi.heap.size) : Grows wi wi base u u i m m := by
  obtain ⟨A, c, hu⟩ := Kd.R_slice h
  exact ⟨h, h, World.grownBy.refl _ _, Nat.le_refl _, Or.inl ⟨A, _, c, _, hu, hu⟩, Kd.R_lt h, hb⟩
theorem Grows.below {wi wr wa : World} {base : Nat} {u v : Value} {i : Int} {m s : Nat} (h : Grows wi wr base u v i m s) (hb : Below wr.heap.size wr wa) : Grows wi wa base u v i m s :=
  ⟨Kd.R_below h.cur hb, Kd.R_below h.old hb, World.grownBy.trans h.keep (grown_of_below hb _), h.more, h.at_, h.lt, h.base_⟩
theorem Grows.append {wi wa : World} {base : Nat} {u v : Value} {i : Int} {m s : Nat} (h : Grows wi wa base u v i m s) (q : Nat) (hq : 0 < q) (hs : s + q ≤ 1000000000) (Au : Option Addr) (cu : Nat) (hC : Kd.C kQ wa Au q (marksP i s q)) (ty : TypeId) :
    ∃ v' W', (Builtin.append_ #[30, 30] ty #[v, .slice Au q cu]).run Try.prog wa = .ok v' W' ∧ Grows wi W' base u v' i m (s + q) := by
  obtain ⟨inf, z, hi, hz, hsz, hby, hzs⟩ := infoPt1
  have hqs := marksP_len i s q
  obtain ⟨v', W', hr, hR', hg, hor⟩ := append_two (ty := ty) ((0 : Int), (0 : Int)) Try.underlying30 hi hz hsz hby hzs (by decide) v (marksP i 0 s) (marksP i s q) h.cur Au cu (by rw [hqs]; exact hC) (by rw [hqs]; exact hq) (by rw [hqs, marksP_len]; omega) (Nat.le_trans h.base_ h.keep.size)
  rw [hqs] at hr
  have hcat : marksP i 0 s ++ marksP i s q = marksP i 0 (s + q) := by
    have := marksP_append i 0 s q
    rwa [Nat.zero_add] at this
  rw [hcat] at hR'
  refine ⟨v', W', hr, ?_⟩
  have hown : v.ownBlock = u.ownBlock ∨ ∃ b, v.ownBlock = some b ∧ wi.heap.size ≤ b := by
    rcases h.at_ with ⟨A, n, c, n', rfl, rfl⟩ | hb
    · left; cases A <;> rfl
    · exact Or.inr hb
  have hk : wi.grownBy W' u.ownBlock := grownBy_fresh h.keep hg hown
  rcases hor with ⟨A1, n1, c1, n1', rfl, rfl⟩ | ⟨⟨b, hb, hle⟩, hg0⟩
  · rcases h.at_ with ⟨A, n, c, n', rfl, hv⟩ | ⟨b, hb, hle⟩
    · injection hv with e1 e2 e3
      subst e1 e2 e3
      have hn : n = m := by have := (Kd.R_reads' h.old).1; rwa [marksP_len] at this
      subst hn
      have hcut := Kd.R_take hR' (m := n) (by rw [marksP_len]; have := h.more; omega)
      have htk : (marksP i 0 (s + q)).take n = marksP i 0 n := by
        have h3 := marksP_append i 0 n (s + q - n)
        rw [show n + (s + q - n) = s + q by have := h.more; omega] at h3
        rw [← h3, List.take_left' (marksP_len _ _ _)]
      rw [htk] at hcut
      exact ⟨hR', hcut, hk, by have := h.more; omega, Or.inl ⟨_, _, _, _, rfl, rfl⟩, h.lt, h.base_⟩
    · refine ⟨hR', Kd.R_grown2 h.old rfl hg (fun k e1 e2 => ?_), hk, by have := h.more; omega, Or.inr ⟨b, by rw [← hb]; cases A1 <;> rfl, hle⟩, h.lt, h.base_⟩
      have := h.lt k e2.symm
      rw [hb] at e1
      injection e1 with e1
      omega
  · exact ⟨hR', Kd.R_grown h.old hg0 (fun _ _ e => by cases e), hk, by have := h.more; omega, Or.inr ⟨b, hb, Nat.le_trans h.keep.size hle⟩, h.lt, h.base_⟩
end Go.Proofs.Ytckamijajnmbjaa.P
