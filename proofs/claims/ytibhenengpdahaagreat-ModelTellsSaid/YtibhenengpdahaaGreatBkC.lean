/- Lists of elements that are told by their cells alone: rows of them, their marks, what grows; Book's words. Conditions: lengths are small. -/
import Derived.Test.YtibhenengpdahaaGreatJA
set_option linter.unusedVariables false
set_option linter.unusedSimpArgs false
namespace Go.Proofs.YtibhenengpdahaaGreat.P
open Go.RowKit Go.Proofs.YtibhenengpdahaaGreatW.PrintWords Go.Proofs.YtibhenengpdahaaGreatW.PrintLast Go.Proofs.YtibhenengpdahaaGreatW.PrintMore

/-- A kind whose elements are told by their cells alone. -/
structure Flat {α : Type} (d : Kd α) (enc : α → List Value) : Prop where
 mk :: (E : d.E = []) (K : ∀ w x cs, d.K w x cs ↔ cs = enc x) (M : ∀ w base ok x cs, d.M w base ok x cs ↔ cs = enc x)
theorem Flat.scalar {α : Type} (enc : α → Value) (h1 : ∀ x, (enc x).oneCell' = true) : Flat (Kd.scalar enc h1) (fun x => [enc x]) := ⟨rfl, fun _ _ _ => Iff.rfl, fun _ _ _ _ _ => Iff.rfl⟩
theorem Flat.pair {α β : Type} {a : Kd α} {b : Kd β} {ea : α → List Value} {eb : β → List Value} (ha : Flat a ea) (hb : Flat b eb) : Flat (Kd.pair a b) (fun x => ea x.1 ++ eb x.2) := by
 refine ⟨by show a.E ++ b.E = []; rw [ha.E, hb.E]; rfl, fun w x cs => ?_, fun w base ok x cs => ?_⟩
 ·constructor
  ·rintro ⟨c0, c1, rfl, h0, h1⟩
   rw [(ha.K _ _ _).1 h0, (hb.K _ _ _).1 h1]
  ·rintro rfl
   exact ⟨_, _, rfl, (ha.K _ _ _).2 rfl, (hb.K _ _ _).2 rfl⟩
 ·constructor
  ·rintro ⟨c0, c1, rfl, h0, h1⟩
   rw [(ha.M _ _ _ _ _).1 h0, (hb.M _ _ _ _ _).1 h1]
  ·rintro rfl
   exact ⟨_, _, rfl, (ha.M _ _ _ _ _).2 rfl, (hb.M _ _ _ _ _).2 rfl⟩
theorem Flat.iso {α β : Type} {d : Kd α} {enc : α → List Value} (h : Flat d enc) (f : β → α) : Flat (Kd.iso d f) (fun x => enc (f x)) :=
 ⟨h.E, fun w x cs => h.K w (f x) cs, fun w base ok x cs => h.M w base ok (f x) cs⟩
section
variable {α : Type} {d : Kd α} {enc : α → List Value} {e : TypeId} {w w1 W : World} {base : Nat} {v : Value} {xs : List α}
theorem Flat.len (h : Flat d enc) (x : α) : (enc x).length = d.sz := d.K_len (w := (default : World)) ((h.K (default : World) x _).2 rfl)
theorem Flat.one (h : Flat d enc) (x : α) : ∀ u ∈ enc x, u.oneCell' = true := d.K_one (w := (default : World)) ((h.K (default : World) x _).2 rfl)
theorem flat_length (h : Flat d enc) (xs : List α) : (xs.flatMap enc).length = xs.length * d.sz := by
 induction xs with
 | nil => simp
 | cons x xs ih => rw [List.flatMap_cons, List.length_append, ih, h.len, List.length_cons, Nat.add_mul, Nat.one_mul, Nat.add_comm]
theorem flat_seg (h : Flat d enc) : ∀ (xs : List α) (j : Nat) (p : α), xs[j]? = some p → ((xs.flatMap enc).drop (j * d.sz)).take d.sz = enc p
 | [], j, p, hj => by simp at hj
 | x :: xs, 0, p, hj => by
  obtain rfl : x = p := by simpa using hj
  rw [List.flatMap_cons, Nat.zero_mul, List.drop_zero, List.take_left' (h.len x)]
 | x :: xs, j + 1, p, hj => by
  have := flat_seg h xs j p (by simpa using hj)
  rw [List.flatMap_cons, List.drop_append, List.drop_eq_nil_of_le (by rw [h.len]; exact Nat.le_mul_of_pos_left _ (Nat.succ_pos j)), h.len, List.nil_append, show (j + 1) * d.sz - d.sz = j * d.sz by rw [Nat.add_mul, Nat.one_mul, Nat.add_sub_cancel]]
  exact this
theorem flat_reps (h : Flat d enc) (xs : List α) (R : α → List Value → Prop) (hR : ∀ x, R x (enc x)) : Reps R d.sz xs (xs.flatMap enc) :=
 ⟨flat_length h xs, fun j p hj => by rw [flat_seg h xs j p hj]; exact hR p⟩
theorem flat_only (h : Flat d enc) (R : α → List Value → Prop) (hR : ∀ x cs, R x cs → cs = enc x) : ∀ (xs : List α) (cs : List Value), Reps R d.sz xs cs → cs = xs.flatMap enc
 | [], cs, hr => by
  have := hr.1
  rw [List.length_nil, Nat.zero_mul] at this
  rw [List.length_eq_zero_iff.1 this]
  rfl
 | x :: xs, cs, hr => by
  have hl : cs.length = (xs.length + 1) * d.sz := hr.1
  rw [Nat.add_mul, Nat.one_mul] at hl
  have h0 := hR _ _ (hr.2 0 x rfl)
  rw [Nat.zero_mul, List.drop_zero] at h0
  have ht : Reps R d.sz xs (cs.drop d.sz) := by
   refine ⟨by rw [List.length_drop]; omega, fun j p hj => ?_⟩
   have h1 := hr.2 (j + 1) p (by simpa using hj)
   rw [List.drop_drop]
   rwa [show (j + 1) * d.sz = d.sz + j * d.sz by rw [Nat.add_mul, Nat.one_mul, Nat.add_comm]] at h1
  rw [List.flatMap_cons, ← flat_only h R hR xs _ ht, ← h0, List.take_append_drop]
theorem R_of_flat (h : Flat d enc) (ho : w.ownsRow base e d.sz v xs.length (xs.flatMap enc)) : d.R e w base (fun _ => True) v xs :=
 ⟨fun _ _ => trivial, xs.flatMap enc, ho, flat_reps h xs _ (fun x => (h.M _ _ _ _ _).2 rfl)⟩
theorem flat_of_R (h : Flat d enc) {ok : Nat → Prop} (hR : d.R e w base ok v xs) : w.ownsRow base e d.sz v xs.length (xs.flatMap enc) := by
 obtain ⟨_, inner, ho, hr⟩ := hR
 rwa [flat_only h _ (fun x cs hx => (h.M _ _ _ _ _).1 hx) xs inner hr] at ho
theorem flat_cells (h : Flat d enc) {A : Option Addr} {n : Nat} (hC : d.C w A n xs) (hp : 0 < n) : ∃ ad, A = some ad ∧ ∀ j u, (xs.flatMap enc)[j]? = some u → w.cell? (ad.add j) = some u := by
 obtain ⟨hn, _, hc⟩ := hC
 obtain ⟨ad, hA, hcell⟩ := hc hp
 refine ⟨ad, hA, fun j u hj => ?_⟩
 have hjl := (List.getElem?_eq_some_iff.1 hj).1
 rw [flat_length h] at hjl
 have hsz : 0 < d.sz := Nat.pos_of_ne_zero (fun e => by rw [e] at hjl; simp at hjl)
 have hq : j / d.sz < xs.length := (Nat.div_lt_iff_lt_mul hsz).2 hjl
 obtain ⟨c, hcl, hK, hu⟩ := hcell (j / d.sz) _ (List.getElem?_eq_getElem hq)
 have hce := (h.K _ _ _).1 hK
 have hseg := flat_seg h xs _ _ (List.getElem?_eq_getElem hq)
 have hm : j / d.sz * d.sz + j % d.sz = j := by rw [Nat.mul_comm]; exact Nat.div_add_mod j d.sz
 have hlt : j % d.sz < d.sz := Nat.mod_lt _ hsz
 have h2 : c[j % d.sz]? = some u := by
  rw [hce, ← hseg, List.getElem?_take, if_pos hlt, List.getElem?_drop, hm]
  exact hj
 have := hu _ u h2
 rwa [hm] at this
/-- append(v, ys...) for a row of one's own: it grows where it is, or it goes elsewhere and leaves the old one as it was. -/
theorem append_flat (h : Flat d enc) {P : Program} {bytes : Nat} {t ty : TypeId} {i : TypeInfo} {z : Value} (ht : P.underlying t = some (.slice e)) (hi : P.info? e = some i) (hz : i.zero = some z) (hsz : i.size = d.sz) (hby : i.bytes = bytes) (hzs : z.cells.size = d.sz) (hsp : 0 < d.sz)
  (hsb : d.sz ≤ bytes) (ys : List α) (hR : d.R e W base (fun _ => True) v xs) (Au : Option Addr) (cu : Nat) (hC : d.C W Au ys.length ys) (hpos : 0 < ys.length) (hlen : (xs.length + ys.length) * bytes ≤ 140737488355328) (hbase : base ≤ W.heap.size) :
  ∃ v' W', (Builtin.append_ #[t, t] ty #[v, .slice Au ys.length cu]).run P W = .ok v' W' ∧ d.R e W' base (fun _ => True) v' (xs ++ ys) ∧ W.grownBy W' v.ownBlock ∧
   ((∃ A n c n', v = .slice A n c ∧ v' = .slice A n' c) ∨ ((∃ b, v'.ownBlock = some b ∧ W.heap.size ≤ b) ∧ W.grownBy W' none)) := by
 have hsmall : xs.length + ys.length ≤ 140737488355328 := Nat.le_trans (Nat.le_mul_of_pos_right _ (by omega)) hlen
 have hsm2 : (xs.length + ys.length) * d.sz ≤ 140737488355328 := Nat.le_trans (Nat.mul_le_mul_left _ hsb) hlen
 obtain ⟨ad, rfl, hnews⟩ := flat_cells h hC hpos
 have hown := flat_of_R h hR
 have hln : (ys.flatMap enc).length = ys.length * d.sz := flat_length h ys
 have hone : ∀ u ∈ ys.flatMap enc, u.oneCell' = true := by
  intro u hu
  obtain ⟨y, _, hy⟩ := List.mem_flatMap.1 hu
  exact h.one y u hy
 obtain ⟨v', W', hr, hown', hg, _, hat⟩ := run_append_own_at (P := P) W base t ty e i z d.sz bytes ht hi hz hsz hby hzs hsp v xs.length (xs.flatMap enc) hown ad ys.length cu (ys.flatMap enc) hln hnews hone (by simp only [maxLen]; omega) hlen hbase
 have hR' : d.R e W' base (fun _ => True) v' (xs ++ ys) := by
  refine R_of_flat h ?_
  rw [List.flatMap_append, List.length_append]
  exact hown'
 refine ⟨v', W', hr, hR', hg, ?_⟩
 rcases hown.2 with ⟨rfl, hn0⟩ | ⟨g, cap, cur, rfl, hbg, hgc, hnc, hcm, hcs, htake⟩
 ·right
  rcases hat with hat | hat
  ·exfalso
   obtain ⟨A', c', rfl⟩ := Kd.R_slice hR'
   obtain ⟨ad', rfl, _⟩ := (Kd.R_reads' hR').2.2.2.2 (by rw [List.length_append]; omega)
   simp [Value.ownBlock] at hat
  ·exact ⟨⟨_, hat, Nat.le_refl _⟩, hg⟩
 ·by_cases hroom : xs.length + ys.length ≤ cap
  ·left
   have hr2 := run_append_room (P := P) W t ty e i ht hi g xs.length cap cur hgc ad ys.length cu (ys.flatMap enc) (by rw [hsz]; exact hln) hnews hone hroom (by rw [hsz, hln, hcs, ← Nat.add_mul]; exact Nat.mul_le_mul_right _ hroom)
   rw [hr] at hr2
   injection hr2 with hv _
   exact ⟨_, _, _, _, rfl, hv⟩
  ·right
   have holds : ∀ j u, (xs.flatMap enc)[j]? = some u → W.cell? ((⟨g, 0, none⟩ : Addr).add j) = some u := hown.cells (g := g) rfl
   have hr2 := run_append_grow (P := P) W t ty e i z ht hi hz ⟨g, 0, none⟩ xs.length cap (xs.flatMap enc) (by rw [hsz]; exact hown.1) holds ad ys.length cu (ys.flatMap enc) (by rw [hsz]; exact hln) hnews (by omega) (by omega) (growslice_fits (by omega) (by rw [hby]; exact hlen))
   rw [hr] at hr2
   injection hr2 with hv hw
   refine ⟨⟨W.heap.size, by rw [hv]; rfl, Nat.le_refl _⟩, ?_⟩
   rw [hw]
   exact ⟨rfl, rfl, rfl, by simp, fun k hk _ => (below_alloc (Below.refl W.drew.heap.size W.drew) _).block k hk⟩
end
theorem grownBy_fresh {a b c : World} {r r' : Option Nat} (h : a.grownBy b r) (k : b.grownBy c r') (hr : r' = r ∨ ∃ q, r' = some q ∧ a.heap.size ≤ q) : a.grownBy c r := by
 refine ⟨k.os.trans h.os, k.tape.trans h.tape, k.output.trans h.output, Nat.le_trans h.size k.size, fun q hq hne => ?_⟩
 rw [k.block q (Nat.lt_of_lt_of_le hq h.size) ?_]
 ·exact h.block q hq hne
 ·rcases hr with rfl | ⟨q', rfl, hle⟩
  ·exact hne
  ·intro e
   injection e with e
   omega
/-- A call of append, told by its run. -/
theorem append_event {P : Program} {ops : Array Oper} {rest : List Oper} {o : Oper} {a : Act} {Q : Exit → Act → World → Prop} {W W' : World} {v u v' : Value} (hgd : o.guard = none) (s x : Operand) (t : TypeId)
  (ho : o.op = .call { callee := .builtin .append, args := #[s, x], argTypes := #[t, t] }) (hs : a.eval s = v) (hx : a.eval x = u) (hr : (Builtin.append_ #[t, t] o.type #[v, u]).run P W = .ok v' W') (h : wpList P ops Q rest (a.put o.dst v') W') : wpList P ops Q (o :: rest) a W := by
 refine wpList_plain hgd fun K hK => ?_
 unfold Oper.wp execOp
 simp only [ho, resolve, invoke, builtin, Sem.run_bind, Sem.run_pure, Result.andThen_ok, List.map_toArray, List.map_cons, List.map_nil, hs, hx, hr]
 exact hK _ _ h
/-- The marks of list i, from a on. -/
def marksOf {α : Type} (mk : Int → Nat → α) (i : Int) (a n : Nat) : List α := (List.range' a n).map (mk i)
section
variable {α : Type} (mk : Int → Nat → α) (i : Int)
theorem marks_len (a n : Nat) : (marksOf mk i a n).length = n := by
 unfold marksOf
 rw [List.length_map, List.length_range']
theorem marks_succ (a n : Nat) : marksOf mk i a (n + 1) = marksOf mk i a n ++ [mk i (a + n)] := by
 unfold marksOf
 rw [List.range'_1_concat, List.map_append]
 rfl
theorem marks_append (a n m : Nat) : marksOf mk i a n ++ marksOf mk i (a + n) m = marksOf mk i a (n + m) := by
 unfold marksOf
 rw [← List.map_append, List.range'_append_1]
theorem marks_set (xs : List α) (k : Nat) (h : k < xs.length) : (marksOf mk i 0 k ++ xs.drop k).set k (mk i k) = marksOf mk i 0 (k + 1) ++ xs.drop (k + 1) := by
 rw [List.drop_eq_getElem_cons h, List.set_append_right _ _ (by rw [marks_len]; exact Nat.le_refl _), marks_len, Nat.sub_self, List.set_cons_zero, marks_succ, Nat.zero_add, List.append_assoc]
 rfl
theorem marks_rd (z : α) (m k : Nat) (h : k < m) : (marksOf mk i 0 m).getD k z = mk i k := by
 unfold marksOf
 rw [List.getD_eq_getElem?_getD, List.getElem?_map, List.getElem?_eq_getElem (by rw [List.length_range']; exact h)]
 simp
end
theorem bw64 (n : Nat) (h : n ≤ 1000000000) : wrap64 (n : Int) = (n : Int) := by
 unfold wrap64
 omega
/-- A list of marks grows: v is the one that has grown so far, u the old one. -/
structure Grows {α : Type} (d : Kd α) (e : TypeId) (mk : Int → Nat → α) (wi wr : World) (base : Nat) (u v : Value) (i : Int) (m s : Nat) : Prop where
 mk' :: (cur : d.R e wr base (fun _ => True) v (marksOf mk i 0 s)) (old : d.R e wr base (fun _ => True) u (marksOf mk i 0 m)) (keep : wi.grownBy wr u.ownBlock) (more : m ≤ s) (at_ : (∃ A n c n', u = .slice A n c ∧ v = .slice A n' c) ∨ (∃ b, v.ownBlock = some b ∧ wi.heap.size ≤ b)) (lt : ∀ k, u.ownBlock = some k → k < wi.heap.size) (base_ : base ≤ wi.heap.size)
section
variable {α : Type} {d : Kd α} {e : TypeId} {mk : Int → Nat → α} {wi wr wa : World} {base : Nat} {u v : Value} {i : Int} {m s : Nat}
theorem Grows.start (h : d.R e wi base (fun _ => True) u (marksOf mk i 0 m)) (hb : base ≤ wi.heap.size) : Grows d e mk wi wi base u u i m m := by
 obtain ⟨A, c, hu⟩ := Kd.R_slice h
 exact ⟨h, h, World.grownBy.refl _ _, Nat.le_refl _, Or.inl ⟨A, _, c, _, hu, hu⟩, Kd.R_lt h, hb⟩
theorem Grows.below (h : Grows d e mk wi wr base u v i m s) (hb : Below wr.heap.size wr wa) : Grows d e mk wi wa base u v i m s :=
 ⟨Kd.R_below h.cur hb, Kd.R_below h.old hb, World.grownBy.trans h.keep (grown_of_below hb _), h.more, h.at_, h.lt, h.base_⟩
theorem Grows.append {enc : α → List Value} (hF : Flat d enc) {P : Program} {t : TypeId} {bytes : Nat} (ht : P.underlying t = some (.slice e)) (hinf : ∃ i z, P.info? e = some i ∧ i.zero = some z ∧ i.size = d.sz ∧ i.bytes = bytes ∧ z.cells.size = d.sz) (hsp : 0 < d.sz) (hsb : d.sz ≤ bytes) (hb40 : bytes ≤ 100)
  (h : Grows d e mk wi wa base u v i m s) (q : Nat) (hq : 0 < q) (hs : s + q ≤ 1000000000) (Au : Option Addr) (cu : Nat) (hC : d.C wa Au q (marksOf mk i s q)) (ty : TypeId) :
  ∃ v' W', (Builtin.append_ #[t, t] ty #[v, .slice Au q cu]).run P wa = .ok v' W' ∧ Grows d e mk wi W' base u v' i m (s + q) := by
 obtain ⟨inf, z, hi, hz, hsz, hby, hzs⟩ := hinf
 have hqs := marks_len mk i s q
 have hbig : (s + q) * bytes ≤ 140737488355328 := Nat.le_trans (Nat.mul_le_mul hs hb40) (by decide)
 obtain ⟨v', W', hr, hR', hg, hor⟩ := append_flat hF (ty := ty) ht hi hz hsz hby hzs hsp hsb (marksOf mk i s q) h.cur Au cu (by rw [hqs]; exact hC) (by rw [hqs]; exact hq) (by rw [hqs, marks_len]; exact hbig) (Nat.le_trans h.base_ h.keep.size)
 rw [hqs] at hr
 have hcat : marksOf mk i 0 s ++ marksOf mk i s q = marksOf mk i 0 (s + q) := by
  have := marks_append mk i 0 s q
  rwa [Nat.zero_add] at this
 rw [hcat] at hR'
 refine ⟨v', W', hr, ?_⟩
 have hown : v.ownBlock = u.ownBlock ∨ ∃ b, v.ownBlock = some b ∧ wi.heap.size ≤ b := by
  rcases h.at_ with ⟨A, n, c, n', rfl, rfl⟩ | hb
  ·left; cases A <;> rfl
  ·exact Or.inr hb
 have hk : wi.grownBy W' u.ownBlock := grownBy_fresh h.keep hg hown
 rcases hor with ⟨A1, n1, c1, n1', rfl, rfl⟩ | ⟨⟨b, hb, hle⟩, hg0⟩
 ·rcases h.at_ with ⟨A, n, c, n', rfl, hv⟩ | ⟨b, hb, hle⟩
  ·injection hv with e1 e2 e3
   subst e1 e2 e3
   have hn : n = m := by have := (Kd.R_reads' h.old).1; rwa [marks_len] at this
   subst hn
   have hcut := Kd.R_take hR' (m := n) (by rw [marks_len]; have := h.more; omega)
   have htk : (marksOf mk i 0 (s + q)).take n = marksOf mk i 0 n := by
    have h3 := marks_append mk i 0 n (s + q - n)
    rw [show n + (s + q - n) = s + q by have := h.more; omega] at h3
    rw [← h3, List.take_left' (marks_len _ _ _ _)]
   rw [htk] at hcut
   exact ⟨hR', hcut, hk, by have := h.more; omega, Or.inl ⟨_, _, _, _, rfl, rfl⟩, h.lt, h.base_⟩
  ·refine ⟨hR', Kd.R_grown2 h.old hF.E hg (fun k e1 e2 => ?_), hk, by have := h.more; omega, Or.inr ⟨b, by rw [← hb]; cases A1 <;> rfl, hle⟩, h.lt, h.base_⟩
   have := h.lt k e2.symm
   rw [hb] at e1
   injection e1 with e1
   omega
 ·exact ⟨hR', Kd.R_grown2 h.old hF.E hg0 (fun _ e => by cases e), hk, by have := h.more; omega, Or.inr ⟨b, hb, Nat.le_trans h.keep.size hle⟩, h.lt, h.base_⟩
end
/-- A row of lists. -/
structure Lists (w : World) (A : Option Addr) (us : List Value) : Prop where
 mk :: (at_ : ∀ i, (h : i < us.length) → ∃ ad, A = some ad ∧ w.cell? (ad.add i) = some us[i])
theorem Lists.below {w w1 : World} {A : Option Addr} {us : List Value} (h : Lists w A us) (hb : Below w.heap.size w w1) : Lists w1 A us :=
 ⟨fun i hi => by obtain ⟨ad, h1, h2⟩ := h.at_ i hi; exact ⟨ad, h1, pw_cell_below hb h2⟩⟩
/-- A list that is read. -/
def ReadsD {α : Type} (d : Kd α) (w : World) (u : Value) (xs : List α) : Prop := ∃ a k, u = .slice a xs.length k ∧ xs.length ≤ k ∧ d.C w a xs.length xs
theorem ReadsD.below {α : Type} {d : Kd α} {w w1 : World} {u : Value} {xs : List α} (h : ReadsD d w u xs) (hb : Below w.heap.size w w1) : ReadsD d w1 u xs := by
 obtain ⟨a, k, h1, h2, h3⟩ := h
 exact ⟨a, k, h1, h2, Kd.C_below h3 hb⟩
theorem readsD_of_R {α : Type} {d : Kd α} {e : TypeId} {w : World} {b : Nat} {u : Value} {xs : List α} {ok : Nat → Prop} (h : d.R e w b ok u xs) : ReadsD d w u xs := by
 obtain ⟨A, c, rfl⟩ := Kd.R_slice h
 exact ⟨A, c, rfl, (Kd.R_reads' h).2.1, (Kd.R_reads' h).2.2⟩
/-- Two rows of elements of other types lie in other blocks. -/
theorem types_ne {α β : Type} {d : Kd α} {d' : Kd β} {e e' : TypeId} {W : World} {b b' : Nat} {ok ok' : Nat → Prop} {u v : Value} {X : List α} {Y : List β} (hne : e ≠ e') (h1 : d.R e W b ok u X) (h2 : d'.R e' W b' ok' v Y) (k : Nat) (e1 : u.ownBlock = some k) (e2 : v.ownBlock = some k) : False := by
 obtain ⟨_, o1⟩ := Kd.R_own h1
 obtain ⟨_, o2⟩ := Kd.R_own h2
 obtain ⟨c1, g1⟩ := own_typed o1 k e1
 obtain ⟨c2, g2⟩ := own_typed o2 k e2
 rw [g1] at g2
 injection g2 with g2
 injection g2 with _ h3
 exact hne h3
theorem block_ne {α : Type} {d : Kd α} {e t : TypeId} {W : World} {b bk : Nat} {ok : Nat → Prop} {u : Value} {X : List α} {cs : Array Value} (hne : e ≠ t) (h : d.R e W b ok u X) (hb : W.heap[bk]? = some (.cells cs t (0, 0))) : u.ownBlock ≠ some bk := by
 intro e1
 obtain ⟨_, o1⟩ := Kd.R_own h
 obtain ⟨c1, g1⟩ := own_typed o1 bk e1
 rw [hb] at g1
 injection g1 with g1
 injection g1 with _ h3
 exact hne h3.symm
/-- Nothing is turned but the lists' own blocks. -/
structure PutKeep (us : List Value) (w w' : World) : Prop where
 mk :: (os : w'.os = w.os) (tape : w'.tape = w.tape) (output : w'.output = w.output) (size : w.heap.size ≤ w'.heap.size) (far : ∀ q, q < w.heap.size → (∀ j, (h : j < us.length) → us[j].ownBlock ≠ some q) → w'.heap[q]? = w.heap[q]?)
section
variable {us : List Value} {w w1 w2 : World}
theorem PutKeep.refl (us : List Value) (w : World) : PutKeep us w w := ⟨rfl, rfl, rfl, Nat.le_refl _, fun _ _ _ => rfl⟩
theorem PutKeep.below (h : PutKeep us w w1) (hb : Below w1.heap.size w1 w2) : PutKeep us w w2 :=
 ⟨hb.os.trans h.os, hb.tape.trans h.tape, hb.output.trans h.output, Nat.le_trans h.size hb.size, fun q hq hj => (hb.block q (Nat.lt_of_lt_of_le hq h.size)).trans (h.far q hq hj)⟩
theorem PutKeep.grown (h : PutKeep us w w1) (i : Nat) (hi : i < us.length) (hg : w1.grownBy w2 us[i].ownBlock) : PutKeep us w w2 :=
 ⟨hg.os.trans h.os, hg.tape.trans h.tape, hg.output.trans h.output, Nat.le_trans h.size hg.size, fun q hq hj => (hg.block q (Nat.lt_of_lt_of_le hq h.size) (fun e => hj i hi e.symm)).trans (h.far q hq hj)⟩
theorem PutKeep.cell (h : PutKeep us w w1) {a : Addr} {v : Value} (ha : ∀ j, (h : j < us.length) → us[j].ownBlock ≠ some a.block) (hc : w.cell? a = some v) : w1.cell? a = some v := by
 have hlt : a.block < w.heap.size := World.block_lt_of_cell? w a hc
 rw [← hc]
 unfold World.cell?
 rw [h.far a.block hlt ha]
theorem PutKeep.own (h : PutKeep us w w1) {row : Option Nat} (hg : w1.grownBy w2 row) (hr : ∀ k, row = some k → w.heap.size ≤ k) : PutKeep us w w2 :=
 ⟨hg.os.trans h.os, hg.tape.trans h.tape, hg.output.trans h.output, Nat.le_trans h.size hg.size, fun q hq hj => (hg.block q (Nat.lt_of_lt_of_le hq h.size) (fun e => by have := hr q e.symm; omega)).trans (h.far q hq hj)⟩
theorem PutKeep.under {base : Nat} (h : PutKeep us w w1) (ho : ∀ i, (h : i < us.length) → ∀ k, us[i].ownBlock = some k → base ≤ k) (hb : base ≤ w.heap.size) : Below base w w1 :=
 ⟨h.os, h.tape, h.output, h.size, fun q hq => h.far q (by omega) (fun j hj e => by have := ho j hj q e; omega)⟩
end
/-- Blocks of no other type are turned than e. -/
structure KeepT (e : TypeId) (w w' : World) : Prop where
 mk :: (size : w.heap.size ≤ w'.heap.size) (far : ∀ q, q < w.heap.size → (∀ cs, w.heap[q]? ≠ some (.cells cs e (0, 0))) → w'.heap[q]? = w.heap[q]?)
theorem PutKeep.typed {α : Type} {d : Kd α} {e : TypeId} {us : List Value} {w w1 : World} {base : Nat} {L : Nat → List α} (h : PutKeep us w w1) (hU : ∀ i, (h : i < us.length) → d.R e w base (fun _ => True) us[i] (L i)) : KeepT e w w1 := by
 refine ⟨h.size, fun q hq hne => h.far q hq (fun j hj e1 => ?_)⟩
 obtain ⟨_, o1⟩ := Kd.R_own (hU j hj)
 obtain ⟨c1, g1⟩ := own_typed o1 q e1
 exact hne c1 g1
theorem KeepT.R {α : Type} {d : Kd α} {e e' : TypeId} {w w1 : World} {base : Nat} {v : Value} {xs : List α} (h : KeepT e w w1) (hE : d.E = []) (hne : e' ≠ e) (hR : d.R e' w base (fun _ => True) v xs) : d.R e' w1 base (fun _ => True) v xs := by
 refine Kd.R_mono (Kd.R_step (Kd.R_tight hE hR) (fun k hk hlt => h.far k hlt (fun cs hc => ?_))) (fun _ _ => trivial)
 obtain ⟨_, o1⟩ := Kd.R_own hR
 obtain ⟨c1, g1⟩ := own_typed o1 k hk.symm
 rw [g1] at hc
 injection hc with hc
 injection hc with _ h3
 exact hne h3
theorem KeepT.blk {e t : TypeId} {w w1 : World} {g : Nat} {cs : Array Value} (h : KeepT e w w1) (hne : t ≠ e) (hb : w.heap[g]? = some (.cells cs t (0, 0))) : w1.heap[g]? = some (.cells cs t (0, 0)) := by
 rw [h.far g (blk_lt hb) (fun c hc => ?_), hb]
 rw [hb] at hc
 injection hc with hc
 injection hc with _ h3
 exact hne h3
/-- Nothing is turned but the book and two rows of it. -/
structure AddKeep (bk : Nat) (o0 o1 : Value) (w w' : World) : Prop where
 mk :: (os : w'.os = w.os) (tape : w'.tape = w.tape) (output : w'.output = w.output) (size : w.heap.size ≤ w'.heap.size) (far : ∀ q, q < w.heap.size → q ≠ bk → o0.ownBlock ≠ some q → o1.ownBlock ≠ some q → w'.heap[q]? = w.heap[q]?)
theorem AddKeep.R {α : Type} {d : Kd α} {e lt tb : TypeId} {bk : Nat} {o0 o1 : Value} {w w' : World} {b b' : Nat} {u : Value} {L : List α} {X Y : List (List Value)} {cs : Array Value} (h : AddKeep bk o0 o1 w w') (h0 : Kd.R (Kd.raw 1) lt w b (fun _ => True) o0 X) (h1 : Kd.R (Kd.raw 1) lt w b (fun _ => True) o1 Y) (hb : w.heap[bk]? = some (.cells cs tb (0, 0)))
  (hE : d.E = []) (n1 : e ≠ tb) (n2 : lt ≠ e) (hu : d.R e w b' (fun _ => True) u L) : d.R e w' b' (fun _ => True) u L :=
 Kd.R_mono (Kd.R_step (Kd.R_tight hE hu) (fun k hk hlt => h.far k hlt (fun e1 => block_ne n1 hu hb (by rw [← hk, e1])) (fun e1 => types_ne n2 h0 hu k e1 hk.symm) (fun e1 => types_ne n2 h1 hu k e1 hk.symm))) (fun _ _ => trivial)
theorem AddKeep.under {bk B : Nat} {o0 o1 : Value} {w w' : World} (h : AddKeep bk o0 o1 w w') (hB : B ≤ w.heap.size) (hbk : B ≤ bk) (h0 : ∀ k, o0.ownBlock = some k → B ≤ k) (h1 : ∀ k, o1.ownBlock = some k → B ≤ k) : Below B w w' :=
 ⟨h.os, h.tape, h.output, h.size, fun q hq => h.far q (by omega) (by omega) (fun e => by have := h0 q e; omega) (fun e => by have := h1 q e; omega)⟩
theorem lists_of_raw {W : World} {b : Nat} {lt : TypeId} {A : Option Addr} {n c : Nat} {gs : List Value} (h : Kd.R (Kd.raw 1) lt W b (fun _ => True) (.slice A n c) (gs.map fun v => [v])) : n = gs.length ∧ n ≤ c ∧ Lists W A gs := by
 obtain ⟨h1, h2, h3⟩ := Kd.R_reads' h
 rw [List.length_map] at h1 h3
 refine ⟨h1, h2, ⟨fun i hi => ?_⟩⟩
 obtain ⟨_, _, hc⟩ := h3
 obtain ⟨ad, hA, hcell⟩ := hc (by omega)
 obtain ⟨cs, hl, ⟨rfl, _⟩, hu⟩ := hcell i [gs[i]] (by rw [List.getElem?_map, List.getElem?_eq_getElem hi]; rfl)
 have := hu 0 gs[i] rfl
 exact ⟨ad, hA, by simpa [Kd.raw] using this⟩
theorem flat_at1 {α : Type} {d : Kd α} {f : α → Value} (h : Flat d (fun x => [f x])) (_ : d.sz = 1) (_ : d.sz = 1) (z : α) {w : World} {A : Option Addr} {n : Nat} {xs : List α} (hC : d.C w A n xs) (k : Nat) (hk : k < n) : ∃ ad, A = some ad ∧ w.cell? (ad.add k) = some (f (xs.getD k z)) := by
 have hn := hC.1
 obtain ⟨ad, hA, hc⟩ := flat_cells h hC (by omega)
 refine ⟨ad, hA, hc k _ ?_⟩
 rw [show xs.flatMap (fun x => [f x]) = xs.map f from by clear hC hc hn hk hA h; induction xs with | nil => rfl | cons x xs ih => rw [List.flatMap_cons, ih]; rfl, List.getElem?_map, List.getD_eq_getElem?_getD, List.getElem?_eq_getElem (by omega)]
 rfl
/-- What is known of a kind's lists: the lists, their copies, what is in them. -/
structure Stat {α : Type} (us us' : List Value) (xss : List (List α)) : Prop where
 mk :: (n : us'.length = us.length) (x : xss.length = us.length) (sep : ∀ i j, (hi : i < us.length) → (hj : j < us.length) → i ≠ j → ∀ k, us[i].ownBlock = some k → us[j].ownBlock ≠ some k) (l : us.length ≤ 1000) (s : ∀ i, (xss.getD i []).length ≤ 900000)
/-- A kind's lists ahead of all. -/
structure StA {α : Type} (d : Kd α) (e lt : TypeId) (base : Nat) (o o' : Value) (us us' : List Value) (xss : List (List α)) (w : World) : Prop where
 mk :: (row : Kd.R (Kd.raw 1) lt w base (fun _ => True) o (us.map fun v => [v])) (row' : Kd.R (Kd.raw 1) lt w base (fun _ => True) o' (us'.map fun v => [v])) (own : ∀ i, (h : i < us.length) → d.R e w base (fun _ => True) us[i] (xss.getD i [])) (cop : ∀ i, (h : i < us'.length) → ReadsD d w us'[i] (xss.getD i []))
/-- A kind's lists. -/
structure StB {α : Type} (d : Kd α) (e lt : TypeId) (base : Nat) (o : Value) (us : List Value) (L : Nat → List α) (w : World) : Prop where
 mk :: (row : Kd.R (Kd.raw 1) lt w base (fun _ => True) o (us.map fun v => [v])) (own : ∀ i, (h : i < us.length) → d.R e w base (fun _ => True) us[i] (L i))
section
variable {α : Type} {d : Kd α} {e lt : TypeId} {base : Nat} {o o' : Value} {us us' : List Value} {xss : List (List α)} {L : Nat → List α} {w w1 : World}
theorem StA.below (h : StA d e lt base o o' us us' xss w) (hb : Below w.heap.size w w1) : StA d e lt base o o' us us' xss w1 := ⟨Kd.R_below h.row hb, Kd.R_below h.row' hb, fun i hi => Kd.R_below (h.own i hi) hb, fun i hi => (h.cop i hi).below hb⟩
theorem StA.b (h : StA d e lt base o o' us us' xss w) : StB d e lt base o us (fun i => xss.getD i []) w := ⟨h.row, h.own⟩
theorem StB.below (h : StB d e lt base o us L w) (hb : Below w.heap.size w w1) : StB d e lt base o us L w1 := ⟨Kd.R_below h.row hb, fun i hi => Kd.R_below (h.own i hi) hb⟩
theorem StB.keep {e' : TypeId} (hE : d.E = []) (h1 : e ≠ e') (h2 : lt ≠ e') (h : StB d e lt base o us L w) (hk : KeepT e' w w1) : StB d e lt base o us L w1 := ⟨hk.R rfl h2 h.row, fun i hi => hk.R hE h1 (h.own i hi)⟩
theorem StB.rowNe (hl : lt ≠ e) {A : Option Addr} {n c : Nat} (h : StB d e lt base (.slice A n c) us L w) : ∀ i, (h : i < us.length) → ∀ ad, A = some ad → us[i].ownBlock ≠ some ad.block := by
 intro i hi ad hA e1
 subst hA
 obtain ⟨g, rfl⟩ := Kd.R_head h.row
 exact types_ne hl h.row (h.own i hi) g rfl e1
end
theorem getD_len {α : Type} (xss : List (List α)) (i : Nat) : (xss.map List.length).getD i 0 = (xss.getD i []).length := by
 rw [List.getD_eq_getElem?_getD, List.getD_eq_getElem?_getD, List.getElem?_map]
 cases xss[i]? <;> rfl
theorem cut_room {P : Program} (t e : TypeId) (kh : IntKind) {i : TypeInfo} (ht : P.underlying t = some (.slice e)) (hi : P.info? e = some i) (A : Option Addr) (n c : Nat) (j : Int) (h0 : 0 ≤ j) (hm : j ≤ c) :
  ∀ W : World, (Instr.slice t (.slice A n c) none (some (.int kh j)) none).run P W = .ok (.slice A j.toNat c) W := by
 intro W
 have hel : P.elem t = e := by simp [Program.elem, ht]
 have hu : P.underlying t = some (.slice (P.elem t)) := by rw [hel]; exact ht
 have ha : (A.map fun x => x.add 0) = A := by cases A <;> simp [Addr.add]
 rw [run_slice_h W t A n c hu kh j h0 (by omega), hel]
 simp [sizeOf, typeInfo, hi, sliced, Result.andThen, ha]
theorem lent_reads {α : Type} {d : Kd α} {e : TypeId} {w : World} {base c : Nat} {A : Option Addr} {xs : List α} {y : α} (h : d.R e w base (fun _ => True) (.slice A (xs.length + 1) c) (xs ++ [y])) : d.C w A xs.length xs ∧ xs.length ≤ c := by
 have h1 := Kd.R_take (m := xs.length) h (by rw [List.length_append]; omega)
 rw [List.take_left' rfl] at h1
 exact ⟨(Kd.R_reads' h1).2.2, (Kd.R_reads' h1).2.1⟩
theorem stat_one {α : Type} (u v : Value) (xs : List α) (h : xs.length ≤ 900000) : Stat [u] [v] [xs] := by
 refine ⟨rfl, rfl, fun i j hi hj hne => ?_, by simp, fun i => ?_⟩
 ·simp at hi hj
  omega
 ·rcases i with _ | i
  ·exact h
  ·simp
theorem stat_two {α : Type} (u1 u2 v1 v2 : Value) (xs1 xs2 : List α) (hne : ∀ q, u1.ownBlock = some q → u2.ownBlock ≠ some q) (h1 : xs1.length ≤ 900000) (h2 : xs2.length ≤ 900000) : Stat [u1, u2] [v1, v2] [xs1, xs2] := by
 refine ⟨rfl, rfl, fun i j hi hj hij k e1 e2 => ?_, by simp, fun i => ?_⟩
 ·rcases i with _ | _ | i
  ·rcases j with _ | _ | j
   ·exact hij rfl
   ·exact hne k e1 e2
   ·simp at hj; omega
  ·rcases j with _ | _ | j
   ·exact hne k e2 e1
   ·exact hij rfl
   ·simp at hj; omega
  ·simp at hi; omega
 ·rcases i with _ | _ | i
  ·exact h1
  ·exact h2
  ·simp
theorem sta_one {α : Type} {d : Kd α} {e lt : TypeId} {base : Nat} {o o' u v : Value} {xs : List α} {w : World} (h0 : Kd.R (Kd.raw 1) lt w base (fun _ => True) o ([u].map fun v => [v])) (h1 : Kd.R (Kd.raw 1) lt w base (fun _ => True) o' ([v].map fun v => [v])) (hu : d.R e w base (fun _ => True) u xs) (hv : d.R e w base (fun _ => True) v xs) : StA d e lt base o o' [u] [v] [xs] w := by
 refine ⟨h0, h1, fun i hi => ?_, fun i hi => ?_⟩
 ·rcases i with _ | i
  ·exact hu
  ·simp at hi
 ·rcases i with _ | i
  ·exact readsD_of_R hv
  ·simp at hi
theorem sta_two {α : Type} {d : Kd α} {e lt : TypeId} {base : Nat} {o o' u1 u2 v1 v2 : Value} {xs1 xs2 : List α} {w : World} (h0 : Kd.R (Kd.raw 1) lt w base (fun _ => True) o ([u1, u2].map fun v => [v])) (h1 : Kd.R (Kd.raw 1) lt w base (fun _ => True) o' ([v1, v2].map fun v => [v])) (hu1 : d.R e w base (fun _ => True) u1 xs1) (hv1 : d.R e w base (fun _ => True) v1 xs1) (hu2 : d.R e w base (fun _ => True) u2 xs2) (hv2 : d.R e w base (fun _ => True) v2 xs2) : StA d e lt base o o' [u1, u2] [v1, v2] [xs1, xs2] w := by
 refine ⟨h0, h1, fun i hi => ?_, fun i hi => ?_⟩
 ·rcases i with _ | _ | i
  ·exact hu1
  ·exact hu2
  ·simp at hi; omega
 ·rcases i with _ | _ | i
  ·exact readsD_of_R hv1
  ·exact readsD_of_R hv2
  ·simp at hi; omega
def nilL : Value := .slice none 0 0
end Go.Proofs.YtibhenengpdahaaGreat.P
