/- The statement ModelTells: its walk. Conditions: the row's. (Printed by genmt.py.) -/
import Derived.Test.YtibhenengpdahaaGreatJY
import Derived.Test.YtibhenengpdahaaGreatSameRep
import Derived.Test.YtibhenengpdahaaGreatJU
set_option linter.unusedVariables false
set_option linter.unusedSimpArgs false
namespace Go.Proofs.YtibhenengpdahaaGreat.P
open Go.RowKit Go.Proofs.YtibhenengpdahaaGreatW.PrintWords Go.Proofs.YtibhenengpdahaaGreatW.PrintLast Go.Proofs.YtibhenengpdahaaGreatW.PrintMore

/-- The two replies, and the two cells that they are put into. -/
structure MtSt where
 A1 : Option Addr
 c1 : Nat
 A2 : Option Addr
 c2 : Nat
 A3 : Option Addr
 c3 : Nat
 B1 : Option Addr
 d1 : Nat
 B2 : Option Addr
 d2 : Nat
 B3 : Option Addr
 d3 : Nat
 g6 : Nat
 g7 : Nat
/-- A reply's lists. -/
structure MtP (r : Rep) (b : Nat) (A1 : Option Addr) (c1 : Nat) (A2 : Option Addr) (c2 : Nat) (A3 : Option Addr) (c3 : Nat) (w : World) : Prop where
 mk :: (s : Kd.R k61 61 w b (fun _ => True) (.slice A1 r.spots.length c1) r.spots) (d : Kd.R k27 27 w b (fun _ => True) (.slice A2 r.docs.length c2) r.docs) (i : Kd.R (Kd.int .i64) 3 w b (fun _ => True) (.slice A3 r.lens.length c3) r.lens)
theorem MtP.below {r : Rep} {b c1 c2 c3 : Nat} {A1 A2 A3 : Option Addr} {w w1 : World} (h : MtP r b A1 c1 A2 c2 A3 c3 w) (hb : Below w.heap.size w w1) : MtP r b A1 c1 A2 c2 A3 c3 w1 := ⟨Kd.R_below h.s hb, Kd.R_below h.d hb, Kd.R_below h.i hb⟩
theorem run_fbits (x : Nat) (w : World) : (callFunc 14 #[.float .f64 x]).run Tryz.prog w = .ok (.value (.int .u64 x)) w := by
 rw [run_callFunc_extern (P := Tryz.prog) (f := 14) (fn := Tryz.f14) (e := Extern.MathFloatBits.float64bits) (by kernel_rfl) (by kernel_rfl) (by kernel_rfl) (by kernel_rfl) (by kernel_rfl)]
 rfl
attribute [local go_sem] run_fbits
theorem rep_one {v : Value} (h : v.oneCell' = true) {er n : Int} {tx : ByteArray} (A1 : Option Addr) (n1 c1 : Nat) (A2 : Option Addr) (n2 c2 : Nat) (A3 : Option Addr) (n3 c3 : Nat) : ∀ u ∈ repCells er n tx (.slice A1 n1 c1) (.slice A2 n2 c2) (.slice A3 n3 c3) v, u.oneCell' = true := by
 intro u hu
 unfold repCells at hu
 simp only [List.mem_cons, List.not_mem_nil, or_false] at hu
 rcases hu with rfl | rfl | rfl | rfl | rfl | rfl | rfl | rfl <;> first | exact h | rfl
theorem reply_at (l : List S27) (kind id fr tt snap : Int) (text : ByteArray) : ∃ ea eb, (replyOf l kind id fr tt snap text).at_ = .complex .f64 ea eb ∧ (FloatKind.f64.format.order ea ea == some .eq) = true ∧ (FloatKind.f64.format.order eb eb == some .eq) = true := by
 have hz : ∃ ea eb, zeroC = .complex .f64 ea eb ∧ (FloatKind.f64.format.order ea ea == some .eq) = true ∧ (FloatKind.f64.format.order eb eb == some .eq) = true := ⟨0, 0, rfl, by decide +kernel, by decide +kernel⟩
 unfold replyOf
 by_cases hb : noneB l kind id fr tt snap text
 ·rw [if_pos hb]; exact hz
 rw [if_neg hb]
 obtain ⟨_, D0, _, _⟩ := may_docs hb
 by_cases h3 : kind = 3
 ·rw [if_pos h3]; exact hz
 rw [if_neg h3]
 by_cases h4 : kind = 4
 ·rw [if_pos h4]; exact hz
 rw [if_neg h4]
 by_cases h5 : kind = 5
 ·rw [if_pos h5]; exact hz
 rw [if_neg h5]
 by_cases h6 : kind = 6
 ·rw [if_pos h6]; exact hz
 rw [if_neg h6]
 dsimp only
 by_cases h7 : (partOf l id 0 tt).2 = 0
 ·rw [if_pos h7]; exact end_cx _ (by have := part_size D0 id 0 tt; omega)
 ·rw [if_neg h7]; exact hz
/-- A list that is the call's own, in a block of another type, stays where a reply is put. -/
theorem R_far {α : Type} {d : Kd α} {e : TypeId} {w w1 : World} {b g : Nat} {v : Value} {xs : List α} {cs : Array Value} (hE : d.E = []) (hne : e ≠ 34) (hR : d.R e w b (fun _ => True) v xs) (hb : w.heap[g]? = some (.cells cs 34 (0, 0))) (hf : ∀ k, k ≠ g → w1.heap[k]? = w.heap[k]?) : d.R e w1 b (fun _ => True) v xs :=
 Kd.R_mono (Kd.R_step (Kd.R_tight hE hR) (fun k hk _ => hf k (fun e1 => block_ne hne hR hb (by rw [← e1]; exact hk.symm)))) (fun _ _ => trivial)
theorem MtP.put {r : Rep} {b c1 c2 c3 g : Nat} {A1 A2 A3 : Option Addr} {w w1 : World} {cs : Array Value} (h : MtP r b A1 c1 A2 c2 A3 c3 w) (hb : w.heap[g]? = some (.cells cs 34 (0, 0))) (hf : ∀ k, k ≠ g → w1.heap[k]? = w.heap[k]?) : MtP r b A1 c1 A2 c2 A3 c3 w1 :=
 ⟨R_far flatSpots.E (by decide) h.s hb hf, R_far flatDocs.E (by decide) h.d hb hf, R_far flatInts.E (by decide) h.i hb hf⟩
theorem AddKeep.blk {lt tb t : TypeId} {bk g : Nat} {o0 o1 : Value} {w w' : World} {b : Nat} {X Y : List (List Value)} {cs cs' : Array Value} (h : AddKeep bk o0 o1 w w') (h0 : Kd.R (Kd.raw 1) lt w b (fun _ => True) o0 X) (h1 : Kd.R (Kd.raw 1) lt w b (fun _ => True) o1 Y) (hb : w.heap[bk]? = some (.cells cs tb (0, 0)))
  (n1 : t ≠ tb) (n2 : lt ≠ t) (hg : w.heap[g]? = some (.cells cs' t (0, 0))) : w'.heap[g]? = some (.cells cs' t (0, 0)) := by
 rw [h.far g (blk_lt hg) (fun e => ?_) (fun e => block_ne n2 h0 hg e) (fun e => block_ne n2 h1 hg e), hg]
 rw [e, hb] at hg
 injection hg with hg
 injection hg with _ h3
 exact n1 h3.symm
theorem change_small (l : List S27) (kind id fr tt snap : Int) (text : ByteArray) (nid : Int) (hl : l.length ≤ 14) : (changeOf l kind id fr tt snap text nid).1.length ≤ 900000 := by
 have h : (l.eraseIdx (findOf l id).toNat).length ≤ l.length := (List.eraseIdx_sublist l _).length_le
 unfold changeOf
 repeat' split
 all_goals simp only [List.length_append, List.length_cons, List.length_nil]
 all_goals omega
theorem reply_small (l : List S27) (kind id fr tt snap : Int) (text : ByteArray) : (replyOf l kind id fr tt snap text).spots.length ≤ 900000 ∧ (replyOf l kind id fr tt snap text).docs.length ≤ 900000 ∧ (replyOf l kind id fr tt snap text).lens.length ≤ 900000 := by
 unfold replyOf
 by_cases hb : noneB l kind id fr tt snap text
 ·rw [if_pos hb]; exact ⟨by decide, by decide, by decide⟩
 rw [if_neg hb]
 obtain ⟨_, D0, _, _⟩ := may_docs hb
 have h1 := naive_small D0 text
 have h2 := D0.len
 repeat' split
 all_goals refine ⟨?_, ?_, ?_⟩
 all_goals (try simp only [List.length_map, List.length_nil])
 all_goals omega
def modelTells.T10 : Bool × List (List Nat × List Nat) := (true, [([], []), ([], []), ([0, 1], [0, 1]), ([], []), ([], []), ([3, 4, 2], [3, 4]), ([], []), ([], []), ([6, 2, 5, 0, 1, 2, 6, 7], [2, 6]), ([7, 5, 8, 0, 1, 2, 3, 4, 5, 6, 7, 8], [5, 7])])
def modelTells.B10 : List Nat := [0, 0, 3, 0, 0, 31, 0, 0, 255, 511]
theorem modelTells.tab10 : rtab .any (opsOf Tryz.f3 10) = modelTells.T10 := by kernel_rfl
theorem modelTells.bits10 : waitsOk modelTells.T10.2 modelTells.B10 = true := by kernel_rfl
def modelTells.T21 : Bool × List (List Nat × List Nat) := (true, [([], []), ([], []), ([0, 1], [0, 1]), ([2, 2], [2]), ([3], [3]), ([4, 3], [3, 4]), ([5, 3], [3, 5]), ([6, 3, 3], [3, 6]), ([3], [3]), ([8, 3], [3, 8]), ([9, 3], [3, 9]), ([10, 7, 3], [3, 10]), ([7, 11, 3], [3, 7, 11]), ([3, 12], [3, 12]), ([13, 11], [13]), ([14], [14]), ([15, 14], [14, 15]), ([16, 14], [14, 16]), ([17, 14, 14], [14, 17]), ([14], [14]), ([19, 14], [14, 19]), ([20, 14], [14, 20]), ([21, 18, 14], [14, 21]), ([18, 22, 14], [14, 18, 22]), ([14, 23], [14, 23]), ([24, 22], [24]), ([25], [25]), ([25], [25]), ([26, 27, 25, 25], [25, 26, 27]), ([25, 28], [25, 28]), ([29, 28], [29]), ([30], [30]), ([30], [30]), ([31, 32, 30], [30, 31, 32]), ([30, 33], [30, 33]), ([34, 30], [34]), ([35], [35]), ([36, 35, 35], [35, 36]), ([35], [35]), ([38, 37, 35], [35, 38]), ([37, 39, 35], [35, 37, 39]), ([35, 40], [35, 40]), ([41, 39], [41]), ([42], [42]), ([42], [42]), ([43, 44, 42, 42], [42, 43, 44]), ([42, 45], [42, 45]), ([46, 45], [46]), ([47], [47]), ([48, 47, 47], [47, 48]), ([47, 49], [47, 49]), ([50, 49, 0, 1, 2, 3, 4, 5, 6, 7, 8, 9, 10, 11, 12, 13, 14, 15, 16, 17, 18, 19, 20, 21, 22, 23, 24, 25, 26, 27, 28, 29, 30, 31, 32, 33, 34, 35, 36, 37, 38, 39, 40, 41, 42, 43, 44, 45, 46, 47, 48, 49, 50], [50])])
def modelTells.B21 : List Nat := [0, 0, 3, 7, 15, 31, 63, 127, 15, 271, 783, 2047, 4095, 8191, 16383, 32767, 65535, 131071, 262143, 32767, 557055, 1605631, 4194303, 8388607, 16777215, 33554431, 67108863, 67108863, 268435455, 536870911, 1073741823, 2147483647, 2147483647, 8589934591, 17179869183, 34359738367, 68719476735, 137438953471, 68719476735, 549755813887, 1099511627775, 2199023255551, 4398046511103, 8796093022207, 8796093022207, 35184372088831, 70368744177663, 140737488355327, 281474976710655, 562949953421311, 1125899906842623, 2251799813685247]
theorem modelTells.tab21 : rtab .any (opsOf Tryz.f3 21) = modelTells.T21 := by kernel_rfl
theorem modelTells.bits21 : waitsOk modelTells.T21.2 modelTells.B21 = true := by kernel_rfl
set_option maxRecDepth 100000 in
set_option maxHeartbeats 8000000 in
theorem modelTells_main (A0 : Option Addr) (c0 : Nat) (l0 : List S27) (kind id fr tt snap : Int) (text : ByteArray) (nid : Int) (w : World) (hr0 : Kd.C k27 w A0 l0.length l0) (hc0 : l0.length ≤ c0) (h14 : l0.length ≤ 14) (h60 : text.size ≤ 60) (h100 : ∀ d ∈ l0, d.f1.size ≤ 100) :
  Calls Tryz.prog 3 #[.slice A0 l0.length c0, .agg #[.int .i64 kind, .int .i64 id, .int .i64 fr, .int .i64 tt, .int .i64 snap, .string text], .int .i64 nid] w fun e w' => e = .returned (.bool true) ∧ Below w.heap.size w w' := by
 have hl : l0.length ≤ 1000000 := by omega
 obtain ⟨r, hr⟩ : ∃ r, replyOf l0 kind id fr tt snap text = r := ⟨_, rfl⟩
 obtain ⟨ea, eb, hat, hQ1, hQ2⟩ := reply_at l0 kind id fr tt snap text
 have hsm := reply_small l0 kind id fr tt snap text
 rw [hr] at hat hsm
 have HSP := Aside0.mk hsm.1
 have HDO := Aside0.mk hsm.2.1
 have HLE := Aside0.mk hsm.2.2
 clear hsm
 have HAT : Aside0 (r.at_.oneCell' = true) := ⟨by rw [hat]; rfl⟩
 have HATE := Aside0.mk hat
 have HQ := Aside0.mk (And.intro hQ1 hQ2)
 clear hat hQ1 hQ2
 obtain ⟨ch, hch⟩ : ∃ ch, changeOf l0 kind id fr tt snap text nid = ch := ⟨_, rfl⟩
 have hcs := change_small l0 kind id fr tt snap text nid h14
 rw [hch] at hcs
 have HCH := Aside0.mk hcs
 clear hcs
 have AL := Aside0.mk aliveM_calls
 have LN := Aside0.mk (fun w' (h : Kd.C k27 w' A0 l0.length l0) => lentDocs_calls A0 c0 l0 w' h hc0 (by omega))
 have HR := Aside0.mk hr0
 have HC := Aside0.mk hc0
 have HL := Aside0.mk h14
 have H100 := Aside0.mk h100
 have d1 : decide ((14 : Int) < (l0.length : Int)) = false := decide_eq_false (by omega)
 have d2 : decide ((60 : Int) < (text.size : Int)) = false := decide_eq_false (by omega)
 obtain ⟨W1, hW1⟩ : ∃ W1, w.alloc (.cells #[.int .i64 kind, .int .i64 id, .int .i64 fr, .int .i64 tt, .int .i64 snap, .string text] 24) = W1 := ⟨_, rfl⟩
 have HB1 : Aside0 (Below w.heap.size w W1) := ⟨by rw [← hW1]; exact below_alloc (Below.refl _ _) _⟩
 have g0 : Aside0 (W1.cell? ⟨w.heap.size, 0, none⟩ = some (.int .i64 kind)) := ⟨by rw [← hW1]; exact cell_newA w _ _ 0 _ rfl⟩
 have g1 : Aside0 (W1.cell? ⟨w.heap.size, 1, none⟩ = some (.int .i64 id)) := ⟨by rw [← hW1]; exact cell_newA w _ _ 1 _ rfl⟩
 have g2 : Aside0 (W1.cell? ⟨w.heap.size, 2, none⟩ = some (.int .i64 fr)) := ⟨by rw [← hW1]; exact cell_newA w _ _ 2 _ rfl⟩
 have g3 : Aside0 (W1.cell? ⟨w.heap.size, 3, none⟩ = some (.int .i64 tt)) := ⟨by rw [← hW1]; exact cell_newA w _ _ 3 _ rfl⟩
 have g4 : Aside0 (W1.cell? ⟨w.heap.size, 4, none⟩ = some (.int .i64 snap)) := ⟨by rw [← hW1]; exact cell_newA w _ _ 4 _ rfl⟩
 have g5 : Aside0 (W1.cell? ⟨w.heap.size, 5, none⟩ = some (.string text)) := ⟨by rw [← hW1]; exact cell_newA w _ _ 5 _ rfl⟩
 have k5 := g5.out
 have W1E := Aside0.mk hW1
 clear hW1 hr0 hc0 h14 h60 h100
 go_enter Tryz.func3, Tryz.ntmps3
 go_wp2_with fail
 try rw [W1E.out]
 refine (AL.out _).mono ?_
 rintro en w2 ⟨rfl, hb⟩
 have HB12 := Aside0.mk hb
 have HB2 := Aside0.mk (below_step HB1.out hb)
 clear hb k5 d1 d2
 go_wp2_with fail
 go_loopw [34] (fun iv wr => ∃ k : Nat, k ≤ l0.length ∧ iv = .int .i64 k ∧ Aside0 (Below w2.heap.size w2 wr)) (fun iv _ => l0.length - (intOf iv).toNat)
 case atStart => exact ⟨0, Nat.zero_le _, rfl, ⟨Below.refl _ _⟩⟩
 case round =>
 obtain ⟨wq, hwq⟩ : ∃ x, x = wr := ⟨_, rfl⟩
 subst hwq
 obtain ⟨k, hk, rfl, HBr⟩ := hrel
 have HBw := Aside0.mk (below_step HB2.out HBr.out)
 by_cases hlt : k < l0.length
 ·obtain ⟨ad, hA, x0, x1⟩ := at_T27 (Kd.C_below HR.out HBw.out) (k : Int) (by omega) (by omega)
  rw [rd_doc_get l0 k hlt, Int.toNat_natCast] at x0 x1
  have hsz := H100.out l0[k] (List.getElem_mem hlt)
  obtain ⟨did, hid⟩ : ∃ x, l0[k].f0 = x := ⟨_, rfl⟩
  obtain ⟨tx, htx⟩ : ∃ x, l0[k].f1 = x := ⟨_, rfl⟩
  rw [hid] at x0
  rw [htx] at x1 hsz
  subst hA
  have c1 : decide ((k : Int) < (l0.length : Int)) = true := decide_eq_true (by omega)
  have c2 : decide (k < l0.length) = true := decide_eq_true hlt
  have q1 : (0 ≤ (k : Int)) = True := eq_true (by omega)
  have q2 : ((k : Int) < (l0.length : Int)) = True := eq_true (by omega)
  have q3 : IntKind.i64.wrap ((k : Int) + 1) = (k : Int) + 1 := IntWalk.i64_in _ (by have := HL.out; omega)
  have q4 : decide ((100 : Int) < (tx.size : Int)) = false := decide_eq_false (by omega)
  have HBn := Aside0.mk (below_step HBr.out (below_alloc (Below.refl wq.heap.size wq) (.cells #[.int .i64 did, .string tx] 27)))
  clear hid htx hsz
  go_wp2_with fail
  go_roundw
  case rel => exact ⟨k + 1, by omega, by go_num, HBn⟩
  case measure => simp [intOf]; omega
 obtain rfl : k = l0.length := by omega
 have c1 : decide ((l0.length : Int) < (l0.length : Int)) = false := decide_eq_false (by omega)
 have c2 : decide (l0.length < l0.length) = false := decide_eq_false (by omega)
 go_wp2_with fail
 clear c1 c2 hlt hk
 refine (LN.out _ (Kd.C_below HR.out HBw.out)).mono ?_
 rintro en w0 ⟨gm, cm, rfl, hR, hb⟩
 have HM := Aside0.mk (Kd.R_lower hR HBw.out.size)
 have HB0 := Aside0.mk (below_step HBw.out hb)
 have HB10 := Aside0.mk (below_step (below_step HB12.out HBr.out) hb)
 clear hR hb
 have ka0 := pw_cell_below HB10.out g0.out
 have ka1 := pw_cell_below HB10.out g1.out
 have ka2 := pw_cell_below HB10.out g2.out
 have ka3 := pw_cell_below HB10.out g3.out
 have ka4 := pw_cell_below HB10.out g4.out
 have ka5 := pw_cell_below HB10.out g5.out
 have HMC := Aside0.mk (lent_reads HM.out)
 have AN := Aside0.mk (fun w' (h : Kd.C k27 w' (some ⟨gm, 0, none⟩) l0.length l0) => answer_owns (some ⟨gm, 0, none⟩) cm l0 kind id fr tt snap text w' h HMC.out.2 (by have := HL.out; omega))
 rw [hr] at AN
 have RA := Aside0.mk (fun w' (h : Kd.C k27 w' A0 l0.length l0) => refAns_told A0 c0 l0 kind id fr tt snap text w' h HC.out (by have := HL.out; omega))
 rw [hr] at RA
 have CH := Aside0.mk (fun w' (h : Kd.C k27 w' (some ⟨gm, 0, none⟩) l0.length l0) (h2 : l0.length ≤ cm) => change_owns (some ⟨gm, 0, none⟩) cm l0 kind id fr tt snap text nid w' h h2 (by have := HL.out; omega))
 have RC := Aside0.mk (fun w' (h : Kd.C k27 w' A0 l0.length l0) => refChange_calls A0 c0 l0 kind id fr tt snap text nid w' h HC.out (by have := HL.out; omega))
 rw [hch] at CH RC
 go_wp2_with fail
 refine start_ (n := 10) (S := fun w' => Below w0.heap.size w0 w') (ds := []) (bs 10 0) (by kernel_rfl) rfl rfl (below_drew1 (Below.refl _ _)) (fun hHeld => ?_)
 refine with_tabW modelTells.tab10 modelTells.bits10 (fun HT_ HW_ => ?_)
 refine take_ (i := 0) (N := some 45) (v := ?_) (a' := ?_) (bs 10 1) rfl rfl (take_ofW HT_.out HW_.out (by kernel_rfl)) (fun _ _ _ h => h) (Or.inl ⟨by rfl, ?_⟩) hHeld ?_ ?_
 rotate_left
 ·intro w' s
  go_simp
  with_reducible rfl
 rotate_left
 ·simp only [putAll, Act.put, List.setIfInBounds_toArray, List.set_cons_zero, List.set_cons_succ, i64_w, i32_w]
  rfl
 refine take_ (i := 1) (N := some 46) (v := ?_) (a' := ?_) (bs 10 3) rfl rfl (take_ofW HT_.out HW_.out (by kernel_rfl)) (fun _ _ _ h => h) (Or.inl ⟨by rfl, ?_⟩) hHeld ?_ ?_
 rotate_left
 ·intro w' s
  have s0 := pw_cell_below s ka0
  have s1 := pw_cell_below s ka1
  have s2 := pw_cell_below s ka2
  have s3 := pw_cell_below s ka3
  have s4 := pw_cell_below s ka4
  have s5 := pw_cell_below s ka5
  go_simp
  with_reducible rfl
 rotate_left
 ·simp only [putAll, Act.put, List.setIfInBounds_toArray, List.set_cons_zero, List.set_cons_succ, i64_w, i32_w]
  rfl
 refine take_ (i := 3) (N := some 48) (v := ?_) (a' := ?_) (bs 10 11) rfl rfl (take_ofW HT_.out HW_.out (by kernel_rfl)) (fun _ _ _ h => h) (Or.inl ⟨by rfl, ?_⟩) hHeld ?_ ?_
 rotate_left
 ·intro w' s
  go_simp
  with_reducible rfl
 rotate_left
 ·simp only [putAll, Act.put, List.setIfInBounds_toArray, List.set_cons_zero, List.set_cons_succ, i64_w, i32_w]
  rfl
 refine take_ (i := 4) (N := some 49) (v := ?_) (a' := ?_) (bs 10 27) rfl rfl (take_ofW HT_.out HW_.out (by kernel_rfl)) (fun _ _ _ h => h) (Or.inl ⟨by rfl, ?_⟩) hHeld ?_ ?_
 rotate_left
 ·intro w' s
  have s0 := pw_cell_below s ka0
  have s1 := pw_cell_below s ka1
  have s2 := pw_cell_below s ka2
  have s3 := pw_cell_below s ka3
  have s4 := pw_cell_below s ka4
  have s5 := pw_cell_below s ka5
  go_simp
  with_reducible rfl
 rotate_left
 ·simp only [putAll, Act.put, List.setIfInBounds_toArray, List.set_cons_zero, List.set_cons_succ, i64_w, i32_w]
  rfl
 refine join_ (σ := MtSt) 2 (bs 10 255) (fun s => [(47, r.val s.A1 s.c1 s.A2 s.c2 s.A3 s.c3), (50, r.val s.B1 s.d1 s.B2 s.d2 s.B3 s.d3), (10, .pointer (some ⟨s.g6, 0, none⟩)), (11, .pointer (some ⟨s.g7, 0, none⟩))]) (fun s w' => Below w0.heap.size w0 w' ∧ MtP r w0.heap.size s.A1 s.c1 s.A2 s.c2 s.A3 s.c3 w' ∧ (MtP r w0.heap.size s.B1 s.d1 s.B2 s.d2 s.B3 s.d3 w' ∧ ∀ q, (Value.slice s.A1 r.spots.length s.c1).ownBlock = some q → (Value.slice s.B1 r.spots.length s.d1).ownBlock ≠ some q) ∧ (w'.heap[s.g6]? = some (.cells #[.int .i64 0, .int .i64 0, .int .i64 0, .string ⟨#[]⟩, .slice none 0 0, .slice none 0 0, .slice none 0 0, .complex .f64 0 0] 34 (0, 0)) ∧ w0.heap.size ≤ s.g6) ∧ (w'.heap[s.g7]? = some (.cells #[.int .i64 0, .int .i64 0, .int .i64 0, .string ⟨#[]⟩, .slice none 0 0, .slice none 0 0, .slice none 0 0, .complex .f64 0 0] 34 (0, 0)) ∧ w0.heap.size ≤ s.g7) ∧ s.g6 ≠ s.g7) ?fin10 ?_
 rotate_left
 intro hj2_5_6_7
 refine join_ (σ := MtSt) 3 (bs 10 127) (fun s => [(47, r.val s.A1 s.c1 s.A2 s.c2 s.A3 s.c3), (50, r.val s.B1 s.d1 s.B2 s.d2 s.B3 s.d3), (10, .pointer (some ⟨s.g6, 0, none⟩))]) (fun s w' => Below w0.heap.size w0 w' ∧ MtP r w0.heap.size s.A1 s.c1 s.A2 s.c2 s.A3 s.c3 w' ∧ (MtP r w0.heap.size s.B1 s.d1 s.B2 s.d2 s.B3 s.d3 w' ∧ ∀ q, (Value.slice s.A1 r.spots.length s.c1).ownBlock = some q → (Value.slice s.B1 r.spots.length s.d1).ownBlock ≠ some q) ∧ (w'.heap[s.g6]? = some (.cells #[.int .i64 0, .int .i64 0, .int .i64 0, .string ⟨#[]⟩, .slice none 0 0, .slice none 0 0, .slice none 0 0, .complex .f64 0 0] 34 (0, 0)) ∧ w0.heap.size ≤ s.g6)) ?_ ?_
 ·rintro ⟨A1, c1, A2, c2, A3, c3, B1, d1, B2, d2, B3, d3, g6, g7⟩ w1 ⟨hB, hP, ⟨hQ, hN⟩, ⟨hZ6, hg6⟩⟩
  dsimp only at hP hQ hN hZ6 hg6
  refine norm_ (a' := ?_) ?_ ?_
  rotate_left
  ·simp only [putAll, Act.put, List.setIfInBounds_toArray, List.set_cons_zero, List.set_cons_succ, i64_w, i32_w]
   rfl
  refine one_ (i := 7) (N := some 11) (bs 10 255) rfl rfl (one_of HT_.out (by kernel_rfl)) (by decide) (fun K hK => ?_)
  refine value_ (v := .pointer (some ⟨w1.heap.size, 0, none⟩)) (w1 := w1.alloc (.cells #[.int .i64 0, .int .i64 0, .int .i64 0, .string ⟨#[]⟩, .slice none 0 0, .slice none 0 0, .slice none 0 0, .complex .f64 0 0] 34)) (by rfl) rfl (by first | (go_simp; done) | (go_simp; rfl)) (hK.out _ _ (below_alloc hB _) (fun _ => ?_))
  exact hj2_5_6_7 (⟨A1, c1, A2, c2, A3, c3, B1, d1, B2, d2, B3, d3, g6, w1.heap.size⟩ : MtSt) _ ⟨below_alloc hB _, hP.below (below_alloc (Below.refl w1.heap.size w1) _), ⟨hQ.below (below_alloc (Below.refl w1.heap.size w1) _), hN⟩, ⟨blk_below hZ6 (below_alloc (Below.refl w1.heap.size w1) _), hg6⟩, ⟨heap_alloc_new w1 _, hB.size⟩, Nat.ne_of_lt (blk_lt hZ6)⟩
 intro hj2_5_6
 refine join_ (σ := MtSt) 3 (bs 10 191) (fun s => [(47, r.val s.A1 s.c1 s.A2 s.c2 s.A3 s.c3), (50, r.val s.B1 s.d1 s.B2 s.d2 s.B3 s.d3), (11, .pointer (some ⟨s.g7, 0, none⟩))]) (fun s w' => Below w0.heap.size w0 w' ∧ MtP r w0.heap.size s.A1 s.c1 s.A2 s.c2 s.A3 s.c3 w' ∧ (MtP r w0.heap.size s.B1 s.d1 s.B2 s.d2 s.B3 s.d3 w' ∧ ∀ q, (Value.slice s.A1 r.spots.length s.c1).ownBlock = some q → (Value.slice s.B1 r.spots.length s.d1).ownBlock ≠ some q) ∧ (w'.heap[s.g7]? = some (.cells #[.int .i64 0, .int .i64 0, .int .i64 0, .string ⟨#[]⟩, .slice none 0 0, .slice none 0 0, .slice none 0 0, .complex .f64 0 0] 34 (0, 0)) ∧ w0.heap.size ≤ s.g7)) ?_ ?_
 ·rintro ⟨A1, c1, A2, c2, A3, c3, B1, d1, B2, d2, B3, d3, g6, g7⟩ w1 ⟨hB, hP, ⟨hQ, hN⟩, ⟨hZ7, hg7⟩⟩
  dsimp only at hP hQ hN hZ7 hg7
  refine norm_ (a' := ?_) ?_ ?_
  rotate_left
  ·simp only [putAll, Act.put, List.setIfInBounds_toArray, List.set_cons_zero, List.set_cons_succ, i64_w, i32_w]
   rfl
  refine one_ (i := 6) (N := some 10) (bs 10 255) rfl rfl (one_of HT_.out (by kernel_rfl)) (by decide) (fun K hK => ?_)
  refine value_ (v := .pointer (some ⟨w1.heap.size, 0, none⟩)) (w1 := w1.alloc (.cells #[.int .i64 0, .int .i64 0, .int .i64 0, .string ⟨#[]⟩, .slice none 0 0, .slice none 0 0, .slice none 0 0, .complex .f64 0 0] 34)) (by rfl) rfl (by first | (go_simp; done) | (go_simp; rfl)) (hK.out _ _ (below_alloc hB _) (fun _ => ?_))
  exact hj2_5_6_7 (⟨A1, c1, A2, c2, A3, c3, B1, d1, B2, d2, B3, d3, w1.heap.size, g7⟩ : MtSt) _ ⟨below_alloc hB _, hP.below (below_alloc (Below.refl w1.heap.size w1) _), ⟨hQ.below (below_alloc (Below.refl w1.heap.size w1) _), hN⟩, ⟨heap_alloc_new w1 _, hB.size⟩, ⟨blk_below hZ7 (below_alloc (Below.refl w1.heap.size w1) _), hg7⟩, Nat.ne_of_gt (blk_lt hZ7)⟩
 intro hj2_5_7
 refine join_ (σ := MtSt) 3 (bs 10 223) (fun s => [(47, r.val s.A1 s.c1 s.A2 s.c2 s.A3 s.c3), (10, .pointer (some ⟨s.g6, 0, none⟩)), (11, .pointer (some ⟨s.g7, 0, none⟩))]) (fun s w' => Below w0.heap.size w0 w' ∧ MtP r w0.heap.size s.A1 s.c1 s.A2 s.c2 s.A3 s.c3 w' ∧ (w'.heap[s.g6]? = some (.cells #[.int .i64 0, .int .i64 0, .int .i64 0, .string ⟨#[]⟩, .slice none 0 0, .slice none 0 0, .slice none 0 0, .complex .f64 0 0] 34 (0, 0)) ∧ w0.heap.size ≤ s.g6) ∧ (w'.heap[s.g7]? = some (.cells #[.int .i64 0, .int .i64 0, .int .i64 0, .string ⟨#[]⟩, .slice none 0 0, .slice none 0 0, .slice none 0 0, .complex .f64 0 0] 34 (0, 0)) ∧ w0.heap.size ≤ s.g7) ∧ s.g6 ≠ s.g7) ?_ ?_
 ·rintro ⟨A1, c1, A2, c2, A3, c3, B1, d1, B2, d2, B3, d3, g6, g7⟩ w1 ⟨hB, hP, ⟨hZ6, hg6⟩, ⟨hZ7, hg7⟩, hne⟩
  dsimp only at hP hZ6 hg6 hZ7 hg7 hne
  refine norm_ (a' := ?_) ?_ ?_
  rotate_left
  ·simp only [putAll, Act.put, List.setIfInBounds_toArray, List.set_cons_zero, List.set_cons_succ, i64_w, i32_w]
   rfl
  refine one_ (i := 5) (N := some 50) (bs 10 255) rfl rfl (one_of HT_.out (by kernel_rfl)) (by decide) (fun K hK => ?_)
  refine goes_ Tryz.func6 (by kernel_rfl) rfl #[.slice (some ⟨gm, 0, none⟩) l0.length cm, .agg #[.int .i64 kind, .int .i64 id, .int .i64 fr, .int .i64 tt, .int .i64 snap, .string text]] (by rfl) rfl rfl (by (try simp only [List.map_toArray, List.map_cons, List.map_nil]); first | done | rfl | (simp only [List.length_drop, List.length_take]; rfl)) ?_
  refine (AN.out _ (Kd.C_below HMC.out.1 hB)).mono ?_
  rintro en w2' ⟨⟨E1, f1, E2, f2, E3, f3, rfl, hs, hd, hi⟩, hb'⟩
  refine ⟨_, rfl, ?_⟩
  refine hK.out _ _ (below_step hB hb') (fun _ => ?_)
  exact hj2_5_6_7 (⟨A1, c1, A2, c2, A3, c3, E1, f1, E2, f2, E3, f3, g6, g7⟩ : MtSt) _ ⟨below_step hB hb', hP.below hb', ⟨⟨Kd.R_lower hs hB.size, Kd.R_lower hd hB.size, Kd.R_lower hi hB.size⟩, fun q e1 e2 => by have h1 := Kd.R_lt hP.s q e1; have h2 := Kd.R_base hs q e2; omega⟩, ⟨blk_below hZ6 hb', hg6⟩, ⟨blk_below hZ7 hb', hg7⟩, hne⟩
 intro hj2_6_7
 refine join_ (σ := MtSt) 4 (bs 10 63) (fun s => [(47, r.val s.A1 s.c1 s.A2 s.c2 s.A3 s.c3), (50, r.val s.B1 s.d1 s.B2 s.d2 s.B3 s.d3)]) (fun s w' => Below w0.heap.size w0 w' ∧ MtP r w0.heap.size s.A1 s.c1 s.A2 s.c2 s.A3 s.c3 w' ∧ (MtP r w0.heap.size s.B1 s.d1 s.B2 s.d2 s.B3 s.d3 w' ∧ ∀ q, (Value.slice s.A1 r.spots.length s.c1).ownBlock = some q → (Value.slice s.B1 r.spots.length s.d1).ownBlock ≠ some q)) ?_ ?_
 ·rintro ⟨A1, c1, A2, c2, A3, c3, B1, d1, B2, d2, B3, d3, g6, g7⟩ w1 ⟨hB, hP, ⟨hQ, hN⟩⟩
  dsimp only at hP hQ hN
  refine norm_ (a' := ?_) ?_ ?_
  rotate_left
  ·simp only [putAll, Act.put, List.setIfInBounds_toArray, List.set_cons_zero, List.set_cons_succ, i64_w, i32_w]
   rfl
  refine two_ (i := 6) (j := 7) (bs 10 127) (bs 10 191) rfl rfl rfl rfl (two_of HT_.out (by kernel_rfl)) (by decide) (by decide) (fun K hK => ?_) (fun K hK => ?_)
  ·refine value_ (v := .pointer (some ⟨w1.heap.size, 0, none⟩)) (w1 := w1.alloc (.cells #[.int .i64 0, .int .i64 0, .int .i64 0, .string ⟨#[]⟩, .slice none 0 0, .slice none 0 0, .slice none 0 0, .complex .f64 0 0] 34)) (by rfl) rfl (by first | (go_simp; done) | (go_simp; rfl)) (hK.out _ _ (below_alloc hB _) (fun _ => ?_))
   exact hj2_5_6 (⟨A1, c1, A2, c2, A3, c3, B1, d1, B2, d2, B3, d3, w1.heap.size, g7⟩ : MtSt) _ ⟨below_alloc hB _, hP.below (below_alloc (Below.refl w1.heap.size w1) _), ⟨hQ.below (below_alloc (Below.refl w1.heap.size w1) _), hN⟩, ⟨heap_alloc_new w1 _, hB.size⟩⟩
  ·refine value_ (v := .pointer (some ⟨w1.heap.size, 0, none⟩)) (w1 := w1.alloc (.cells #[.int .i64 0, .int .i64 0, .int .i64 0, .string ⟨#[]⟩, .slice none 0 0, .slice none 0 0, .slice none 0 0, .complex .f64 0 0] 34)) (by rfl) rfl (by first | (go_simp; done) | (go_simp; rfl)) (hK.out _ _ (below_alloc hB _) (fun _ => ?_))
   exact hj2_5_7 (⟨A1, c1, A2, c2, A3, c3, B1, d1, B2, d2, B3, d3, g6, w1.heap.size⟩ : MtSt) _ ⟨below_alloc hB _, hP.below (below_alloc (Below.refl w1.heap.size w1) _), ⟨hQ.below (below_alloc (Below.refl w1.heap.size w1) _), hN⟩, ⟨heap_alloc_new w1 _, hB.size⟩⟩
 intro hj2_5
 refine join_ (σ := MtSt) 4 (bs 10 95) (fun s => [(47, r.val s.A1 s.c1 s.A2 s.c2 s.A3 s.c3), (10, .pointer (some ⟨s.g6, 0, none⟩))]) (fun s w' => Below w0.heap.size w0 w' ∧ MtP r w0.heap.size s.A1 s.c1 s.A2 s.c2 s.A3 s.c3 w' ∧ (w'.heap[s.g6]? = some (.cells #[.int .i64 0, .int .i64 0, .int .i64 0, .string ⟨#[]⟩, .slice none 0 0, .slice none 0 0, .slice none 0 0, .complex .f64 0 0] 34 (0, 0)) ∧ w0.heap.size ≤ s.g6)) ?_ ?_
 ·rintro ⟨A1, c1, A2, c2, A3, c3, B1, d1, B2, d2, B3, d3, g6, g7⟩ w1 ⟨hB, hP, ⟨hZ6, hg6⟩⟩
  dsimp only at hP hZ6 hg6
  refine norm_ (a' := ?_) ?_ ?_
  rotate_left
  ·simp only [putAll, Act.put, List.setIfInBounds_toArray, List.set_cons_zero, List.set_cons_succ, i64_w, i32_w]
   rfl
  refine two_ (i := 5) (j := 7) (bs 10 127) (bs 10 223) rfl rfl rfl rfl (two_of HT_.out (by kernel_rfl)) (by decide) (by decide) (fun K hK => ?_) (fun K hK => ?_)
  ·refine goes_ Tryz.func6 (by kernel_rfl) rfl #[.slice (some ⟨gm, 0, none⟩) l0.length cm, .agg #[.int .i64 kind, .int .i64 id, .int .i64 fr, .int .i64 tt, .int .i64 snap, .string text]] (by rfl) rfl rfl (by (try simp only [List.map_toArray, List.map_cons, List.map_nil]); first | done | rfl | (simp only [List.length_drop, List.length_take]; rfl)) ?_
   refine (AN.out _ (Kd.C_below HMC.out.1 hB)).mono ?_
   rintro en w2' ⟨⟨E1, f1, E2, f2, E3, f3, rfl, hs, hd, hi⟩, hb'⟩
   refine ⟨_, rfl, ?_⟩
   refine hK.out _ _ (below_step hB hb') (fun _ => ?_)
   exact hj2_5_6 (⟨A1, c1, A2, c2, A3, c3, E1, f1, E2, f2, E3, f3, g6, g7⟩ : MtSt) _ ⟨below_step hB hb', hP.below hb', ⟨⟨Kd.R_lower hs hB.size, Kd.R_lower hd hB.size, Kd.R_lower hi hB.size⟩, fun q e1 e2 => by have h1 := Kd.R_lt hP.s q e1; have h2 := Kd.R_base hs q e2; omega⟩, ⟨blk_below hZ6 hb', hg6⟩⟩
  ·refine value_ (v := .pointer (some ⟨w1.heap.size, 0, none⟩)) (w1 := w1.alloc (.cells #[.int .i64 0, .int .i64 0, .int .i64 0, .string ⟨#[]⟩, .slice none 0 0, .slice none 0 0, .slice none 0 0, .complex .f64 0 0] 34)) (by rfl) rfl (by first | (go_simp; done) | (go_simp; rfl)) (hK.out _ _ (below_alloc hB _) (fun _ => ?_))
   exact hj2_6_7 (⟨A1, c1, A2, c2, A3, c3, B1, d1, B2, d2, B3, d3, g6, w1.heap.size⟩ : MtSt) _ ⟨below_alloc hB _, hP.below (below_alloc (Below.refl w1.heap.size w1) _), ⟨blk_below hZ6 (below_alloc (Below.refl w1.heap.size w1) _), hg6⟩, ⟨heap_alloc_new w1 _, hB.size⟩, Nat.ne_of_lt (blk_lt hZ6)⟩
 intro hj2_6
 refine join_ (σ := MtSt) 4 (bs 10 159) (fun s => [(47, r.val s.A1 s.c1 s.A2 s.c2 s.A3 s.c3), (11, .pointer (some ⟨s.g7, 0, none⟩))]) (fun s w' => Below w0.heap.size w0 w' ∧ MtP r w0.heap.size s.A1 s.c1 s.A2 s.c2 s.A3 s.c3 w' ∧ (w'.heap[s.g7]? = some (.cells #[.int .i64 0, .int .i64 0, .int .i64 0, .string ⟨#[]⟩, .slice none 0 0, .slice none 0 0, .slice none 0 0, .complex .f64 0 0] 34 (0, 0)) ∧ w0.heap.size ≤ s.g7)) ?_ ?_
 ·rintro ⟨A1, c1, A2, c2, A3, c3, B1, d1, B2, d2, B3, d3, g6, g7⟩ w1 ⟨hB, hP, ⟨hZ7, hg7⟩⟩
  dsimp only at hP hZ7 hg7
  refine norm_ (a' := ?_) ?_ ?_
  rotate_left
  ·simp only [putAll, Act.put, List.setIfInBounds_toArray, List.set_cons_zero, List.set_cons_succ, i64_w, i32_w]
   rfl
  refine two_ (i := 5) (j := 6) (bs 10 191) (bs 10 223) rfl rfl rfl rfl (two_of HT_.out (by kernel_rfl)) (by decide) (by decide) (fun K hK => ?_) (fun K hK => ?_)
  ·refine goes_ Tryz.func6 (by kernel_rfl) rfl #[.slice (some ⟨gm, 0, none⟩) l0.length cm, .agg #[.int .i64 kind, .int .i64 id, .int .i64 fr, .int .i64 tt, .int .i64 snap, .string text]] (by rfl) rfl rfl (by (try simp only [List.map_toArray, List.map_cons, List.map_nil]); first | done | rfl | (simp only [List.length_drop, List.length_take]; rfl)) ?_
   refine (AN.out _ (Kd.C_below HMC.out.1 hB)).mono ?_
   rintro en w2' ⟨⟨E1, f1, E2, f2, E3, f3, rfl, hs, hd, hi⟩, hb'⟩
   refine ⟨_, rfl, ?_⟩
   refine hK.out _ _ (below_step hB hb') (fun _ => ?_)
   exact hj2_5_7 (⟨A1, c1, A2, c2, A3, c3, E1, f1, E2, f2, E3, f3, g6, g7⟩ : MtSt) _ ⟨below_step hB hb', hP.below hb', ⟨⟨Kd.R_lower hs hB.size, Kd.R_lower hd hB.size, Kd.R_lower hi hB.size⟩, fun q e1 e2 => by have h1 := Kd.R_lt hP.s q e1; have h2 := Kd.R_base hs q e2; omega⟩, ⟨blk_below hZ7 hb', hg7⟩⟩
  ·refine value_ (v := .pointer (some ⟨w1.heap.size, 0, none⟩)) (w1 := w1.alloc (.cells #[.int .i64 0, .int .i64 0, .int .i64 0, .string ⟨#[]⟩, .slice none 0 0, .slice none 0 0, .slice none 0 0, .complex .f64 0 0] 34)) (by rfl) rfl (by first | (go_simp; done) | (go_simp; rfl)) (hK.out _ _ (below_alloc hB _) (fun _ => ?_))
   exact hj2_6_7 (⟨A1, c1, A2, c2, A3, c3, B1, d1, B2, d2, B3, d3, w1.heap.size, g7⟩ : MtSt) _ ⟨below_alloc hB _, hP.below (below_alloc (Below.refl w1.heap.size w1) _), ⟨heap_alloc_new w1 _, hB.size⟩, ⟨blk_below hZ7 (below_alloc (Below.refl w1.heap.size w1) _), hg7⟩, Nat.ne_of_gt (blk_lt hZ7)⟩
 intro hj2_7
 refine join_ (σ := MtSt) 4 (bs 10 219) (fun s => [(10, .pointer (some ⟨s.g6, 0, none⟩)), (11, .pointer (some ⟨s.g7, 0, none⟩))]) (fun s w' => Below w0.heap.size w0 w' ∧ (w'.heap[s.g6]? = some (.cells #[.int .i64 0, .int .i64 0, .int .i64 0, .string ⟨#[]⟩, .slice none 0 0, .slice none 0 0, .slice none 0 0, .complex .f64 0 0] 34 (0, 0)) ∧ w0.heap.size ≤ s.g6) ∧ (w'.heap[s.g7]? = some (.cells #[.int .i64 0, .int .i64 0, .int .i64 0, .string ⟨#[]⟩, .slice none 0 0, .slice none 0 0, .slice none 0 0, .complex .f64 0 0] 34 (0, 0)) ∧ w0.heap.size ≤ s.g7) ∧ s.g6 ≠ s.g7) ?_ ?_
 ·rintro ⟨A1, c1, A2, c2, A3, c3, B1, d1, B2, d2, B3, d3, g6, g7⟩ w1 ⟨hB, ⟨hZ6, hg6⟩, ⟨hZ7, hg7⟩, hne⟩
  dsimp only at hZ6 hg6 hZ7 hg7 hne
  refine norm_ (a' := ?_) ?_ ?_
  rotate_left
  ·simp only [putAll, Act.put, List.setIfInBounds_toArray, List.set_cons_zero, List.set_cons_succ, i64_w, i32_w]
   rfl
  refine one_ (i := 2) (N := some 47) (bs 10 223) rfl rfl (one_of HT_.out (by kernel_rfl)) (by decide) (fun K hK => ?_)
  refine goes_ Tryz.func6 (by kernel_rfl) rfl #[.slice (some ⟨gm, 0, none⟩) l0.length cm, .agg #[.int .i64 kind, .int .i64 id, .int .i64 fr, .int .i64 tt, .int .i64 snap, .string text]] (by rfl) rfl rfl (by (try simp only [List.map_toArray, List.map_cons, List.map_nil]); first | done | rfl | (simp only [List.length_drop, List.length_take]; rfl)) ?_
  refine (AN.out _ (Kd.C_below HMC.out.1 hB)).mono ?_
  rintro en w2' ⟨⟨E1, f1, E2, f2, E3, f3, rfl, hs, hd, hi⟩, hb'⟩
  refine ⟨_, rfl, ?_⟩
  refine hK.out _ _ (below_step hB hb') (fun _ => ?_)
  exact hj2_6_7 (⟨E1, f1, E2, f2, E3, f3, B1, d1, B2, d2, B3, d3, g6, g7⟩ : MtSt) _ ⟨below_step hB hb', ⟨Kd.R_lower hs hB.size, Kd.R_lower hd hB.size, Kd.R_lower hi hB.size⟩, ⟨blk_below hZ6 hb', hg6⟩, ⟨blk_below hZ7 hb', hg7⟩, hne⟩
 intro hj6_7
 refine join_ (σ := MtSt) 5 (bs 10 31) (fun s => [(47, r.val s.A1 s.c1 s.A2 s.c2 s.A3 s.c3)]) (fun s w' => Below w0.heap.size w0 w' ∧ MtP r w0.heap.size s.A1 s.c1 s.A2 s.c2 s.A3 s.c3 w') ?_ ?_
 ·rintro ⟨A1, c1, A2, c2, A3, c3, B1, d1, B2, d2, B3, d3, g6, g7⟩ w1 ⟨hB, hP⟩
  dsimp only at hP
  refine norm_ (a' := ?_) ?_ ?_
  rotate_left
  ·simp only [putAll, Act.put, List.setIfInBounds_toArray, List.set_cons_zero, List.set_cons_succ, i64_w, i32_w]
   rfl
  refine three_ (i := 5) (j := 6) (k := 7) (bs 10 63) (bs 10 95) (bs 10 159) rfl rfl rfl rfl rfl rfl (three_of HT_.out (by kernel_rfl)) (by decide) (by decide) (by decide) (fun K hK => ?_) (fun K hK => ?_) (fun K hK => ?_)
  ·refine goes_ Tryz.func6 (by kernel_rfl) rfl #[.slice (some ⟨gm, 0, none⟩) l0.length cm, .agg #[.int .i64 kind, .int .i64 id, .int .i64 fr, .int .i64 tt, .int .i64 snap, .string text]] (by rfl) rfl rfl (by (try simp only [List.map_toArray, List.map_cons, List.map_nil]); first | done | rfl | (simp only [List.length_drop, List.length_take]; rfl)) ?_
   refine (AN.out _ (Kd.C_below HMC.out.1 hB)).mono ?_
   rintro en w2' ⟨⟨E1, f1, E2, f2, E3, f3, rfl, hs, hd, hi⟩, hb'⟩
   refine ⟨_, rfl, ?_⟩
   refine hK.out _ _ (below_step hB hb') (fun _ => ?_)
   exact hj2_5 (⟨A1, c1, A2, c2, A3, c3, E1, f1, E2, f2, E3, f3, g6, g7⟩ : MtSt) _ ⟨below_step hB hb', hP.below hb', ⟨⟨Kd.R_lower hs hB.size, Kd.R_lower hd hB.size, Kd.R_lower hi hB.size⟩, fun q e1 e2 => by have h1 := Kd.R_lt hP.s q e1; have h2 := Kd.R_base hs q e2; omega⟩⟩
  ·refine value_ (v := .pointer (some ⟨w1.heap.size, 0, none⟩)) (w1 := w1.alloc (.cells #[.int .i64 0, .int .i64 0, .int .i64 0, .string ⟨#[]⟩, .slice none 0 0, .slice none 0 0, .slice none 0 0, .complex .f64 0 0] 34)) (by rfl) rfl (by first | (go_simp; done) | (go_simp; rfl)) (hK.out _ _ (below_alloc hB _) (fun _ => ?_))
   exact hj2_6 (⟨A1, c1, A2, c2, A3, c3, B1, d1, B2, d2, B3, d3, w1.heap.size, g7⟩ : MtSt) _ ⟨below_alloc hB _, hP.below (below_alloc (Below.refl w1.heap.size w1) _), ⟨heap_alloc_new w1 _, hB.size⟩⟩
  ·refine value_ (v := .pointer (some ⟨w1.heap.size, 0, none⟩)) (w1 := w1.alloc (.cells #[.int .i64 0, .int .i64 0, .int .i64 0, .string ⟨#[]⟩, .slice none 0 0, .slice none 0 0, .slice none 0 0, .complex .f64 0 0] 34)) (by rfl) rfl (by first | (go_simp; done) | (go_simp; rfl)) (hK.out _ _ (below_alloc hB _) (fun _ => ?_))
   exact hj2_7 (⟨A1, c1, A2, c2, A3, c3, B1, d1, B2, d2, B3, d3, g6, w1.heap.size⟩ : MtSt) _ ⟨below_alloc hB _, hP.below (below_alloc (Below.refl w1.heap.size w1) _), ⟨heap_alloc_new w1 _, hB.size⟩⟩
 intro hj2
 refine join_ (σ := MtSt) 5 (bs 10 91) (fun s => [(10, .pointer (some ⟨s.g6, 0, none⟩))]) (fun s w' => Below w0.heap.size w0 w' ∧ (w'.heap[s.g6]? = some (.cells #[.int .i64 0, .int .i64 0, .int .i64 0, .string ⟨#[]⟩, .slice none 0 0, .slice none 0 0, .slice none 0 0, .complex .f64 0 0] 34 (0, 0)) ∧ w0.heap.size ≤ s.g6)) ?_ ?_
 ·rintro ⟨A1, c1, A2, c2, A3, c3, B1, d1, B2, d2, B3, d3, g6, g7⟩ w1 ⟨hB, ⟨hZ6, hg6⟩⟩
  dsimp only at hZ6 hg6
  refine norm_ (a' := ?_) ?_ ?_
  rotate_left
  ·simp only [putAll, Act.put, List.setIfInBounds_toArray, List.set_cons_zero, List.set_cons_succ, i64_w, i32_w]
   rfl
  refine two_ (i := 2) (j := 7) (bs 10 95) (bs 10 219) rfl rfl rfl rfl (two_of HT_.out (by kernel_rfl)) (by decide) (by decide) (fun K hK => ?_) (fun K hK => ?_)
  ·refine goes_ Tryz.func6 (by kernel_rfl) rfl #[.slice (some ⟨gm, 0, none⟩) l0.length cm, .agg #[.int .i64 kind, .int .i64 id, .int .i64 fr, .int .i64 tt, .int .i64 snap, .string text]] (by rfl) rfl rfl (by (try simp only [List.map_toArray, List.map_cons, List.map_nil]); first | done | rfl | (simp only [List.length_drop, List.length_take]; rfl)) ?_
   refine (AN.out _ (Kd.C_below HMC.out.1 hB)).mono ?_
   rintro en w2' ⟨⟨E1, f1, E2, f2, E3, f3, rfl, hs, hd, hi⟩, hb'⟩
   refine ⟨_, rfl, ?_⟩
   refine hK.out _ _ (below_step hB hb') (fun _ => ?_)
   exact hj2_6 (⟨E1, f1, E2, f2, E3, f3, B1, d1, B2, d2, B3, d3, g6, g7⟩ : MtSt) _ ⟨below_step hB hb', ⟨Kd.R_lower hs hB.size, Kd.R_lower hd hB.size, Kd.R_lower hi hB.size⟩, ⟨blk_below hZ6 hb', hg6⟩⟩
  ·refine value_ (v := .pointer (some ⟨w1.heap.size, 0, none⟩)) (w1 := w1.alloc (.cells #[.int .i64 0, .int .i64 0, .int .i64 0, .string ⟨#[]⟩, .slice none 0 0, .slice none 0 0, .slice none 0 0, .complex .f64 0 0] 34)) (by rfl) rfl (by first | (go_simp; done) | (go_simp; rfl)) (hK.out _ _ (below_alloc hB _) (fun _ => ?_))
   exact hj6_7 (⟨A1, c1, A2, c2, A3, c3, B1, d1, B2, d2, B3, d3, g6, w1.heap.size⟩ : MtSt) _ ⟨below_alloc hB _, ⟨blk_below hZ6 (below_alloc (Below.refl w1.heap.size w1) _), hg6⟩, ⟨heap_alloc_new w1 _, hB.size⟩, Nat.ne_of_lt (blk_lt hZ6)⟩
 intro hj6
 refine join_ (σ := MtSt) 5 (bs 10 155) (fun s => [(11, .pointer (some ⟨s.g7, 0, none⟩))]) (fun s w' => Below w0.heap.size w0 w' ∧ (w'.heap[s.g7]? = some (.cells #[.int .i64 0, .int .i64 0, .int .i64 0, .string ⟨#[]⟩, .slice none 0 0, .slice none 0 0, .slice none 0 0, .complex .f64 0 0] 34 (0, 0)) ∧ w0.heap.size ≤ s.g7)) ?_ ?_
 ·rintro ⟨A1, c1, A2, c2, A3, c3, B1, d1, B2, d2, B3, d3, g6, g7⟩ w1 ⟨hB, ⟨hZ7, hg7⟩⟩
  dsimp only at hZ7 hg7
  refine norm_ (a' := ?_) ?_ ?_
  rotate_left
  ·simp only [putAll, Act.put, List.setIfInBounds_toArray, List.set_cons_zero, List.set_cons_succ, i64_w, i32_w]
   rfl
  refine two_ (i := 2) (j := 6) (bs 10 159) (bs 10 219) rfl rfl rfl rfl (two_of HT_.out (by kernel_rfl)) (by decide) (by decide) (fun K hK => ?_) (fun K hK => ?_)
  ·refine goes_ Tryz.func6 (by kernel_rfl) rfl #[.slice (some ⟨gm, 0, none⟩) l0.length cm, .agg #[.int .i64 kind, .int .i64 id, .int .i64 fr, .int .i64 tt, .int .i64 snap, .string text]] (by rfl) rfl rfl (by (try simp only [List.map_toArray, List.map_cons, List.map_nil]); first | done | rfl | (simp only [List.length_drop, List.length_take]; rfl)) ?_
   refine (AN.out _ (Kd.C_below HMC.out.1 hB)).mono ?_
   rintro en w2' ⟨⟨E1, f1, E2, f2, E3, f3, rfl, hs, hd, hi⟩, hb'⟩
   refine ⟨_, rfl, ?_⟩
   refine hK.out _ _ (below_step hB hb') (fun _ => ?_)
   exact hj2_7 (⟨E1, f1, E2, f2, E3, f3, B1, d1, B2, d2, B3, d3, g6, g7⟩ : MtSt) _ ⟨below_step hB hb', ⟨Kd.R_lower hs hB.size, Kd.R_lower hd hB.size, Kd.R_lower hi hB.size⟩, ⟨blk_below hZ7 hb', hg7⟩⟩
  ·refine value_ (v := .pointer (some ⟨w1.heap.size, 0, none⟩)) (w1 := w1.alloc (.cells #[.int .i64 0, .int .i64 0, .int .i64 0, .string ⟨#[]⟩, .slice none 0 0, .slice none 0 0, .slice none 0 0, .complex .f64 0 0] 34)) (by rfl) rfl (by first | (go_simp; done) | (go_simp; rfl)) (hK.out _ _ (below_alloc hB _) (fun _ => ?_))
   exact hj6_7 (⟨A1, c1, A2, c2, A3, c3, B1, d1, B2, d2, B3, d3, w1.heap.size, g7⟩ : MtSt) _ ⟨below_alloc hB _, ⟨heap_alloc_new w1 _, hB.size⟩, ⟨blk_below hZ7 (below_alloc (Below.refl w1.heap.size w1) _), hg7⟩, Nat.ne_of_gt (blk_lt hZ7)⟩
 intro hj7
 have hB := hHeld
 obtain ⟨w1, hw1⟩ : ∃ x, w0.drew = x := ⟨_, rfl⟩
 rw [hw1] at hB ⊢
 clear hHeld hw1
 refine three_ (i := 2) (j := 6) (k := 7) (bs 10 31) (bs 10 91) (bs 10 155) rfl rfl rfl rfl rfl rfl (three_of HT_.out (by kernel_rfl)) (by decide) (by decide) (by decide) (fun K hK => ?_) (fun K hK => ?_) (fun K hK => ?_)
 ·refine goes_ Tryz.func6 (by kernel_rfl) rfl #[.slice (some ⟨gm, 0, none⟩) l0.length cm, .agg #[.int .i64 kind, .int .i64 id, .int .i64 fr, .int .i64 tt, .int .i64 snap, .string text]] (by rfl) rfl rfl (by (try simp only [List.map_toArray, List.map_cons, List.map_nil]); first | done | rfl | (simp only [List.length_drop, List.length_take]; rfl)) ?_
  refine (AN.out _ (Kd.C_below HMC.out.1 hB)).mono ?_
  rintro en w2' ⟨⟨E1, f1, E2, f2, E3, f3, rfl, hs, hd, hi⟩, hb'⟩
  refine ⟨_, rfl, ?_⟩
  refine hK.out _ _ (below_step hB hb') (fun _ => ?_)
  exact hj2 (⟨E1, f1, E2, f2, E3, f3, none, 0, none, 0, none, 0, 0, 0⟩ : MtSt) _ ⟨below_step hB hb', ⟨Kd.R_lower hs hB.size, Kd.R_lower hd hB.size, Kd.R_lower hi hB.size⟩⟩
 ·refine value_ (v := .pointer (some ⟨w1.heap.size, 0, none⟩)) (w1 := w1.alloc (.cells #[.int .i64 0, .int .i64 0, .int .i64 0, .string ⟨#[]⟩, .slice none 0 0, .slice none 0 0, .slice none 0 0, .complex .f64 0 0] 34)) (by rfl) rfl (by first | (go_simp; done) | (go_simp; rfl)) (hK.out _ _ (below_alloc hB _) (fun _ => ?_))
  exact hj6 (⟨none, 0, none, 0, none, 0, none, 0, none, 0, none, 0, w1.heap.size, 0⟩ : MtSt) _ ⟨below_alloc hB _, ⟨heap_alloc_new w1 _, hB.size⟩⟩
 ·refine value_ (v := .pointer (some ⟨w1.heap.size, 0, none⟩)) (w1 := w1.alloc (.cells #[.int .i64 0, .int .i64 0, .int .i64 0, .string ⟨#[]⟩, .slice none 0 0, .slice none 0 0, .slice none 0 0, .complex .f64 0 0] 34)) (by rfl) rfl (by first | (go_simp; done) | (go_simp; rfl)) (hK.out _ _ (below_alloc hB _) (fun _ => ?_))
  exact hj7 (⟨none, 0, none, 0, none, 0, none, 0, none, 0, none, 0, 0, w1.heap.size⟩ : MtSt) _ ⟨below_alloc hB _, ⟨heap_alloc_new w1 _, hB.size⟩⟩
 case fin10 =>
 rintro ⟨Ap, cp, Ae, ce, Ai, ci, Aq, cq, B2, d2, B3, d3, g6, g7⟩ w1 ⟨hB, hP, ⟨hQ, hN⟩, ⟨hZ6, hg6⟩, ⟨hZ7, hg7⟩, hne⟩
 dsimp only at hP hQ hN hZ6 hg6 hZ7 hg7 hne
 refine norm_ (a' := ?_) ?_ ?_
 rotate_left
 ·simp only [putAll, Act.put, List.setIfInBounds_toArray, List.set_cons_zero, List.set_cons_succ, i64_w, i32_w]
  rfl
 obtain ⟨wy, hry, hy, hby, hfy⟩ := rep_put_far (repCells r.er r.n r.tx (.slice Ap r.spots.length cp) (.slice Ae r.docs.length ce) (.slice Ai r.lens.length ci) r.at_) hZ6 rfl rfl (rep_one HAT.out _ _ _ _ _ _ _ _ _)
 obtain ⟨x0, hrz, hz, hbz, hfz⟩ := rep_put_far (repCells r.er r.n r.tx (.slice Aq r.spots.length cq) (.slice B2 r.docs.length d2) (.slice B3 r.lens.length d3) r.at_) ((hfy g7 (Ne.symm hne)).trans hZ7) rfl rfl (rep_one HAT.out _ _ _ _ _ _ _ _ _)
 refine one_ (i := 8) (N := none) (bs 10 511) rfl rfl (one_of HT_.out (by kernel_rfl)) (by decide) (fun K hK => ?_)
 refine skip_ (w1 := wy) (by rfl) rfl (store_runs rfl rfl rfl hry) (hK.out _ _ (hB.trans (hby.mono hg6)) (fun _ => ?_))
 clear hK K
 refine one_ (i := 9) (N := none) (bs 10 1023) rfl rfl (one_of HT_.out (by kernel_rfl)) (by decide) (fun K hK => ?_)
 refine skip_ (w1 := x0) (by rfl) rfl (store_runs rfl rfl rfl hrz) (hK.out _ _ ((hB.trans (hby.mono hg6)).trans (hbz.mono hg7)) (fun _ => ?_))
 clear hK K
 refine done_ (done_of HT_.out (by kernel_rfl)) ?_
 have HS := (hB.trans (hby.mono hg6)).trans (hbz.mono hg7)
 try clear HT_ HW_
 have HH := Aside0.mk (below_step HB0.out HS)
 have HBA := Aside0.mk (below_step HB10.out HS)
 have HMz := Aside0.mk (Kd.R_below HM.out HS)
 clear HM
 have HM := HMz
 clear HMz
 have hPz := (hP.put hZ6 hfy).put ((hfy g7 (Ne.symm hne)).trans hZ7) hfz
 have hQz := (hQ.put hZ6 hfy).put ((hfy g7 (Ne.symm hne)).trans hZ7) hfz
 have HG6 := Aside0.mk ((hfz g6 hne).trans hy)
 have HG7 := Aside0.mk hz
 have Hp := Aside0.mk (Kd.R_lower hPz.s HB0.out.size)
 have He := Aside0.mk (Kd.R_lower hPz.d HB0.out.size)
 have Hi := Aside0.mk (Kd.R_lower hPz.i HB0.out.size)
 have Hq := Aside0.mk (Kd.R_lower hQz.s HB0.out.size)
 have Npq := Aside0.mk hN
 clear hPz hQz hP hQ hN hZ6 hZ7 hy hz hfy hfz hby hbz hry hrz hB HS hg6 hg7 hne
 clear ka0 ka1 ka2 ka3 ka4 ka5
 have ka0 := pw_cell_below HBA.out g0.out
 have ka1 := pw_cell_below HBA.out g1.out
 have ka2 := pw_cell_below HBA.out g2.out
 have ka3 := pw_cell_below HBA.out g3.out
 have ka4 := pw_cell_below HBA.out g4.out
 have ka5 := pw_cell_below HBA.out g5.out
 go_wp2_with fail
 refine (RA.out _ (Kd.C_below HR.out HH.out)).mono ?_
 rintro en x1 ⟨⟨Au, cu, Av, cv, Ax, cx, rfl, hs, hd, hi⟩, hb⟩
 have Hu := Aside0.mk (Kd.R_lower hs HH.out.size)
 have Hv := Aside0.mk (Kd.R_lower hd HH.out.size)
 have Hx := Aside0.mk (Kd.R_lower hi HH.out.size)
 clear hs hd hi ka0 ka1 ka2 ka3 ka4 ka5
 replace HG6 := Aside0.mk (blk_below HG6.out hb)
 replace HG7 := Aside0.mk (blk_below HG7.out hb)
 replace HBA := Aside0.mk (below_step HBA.out hb)
 replace HM := Aside0.mk (Kd.R_below HM.out hb)
 replace Hp := Aside0.mk (Kd.R_below Hp.out hb)
 replace He := Aside0.mk (Kd.R_below He.out hb)
 replace Hi := Aside0.mk (Kd.R_below Hi.out hb)
 replace Hq := Aside0.mk (Kd.R_below Hq.out hb)
 replace HH := Aside0.mk (below_step HH.out hb)
 clear hb
 obtain ⟨x2, hry, hy, hby, hfy⟩ := rep_put_far (repCells r.er r.n r.tx (.slice Au r.spots.length cu) (.slice Av r.docs.length cv) (.slice Ax r.lens.length cx) r.at_) (W := x1.alloc (.cells #[.int .i64 0, .int .i64 0, .int .i64 0, .string ⟨#[]⟩, .slice none 0 0, .slice none 0 0, .slice none 0 0, .complex .f64 0 0] 34)) (b := x1.heap.size) (heap_alloc_new _ _) rfl rfl (rep_one HAT.out _ _ _ _ _ _ _ _ _)
 have RS := Aside0.mk hry
 have hb := (below_alloc (Below.refl x1.heap.size x1) (.cells #[.int .i64 0, .int .i64 0, .int .i64 0, .string ⟨#[]⟩, .slice none 0 0, .slice none 0 0, .slice none 0 0, .complex .f64 0 0] 34)).trans hby
 have HG8 := Aside0.mk hy
 clear hry hy hby hfy
 replace HG6 := Aside0.mk (blk_below HG6.out hb)
 replace HG7 := Aside0.mk (blk_below HG7.out hb)
 replace HBA := Aside0.mk (below_step HBA.out hb)
 replace HM := Aside0.mk (Kd.R_below HM.out hb)
 replace Hp := Aside0.mk (Kd.R_below Hp.out hb)
 replace He := Aside0.mk (Kd.R_below He.out hb)
 replace Hi := Aside0.mk (Kd.R_below Hi.out hb)
 replace Hq := Aside0.mk (Kd.R_below Hq.out hb)
 replace Hu := Aside0.mk (Kd.R_below Hu.out hb)
 replace Hv := Aside0.mk (Kd.R_below Hv.out hb)
 replace Hx := Aside0.mk (Kd.R_below Hx.out hb)
 replace HH := Aside0.mk (below_step HH.out hb)
 clear hb
 have ka0 := pw_cell_below HBA.out g0.out
 have ka1 := pw_cell_below HBA.out g1.out
 have ka2 := pw_cell_below HBA.out g2.out
 have ka3 := pw_cell_below HBA.out g3.out
 have ka4 := pw_cell_below HBA.out g4.out
 have ka5 := pw_cell_below HBA.out g5.out
 go_wp2_with (first
  | ((with_reducible refine gate_store (t := 34) (p := 12) (v := .tmp 53) rfl ?_); refine store_event (t := 34) (p := 12) (v := .tmp 53) (w1 := x2) rfl rfl rfl ?hr ?_; (case hr => exact store_runs rfl rfl rfl RS.out); intro w9 hw; subst hw))
 obtain ⟨x2, hwp⟩ : ∃ wp, wp = w9 := ⟨_, rfl⟩
 subst hwp
 clear RS
 obtain ⟨g8, hg8⟩ : ∃ g, x1.heap.size = g := ⟨_, rfl⟩
 rw [hg8] at HG8 ⊢
 clear hg8
 go_wp2_with fail
 refine (CH.out _ (lent_reads HM.out).1 (lent_reads HM.out).2).mono ?_
 rintro en x3 ⟨Ad, cd, rfl, hcl, hcC, hb, hown, hnot⟩
 by_cases he : ch.2 = 0
 ·have Ned : Aside0 (∀ q, (Value.slice Ae r.docs.length ce).ownBlock = some q → (Value.slice Ad ch.1.length cd).ownBlock ≠ some q) := ⟨fun q e1 e2 => by have h1 := Kd.R_lt He.out q e1; have h2 := Kd.R_base (hown he) q e2; omega⟩
  have Hd := Aside0.mk (Kd.R_lower (hown he) HH.out.size)
  clear hcl hcC hown hnot ka0 ka1 ka2 ka3 ka4 ka5
  replace HG6 := Aside0.mk (blk_below HG6.out hb)
  replace HG7 := Aside0.mk (blk_below HG7.out hb)
  replace HG8 := Aside0.mk (blk_below HG8.out hb)
  replace HBA := Aside0.mk (below_step HBA.out hb)
  replace HM := Aside0.mk (Kd.R_below HM.out hb)
  replace Hp := Aside0.mk (Kd.R_below Hp.out hb)
  replace He := Aside0.mk (Kd.R_below He.out hb)
  replace Hi := Aside0.mk (Kd.R_below Hi.out hb)
  replace Hq := Aside0.mk (Kd.R_below Hq.out hb)
  replace Hu := Aside0.mk (Kd.R_below Hu.out hb)
  replace Hv := Aside0.mk (Kd.R_below Hv.out hb)
  replace Hx := Aside0.mk (Kd.R_below Hx.out hb)
  replace HH := Aside0.mk (below_step HH.out hb)
  clear hb
  have ka0 := pw_cell_below HBA.out g0.out
  have ka1 := pw_cell_below HBA.out g1.out
  have ka2 := pw_cell_below HBA.out g2.out
  have ka3 := pw_cell_below HBA.out g3.out
  have ka4 := pw_cell_below HBA.out g4.out
  have ka5 := pw_cell_below HBA.out g5.out
  go_wp2_with fail
  refine (RC.out _ (Kd.C_below HR.out HH.out)).mono ?_
  rintro en x4 ⟨Ay, cy, rfl, hcl, hcC, hb, hown, hnot⟩
  have Hy := Aside0.mk (Kd.R_lower (hown he) HH.out.size)
  clear hcl hcC hown hnot ka0 ka1 ka2 ka3 ka4 ka5
  replace HG6 := Aside0.mk (blk_below HG6.out hb)
  replace HG7 := Aside0.mk (blk_below HG7.out hb)
  replace HG8 := Aside0.mk (blk_below HG8.out hb)
  replace HBA := Aside0.mk (below_step HBA.out hb)
  replace HM := Aside0.mk (Kd.R_below HM.out hb)
  replace Hp := Aside0.mk (Kd.R_below Hp.out hb)
  replace He := Aside0.mk (Kd.R_below He.out hb)
  replace Hi := Aside0.mk (Kd.R_below Hi.out hb)
  replace Hq := Aside0.mk (Kd.R_below Hq.out hb)
  replace Hu := Aside0.mk (Kd.R_below Hu.out hb)
  replace Hv := Aside0.mk (Kd.R_below Hv.out hb)
  replace Hx := Aside0.mk (Kd.R_below Hx.out hb)
  replace Hd := Aside0.mk (Kd.R_below Hd.out hb)
  replace HH := Aside0.mk (below_step HH.out hb)
  clear hb
  clear HBA g0 g1 g2 g3 g4 g5 AN RA CH RC
  have zb : (x4.alloc (.cells #[.slice none 0 0, .slice none 0 0, .slice none 0 0, .slice none 0 0, .slice none 0 0, .slice none 0 0, .slice none 0 0, .slice none 0 0, .slice none 0 0, .slice none 0 0, .slice none 0 0, .slice none 0 0, .slice none 0 0, .slice none 0 0, .slice none 0 0, .slice none 0 0] 48)).cell? ⟨g6, 4, none⟩ = some (.slice Ap r.spots.length cp) := pw_cell_below (below_alloc (Below.refl _ _) _) ((blk_cell HG6.out 4).trans rfl)
  go_wp2_with fail
  obtain ⟨x5, hbe⟩ : ∃ x, x4.alloc (.cells #[.slice none 0 0, .slice none 0 0, .slice none 0 0, .slice none 0 0, .slice none 0 0, .slice none 0 0, .slice none 0 0, .slice none 0 0, .slice none 0 0, .slice none 0 0, .slice none 0 0, .slice none 0 0, .slice none 0 0, .slice none 0 0, .slice none 0 0, .slice none 0 0] 48) = x := ⟨_, rfl⟩
  have hblk : x5.heap[x4.heap.size]? = some (.cells [nilL, nilL, nilL, nilL, nilL, nilL, nilL, nilL, nilL, nilL, nilL, nilL, nilL, nilL, nilL, nilL].toArray 48 (0, 0)) := by rw [← hbe]; exact heap_alloc_new _ _
  have hb : Below x4.heap.size x4 x5 := by rw [← hbe]; exact below_alloc (Below.refl _ _) _
  rw [hbe]
  obtain ⟨bk, hbk⟩ : ∃ b, x4.heap.size = b := ⟨_, rfl⟩
  have HBK := Aside0.mk (show w.heap.size ≤ bk by rw [← hbk]; exact HH.out.size)
  rw [hbk] at hblk ⊢
  have HBLK := Aside0.mk hblk
  clear hblk hbe hbk
  replace HG6 := Aside0.mk (blk_below HG6.out hb)
  replace HG7 := Aside0.mk (blk_below HG7.out hb)
  replace HG8 := Aside0.mk (blk_below HG8.out hb)
  replace HM := Aside0.mk (Kd.R_below HM.out hb)
  replace Hp := Aside0.mk (Kd.R_below Hp.out hb)
  replace He := Aside0.mk (Kd.R_below He.out hb)
  replace Hi := Aside0.mk (Kd.R_below Hi.out hb)
  replace Hq := Aside0.mk (Kd.R_below Hq.out hb)
  replace Hu := Aside0.mk (Kd.R_below Hu.out hb)
  replace Hv := Aside0.mk (Kd.R_below Hv.out hb)
  replace Hx := Aside0.mk (Kd.R_below Hx.out hb)
  replace Hd := Aside0.mk (Kd.R_below Hd.out hb)
  replace Hy := Aside0.mk (Kd.R_below Hy.out hb)
  replace HH := Aside0.mk (below_step HH.out hb)
  clear hb
  clear zb
  have zc : x5.cell? ⟨g6, 4, none⟩ = some (.slice Ap r.spots.length cp) := (blk_cell HG6.out 4).trans rfl
  have OSpots := Aside0.mk (Kd.R_nil (Kd.raw 1) 30 x5 w.heap.size (fun _ => True))
  have PSpots := OSpots
  have QSpots : Aside0 (∀ q, nilL.ownBlock = some q → nilL.ownBlock ≠ some q) := ⟨fun q e => by cases e⟩
  go_wp2_with fail
  refine (addSpots_calls bk w.heap.size nilL nilL nilL nilL nilL nilL nilL nilL [nilL, nilL, nilL, nilL, nilL, nilL, nilL, nilL] [] [] Ap cp r.spots _ HBLK.out OSpots.out PSpots.out QSpots.out Hp.out (by simp) (by simp) HH.out.size HBK.out HSP.out).mono ?_
  rintro en x6 ⟨pp, qp, up, rfl, hblk, hp0, hp1, hsp, hu1, hk⟩
  replace HM := Aside0.mk (hk.R OSpots.out PSpots.out HBLK.out rfl (by decide) (by decide) HM.out)
  replace Hp := Aside0.mk (hk.R OSpots.out PSpots.out HBLK.out rfl (by decide) (by decide) Hp.out)
  replace He := Aside0.mk (hk.R OSpots.out PSpots.out HBLK.out rfl (by decide) (by decide) He.out)
  replace Hi := Aside0.mk (hk.R OSpots.out PSpots.out HBLK.out rfl (by decide) (by decide) Hi.out)
  replace Hq := Aside0.mk (hk.R OSpots.out PSpots.out HBLK.out rfl (by decide) (by decide) Hq.out)
  replace Hu := Aside0.mk (hk.R OSpots.out PSpots.out HBLK.out rfl (by decide) (by decide) Hu.out)
  replace Hv := Aside0.mk (hk.R OSpots.out PSpots.out HBLK.out rfl (by decide) (by decide) Hv.out)
  replace Hx := Aside0.mk (hk.R OSpots.out PSpots.out HBLK.out rfl (by decide) (by decide) Hx.out)
  replace Hd := Aside0.mk (hk.R OSpots.out PSpots.out HBLK.out rfl (by decide) (by decide) Hd.out)
  replace Hy := Aside0.mk (hk.R OSpots.out PSpots.out HBLK.out rfl (by decide) (by decide) Hy.out)
  replace HG6 := Aside0.mk (hk.blk OSpots.out PSpots.out HBLK.out (by decide) (by decide) HG6.out)
  replace HG7 := Aside0.mk (hk.blk OSpots.out PSpots.out HBLK.out (by decide) (by decide) HG7.out)
  replace HG8 := Aside0.mk (hk.blk OSpots.out PSpots.out HBLK.out (by decide) (by decide) HG8.out)
  have Cp := Aside0.mk (Kd.R_lower hu1 HH.out.size)
  replace HH := Aside0.mk (HH.out.trans (hk.under HH.out.size HBK.out (fun q e => Kd.R_base OSpots.out q e) (fun q e => Kd.R_base PSpots.out q e)))
  replace OSpots := Aside0.mk hp0
  replace PSpots := Aside0.mk hp1
  replace QSpots := Aside0.mk hsp
  replace HBLK := Aside0.mk hblk
  clear hblk hp0 hp1 hsp hu1 hk
  clear zc
  have zc : x6.cell? ⟨g7, 4, none⟩ = some (.slice Aq r.spots.length cq) := (blk_cell HG7.out 4).trans rfl
  go_wp2_with fail
  refine (addSpots_calls bk w.heap.size nilL nilL nilL nilL nilL nilL pp qp [nilL, nilL, nilL, nilL, nilL, nilL, nilL, nilL] [.slice Ap r.spots.length cp] [up] Aq cq r.spots _ HBLK.out OSpots.out PSpots.out QSpots.out Hq.out (by simp) (by simp) HH.out.size HBK.out HSP.out).mono ?_
  rintro en x7 ⟨pq, qq, uq, rfl, hblk, hp0, hp1, hsp, hu1, hk⟩
  replace HM := Aside0.mk (hk.R OSpots.out PSpots.out HBLK.out rfl (by decide) (by decide) HM.out)
  replace Hp := Aside0.mk (hk.R OSpots.out PSpots.out HBLK.out rfl (by decide) (by decide) Hp.out)
  replace He := Aside0.mk (hk.R OSpots.out PSpots.out HBLK.out rfl (by decide) (by decide) He.out)
  replace Hi := Aside0.mk (hk.R OSpots.out PSpots.out HBLK.out rfl (by decide) (by decide) Hi.out)
  replace Hq := Aside0.mk (hk.R OSpots.out PSpots.out HBLK.out rfl (by decide) (by decide) Hq.out)
  replace Hu := Aside0.mk (hk.R OSpots.out PSpots.out HBLK.out rfl (by decide) (by decide) Hu.out)
  replace Hv := Aside0.mk (hk.R OSpots.out PSpots.out HBLK.out rfl (by decide) (by decide) Hv.out)
  replace Hx := Aside0.mk (hk.R OSpots.out PSpots.out HBLK.out rfl (by decide) (by decide) Hx.out)
  replace Hd := Aside0.mk (hk.R OSpots.out PSpots.out HBLK.out rfl (by decide) (by decide) Hd.out)
  replace Hy := Aside0.mk (hk.R OSpots.out PSpots.out HBLK.out rfl (by decide) (by decide) Hy.out)
  replace Cp := Aside0.mk (hk.R OSpots.out PSpots.out HBLK.out rfl (by decide) (by decide) Cp.out)
  replace HG6 := Aside0.mk (hk.blk OSpots.out PSpots.out HBLK.out (by decide) (by decide) HG6.out)
  replace HG7 := Aside0.mk (hk.blk OSpots.out PSpots.out HBLK.out (by decide) (by decide) HG7.out)
  replace HG8 := Aside0.mk (hk.blk OSpots.out PSpots.out HBLK.out (by decide) (by decide) HG8.out)
  have Cq := Aside0.mk (Kd.R_lower hu1 HH.out.size)
  replace HH := Aside0.mk (HH.out.trans (hk.under HH.out.size HBK.out (fun q e => Kd.R_base OSpots.out q e) (fun q e => Kd.R_base PSpots.out q e)))
  replace OSpots := Aside0.mk hp0
  replace PSpots := Aside0.mk hp1
  replace QSpots := Aside0.mk hsp
  replace HBLK := Aside0.mk hblk
  clear hblk hp0 hp1 hsp hu1 hk
  clear zc
  have zc : x7.cell? ⟨g6, 5, none⟩ = some (.slice Ae r.docs.length ce) := (blk_cell HG6.out 5).trans rfl
  have ODocs := Aside0.mk (Kd.R_nil (Kd.raw 1) 22 x7 w.heap.size (fun _ => True))
  have PDocs := ODocs
  have QDocs : Aside0 (∀ q, nilL.ownBlock = some q → nilL.ownBlock ≠ some q) := ⟨fun q e => by cases e⟩
  go_wp2_with fail
  refine (addDocs_calls bk w.heap.size nilL nilL nilL nilL nilL nilL pq qq nilL nilL [nilL, nilL, nilL, nilL, nilL, nilL] [] [] Ae ce r.docs _ HBLK.out ODocs.out PDocs.out QDocs.out He.out (by simp) (by simp) HH.out.size HBK.out HDO.out).mono ?_
  rintro en x8 ⟨pe, qe, ue, rfl, hblk, hp0, hp1, hsp, hu1, hk⟩
  replace HM := Aside0.mk (hk.R ODocs.out PDocs.out HBLK.out rfl (by decide) (by decide) HM.out)
  replace Hp := Aside0.mk (hk.R ODocs.out PDocs.out HBLK.out rfl (by decide) (by decide) Hp.out)
  replace He := Aside0.mk (hk.R ODocs.out PDocs.out HBLK.out rfl (by decide) (by decide) He.out)
  replace Hi := Aside0.mk (hk.R ODocs.out PDocs.out HBLK.out rfl (by decide) (by decide) Hi.out)
  replace Hq := Aside0.mk (hk.R ODocs.out PDocs.out HBLK.out rfl (by decide) (by decide) Hq.out)
  replace Hu := Aside0.mk (hk.R ODocs.out PDocs.out HBLK.out rfl (by decide) (by decide) Hu.out)
  replace Hv := Aside0.mk (hk.R ODocs.out PDocs.out HBLK.out rfl (by decide) (by decide) Hv.out)
  replace Hx := Aside0.mk (hk.R ODocs.out PDocs.out HBLK.out rfl (by decide) (by decide) Hx.out)
  replace Hd := Aside0.mk (hk.R ODocs.out PDocs.out HBLK.out rfl (by decide) (by decide) Hd.out)
  replace Hy := Aside0.mk (hk.R ODocs.out PDocs.out HBLK.out rfl (by decide) (by decide) Hy.out)
  replace Cp := Aside0.mk (hk.R ODocs.out PDocs.out HBLK.out rfl (by decide) (by decide) Cp.out)
  replace OSpots := Aside0.mk (hk.R ODocs.out PDocs.out HBLK.out rfl (by decide) (by decide) OSpots.out)
  replace PSpots := Aside0.mk (hk.R ODocs.out PDocs.out HBLK.out rfl (by decide) (by decide) PSpots.out)
  replace Cq := Aside0.mk (hk.R ODocs.out PDocs.out HBLK.out rfl (by decide) (by decide) Cq.out)
  replace HG6 := Aside0.mk (hk.blk ODocs.out PDocs.out HBLK.out (by decide) (by decide) HG6.out)
  replace HG7 := Aside0.mk (hk.blk ODocs.out PDocs.out HBLK.out (by decide) (by decide) HG7.out)
  replace HG8 := Aside0.mk (hk.blk ODocs.out PDocs.out HBLK.out (by decide) (by decide) HG8.out)
  have Ce := Aside0.mk (Kd.R_lower hu1 HH.out.size)
  replace HH := Aside0.mk (HH.out.trans (hk.under HH.out.size HBK.out (fun q e => Kd.R_base ODocs.out q e) (fun q e => Kd.R_base PDocs.out q e)))
  replace ODocs := Aside0.mk hp0
  replace PDocs := Aside0.mk hp1
  replace QDocs := Aside0.mk hsp
  replace HBLK := Aside0.mk hblk
  clear hblk hp0 hp1 hsp hu1 hk
  clear zc
  have zc : x8.cell? ⟨g6, 6, none⟩ = some (.slice Ai r.lens.length ci) := (blk_cell HG6.out 6).trans rfl
  have OInts := Aside0.mk (Kd.R_nil (Kd.raw 1) 31 x8 w.heap.size (fun _ => True))
  have PInts := OInts
  have QInts : Aside0 (∀ q, nilL.ownBlock = some q → nilL.ownBlock ≠ some q) := ⟨fun q e => by cases e⟩
  go_wp2_with fail
  refine (addInts_calls bk w.heap.size  nilL nilL [nilL, nilL, nilL, nilL, pq, qq, pe, qe, nilL, nilL, nilL, nilL, nilL, nilL] [] [] Ai ci r.lens _ HBLK.out OInts.out PInts.out QInts.out Hi.out (by simp) (by simp) HH.out.size HBK.out HLE.out).mono ?_
  rintro en x9 ⟨pi, qi, ui, rfl, hblk, hp0, hp1, hsp, hu1, hk⟩
  replace HM := Aside0.mk (hk.R OInts.out PInts.out HBLK.out rfl (by decide) (by decide) HM.out)
  replace Hp := Aside0.mk (hk.R OInts.out PInts.out HBLK.out rfl (by decide) (by decide) Hp.out)
  replace He := Aside0.mk (hk.R OInts.out PInts.out HBLK.out rfl (by decide) (by decide) He.out)
  replace Hi := Aside0.mk (hk.R OInts.out PInts.out HBLK.out rfl (by decide) (by decide) Hi.out)
  replace Hq := Aside0.mk (hk.R OInts.out PInts.out HBLK.out rfl (by decide) (by decide) Hq.out)
  replace Hu := Aside0.mk (hk.R OInts.out PInts.out HBLK.out rfl (by decide) (by decide) Hu.out)
  replace Hv := Aside0.mk (hk.R OInts.out PInts.out HBLK.out rfl (by decide) (by decide) Hv.out)
  replace Hx := Aside0.mk (hk.R OInts.out PInts.out HBLK.out rfl (by decide) (by decide) Hx.out)
  replace Hd := Aside0.mk (hk.R OInts.out PInts.out HBLK.out rfl (by decide) (by decide) Hd.out)
  replace Hy := Aside0.mk (hk.R OInts.out PInts.out HBLK.out rfl (by decide) (by decide) Hy.out)
  replace Cp := Aside0.mk (hk.R OInts.out PInts.out HBLK.out rfl (by decide) (by decide) Cp.out)
  replace OSpots := Aside0.mk (hk.R OInts.out PInts.out HBLK.out rfl (by decide) (by decide) OSpots.out)
  replace PSpots := Aside0.mk (hk.R OInts.out PInts.out HBLK.out rfl (by decide) (by decide) PSpots.out)
  replace Cq := Aside0.mk (hk.R OInts.out PInts.out HBLK.out rfl (by decide) (by decide) Cq.out)
  replace Ce := Aside0.mk (hk.R OInts.out PInts.out HBLK.out rfl (by decide) (by decide) Ce.out)
  replace ODocs := Aside0.mk (hk.R OInts.out PInts.out HBLK.out rfl (by decide) (by decide) ODocs.out)
  replace PDocs := Aside0.mk (hk.R OInts.out PInts.out HBLK.out rfl (by decide) (by decide) PDocs.out)
  replace HG6 := Aside0.mk (hk.blk OInts.out PInts.out HBLK.out (by decide) (by decide) HG6.out)
  replace HG7 := Aside0.mk (hk.blk OInts.out PInts.out HBLK.out (by decide) (by decide) HG7.out)
  replace HG8 := Aside0.mk (hk.blk OInts.out PInts.out HBLK.out (by decide) (by decide) HG8.out)
  have Ci := Aside0.mk (Kd.R_lower hu1 HH.out.size)
  replace HH := Aside0.mk (HH.out.trans (hk.under HH.out.size HBK.out (fun q e => Kd.R_base OInts.out q e) (fun q e => Kd.R_base PInts.out q e)))
  replace OInts := Aside0.mk hp0
  replace PInts := Aside0.mk hp1
  replace QInts := Aside0.mk hsp
  replace HBLK := Aside0.mk hblk
  clear hblk hp0 hp1 hsp hu1 hk
  clear zc
  have t1 : (ch.2 == 0) = true := beq_iff_eq.2 he
  go_wp2_with fail
  refine (addDocs_calls bk w.heap.size pi qi nilL nilL nilL nilL pq qq pe qe [nilL, nilL, nilL, nilL, nilL, nilL] [.slice Ae r.docs.length ce] [ue] Ad cd ch.1 _ HBLK.out ODocs.out PDocs.out QDocs.out Hd.out (by simp) (by simp) HH.out.size HBK.out HCH.out).mono ?_
  rintro en x10 ⟨pd, qd, ud, rfl, hblk, hp0, hp1, hsp, hu1, hk⟩
  replace HM := Aside0.mk (hk.R ODocs.out PDocs.out HBLK.out rfl (by decide) (by decide) HM.out)
  replace Hp := Aside0.mk (hk.R ODocs.out PDocs.out HBLK.out rfl (by decide) (by decide) Hp.out)
  replace He := Aside0.mk (hk.R ODocs.out PDocs.out HBLK.out rfl (by decide) (by decide) He.out)
  replace Hi := Aside0.mk (hk.R ODocs.out PDocs.out HBLK.out rfl (by decide) (by decide) Hi.out)
  replace Hq := Aside0.mk (hk.R ODocs.out PDocs.out HBLK.out rfl (by decide) (by decide) Hq.out)
  replace Hu := Aside0.mk (hk.R ODocs.out PDocs.out HBLK.out rfl (by decide) (by decide) Hu.out)
  replace Hv := Aside0.mk (hk.R ODocs.out PDocs.out HBLK.out rfl (by decide) (by decide) Hv.out)
  replace Hx := Aside0.mk (hk.R ODocs.out PDocs.out HBLK.out rfl (by decide) (by decide) Hx.out)
  replace Hd := Aside0.mk (hk.R ODocs.out PDocs.out HBLK.out rfl (by decide) (by decide) Hd.out)
  replace Hy := Aside0.mk (hk.R ODocs.out PDocs.out HBLK.out rfl (by decide) (by decide) Hy.out)
  replace Cp := Aside0.mk (hk.R ODocs.out PDocs.out HBLK.out rfl (by decide) (by decide) Cp.out)
  replace OSpots := Aside0.mk (hk.R ODocs.out PDocs.out HBLK.out rfl (by decide) (by decide) OSpots.out)
  replace PSpots := Aside0.mk (hk.R ODocs.out PDocs.out HBLK.out rfl (by decide) (by decide) PSpots.out)
  replace Cq := Aside0.mk (hk.R ODocs.out PDocs.out HBLK.out rfl (by decide) (by decide) Cq.out)
  replace Ce := Aside0.mk (hk.R ODocs.out PDocs.out HBLK.out rfl (by decide) (by decide) Ce.out)
  replace Ci := Aside0.mk (hk.R ODocs.out PDocs.out HBLK.out rfl (by decide) (by decide) Ci.out)
  replace OInts := Aside0.mk (hk.R ODocs.out PDocs.out HBLK.out rfl (by decide) (by decide) OInts.out)
  replace PInts := Aside0.mk (hk.R ODocs.out PDocs.out HBLK.out rfl (by decide) (by decide) PInts.out)
  replace HG6 := Aside0.mk (hk.blk ODocs.out PDocs.out HBLK.out (by decide) (by decide) HG6.out)
  replace HG7 := Aside0.mk (hk.blk ODocs.out PDocs.out HBLK.out (by decide) (by decide) HG7.out)
  replace HG8 := Aside0.mk (hk.blk ODocs.out PDocs.out HBLK.out (by decide) (by decide) HG8.out)
  have Cd := Aside0.mk (Kd.R_lower hu1 HH.out.size)
  replace HH := Aside0.mk (HH.out.trans (hk.under HH.out.size HBK.out (fun q e => Kd.R_base ODocs.out q e) (fun q e => Kd.R_base PDocs.out q e)))
  replace ODocs := Aside0.mk hp0
  replace PDocs := Aside0.mk hp1
  replace QDocs := Aside0.mk hsp
  replace HBLK := Aside0.mk hblk
  clear hblk hp0 hp1 hsp hu1 hk
  clear t1
  have y0 : x10.cell? ⟨g6, 0, none⟩ = some (.int .i64 r.er) := (blk_cell HG6.out 0).trans rfl
  have y1 : x10.cell? ⟨g6, 1, none⟩ = some (.int .i64 0) := (blk_cell HG6.out 1).trans rfl
  have y2 : x10.cell? ⟨g6, 2, none⟩ = some (.int .i64 r.n) := (blk_cell HG6.out 2).trans rfl
  have y3 : x10.cell? ⟨g6, 3, none⟩ = some (.string r.tx) := (blk_cell HG6.out 3).trans rfl
  have y4 : x10.cell? ⟨g6, 4, none⟩ = some (.slice Ap r.spots.length cp) := (blk_cell HG6.out 4).trans rfl
  have y5 : x10.cell? ⟨g6, 5, none⟩ = some (.slice Ae r.docs.length ce) := (blk_cell HG6.out 5).trans rfl
  have y6 : x10.cell? ⟨g6, 6, none⟩ = some (.slice Ai r.lens.length ci) := (blk_cell HG6.out 6).trans rfl
  have y7 : x10.cell? ⟨g6, 7, none⟩ = some (.complex .f64 ea eb) := by rw [← HATE.out]; exact (blk_cell HG6.out 7).trans rfl
  have z0 : x10.cell? ⟨g8, 0, none⟩ = some (.int .i64 r.er) := (blk_cell HG8.out 0).trans rfl
  have z1 : x10.cell? ⟨g8, 1, none⟩ = some (.int .i64 0) := (blk_cell HG8.out 1).trans rfl
  have z2 : x10.cell? ⟨g8, 2, none⟩ = some (.int .i64 r.n) := (blk_cell HG8.out 2).trans rfl
  have z3 : x10.cell? ⟨g8, 3, none⟩ = some (.string r.tx) := (blk_cell HG8.out 3).trans rfl
  have z4 : x10.cell? ⟨g8, 4, none⟩ = some (.slice Au r.spots.length cu) := (blk_cell HG8.out 4).trans rfl
  have z5 : x10.cell? ⟨g8, 5, none⟩ = some (.slice Av r.docs.length cv) := (blk_cell HG8.out 5).trans rfl
  have z6 : x10.cell? ⟨g8, 6, none⟩ = some (.slice Ax r.lens.length cx) := (blk_cell HG8.out 6).trans rfl
  have z7 : x10.cell? ⟨g8, 7, none⟩ = some (.complex .f64 ea eb) := by rw [← HATE.out]; exact (blk_cell HG8.out 7).trans rfl
  go_wp2_with fail
  refine start_ (n := 52) (S := fun w' => Below x10.heap.size x10 w') (ds := [49, 50, 51]) (bs 52 0) (by kernel_rfl) rfl rfl (below_drew1 (Below.refl _ _)) (fun hHeld => ?_)
  refine with_tabW modelTells.tab21 modelTells.bits21 (fun HT_ HW_ => ?_)
  iterate 2
   refine tk_ (N := some _) (v := ?_) (a' := ?_) rfl rfl (take_ofW HT_.out HW_.out (by kernel_rfl)) (fun _ _ _ h => h) (Or.inl ⟨by rfl, ?_⟩) hHeld ?_ ?_
   rotate_left
   ·intro w' s
    have s0 := pw_cell_below s y0
    have s1 := pw_cell_below s y1
    have s2 := pw_cell_below s y2
    have s3 := pw_cell_below s y3
    have s4 := pw_cell_below s y4
    have s5 := pw_cell_below s y5
    have s6 := pw_cell_below s y6
    have s7 := pw_cell_below s y7
    have r0 := pw_cell_below s z0
    have r1 := pw_cell_below s z1
    have r2 := pw_cell_below s z2
    have r3 := pw_cell_below s z3
    have r4 := pw_cell_below s z4
    have r5 := pw_cell_below s z5
    have r6 := pw_cell_below s z6
    have r7 := pw_cell_below s z7
    go_simp
    with_reducible rfl
   rotate_left
   ·simp only [Act.put, List.setIfInBounds_toArray, List.set_cons_zero, List.set_cons_succ, i64_w, i32_w]
    rfl
  refine one_ (i := 2) (N := some 93) (bs 52 7) rfl rfl (one_of HT_.out (by kernel_rfl)) (by decide) (fun K hK => ?_)
  refine goes_ Tryz.func13 (by kernel_rfl) rfl #[.agg #[.int .i64 r.er, .int .i64 0, .int .i64 r.n, .string r.tx, .slice Ap r.spots.length cp, .slice Ae r.docs.length ce, .slice Ai r.lens.length ci, .complex .f64 ea eb], .agg #[.int .i64 r.er, .int .i64 0, .int .i64 r.n, .string r.tx, .slice Au r.spots.length cu, .slice Av r.docs.length cv, .slice Ax r.lens.length cx, .complex .f64 ea eb]] (by rfl) rfl rfl (by (try simp only [List.map_toArray, List.map_cons, List.map_nil]); first | done | rfl | (simp only [List.length_drop, List.length_take]; rfl)) ?_
  refine (sameRep_calls r.er r.n r.tx r.spots r.docs r.lens ea eb HQ.out.1 HQ.out.2 Ap cp Ae ce Ai ci Au cu Av cv Ax cx _ (Kd.C_below (Kd.R_reads' Hp.out).2.2 hHeld) (Kd.C_below (Kd.R_reads' He.out).2.2 hHeld) (Kd.C_below (Kd.R_reads' Hi.out).2.2 hHeld) (Kd.C_below (Kd.R_reads' Hu.out).2.2 hHeld) (Kd.C_below (Kd.R_reads' Hv.out).2.2 hHeld) (Kd.C_below (Kd.R_reads' Hx.out).2.2 hHeld) (Nat.le_trans HSP.out (by decide)) (Nat.le_trans HDO.out (by decide)) (Nat.le_trans HLE.out (by decide))).mono ?_
  rintro en v1 ⟨rfl, hb⟩
  refine ⟨_, rfl, ?_⟩
  have hS := below_step hHeld hb
  refine hK.out _ _ hS (fun hHeld => ?_)
  clear hb hS
  clear hK K
  refine norm_ (a' := ?_) ?_ ?_
  rotate_left
  ·show Act.put _ (some 93) _ = _
   simp only [Act.put, List.setIfInBounds_toArray, List.set_cons_zero, List.set_cons_succ, i64_w, i32_w]
   rfl
  iterate 2
   refine tk_ (N := some _) (v := ?_) (a' := ?_) rfl rfl (take_ofW HT_.out HW_.out (by kernel_rfl)) (fun _ _ _ h => h) (Or.inl ⟨by rfl, ?_⟩) hHeld ?_ ?_
   rotate_left
   ·intro w' s
    go_simp
    with_reducible rfl
   rotate_left
   ·simp only [Act.put, List.setIfInBounds_toArray, List.set_cons_zero, List.set_cons_succ, i64_w, i32_w]
    rfl
  refine take_ (i := 5) (N := some 96) (v := ?_) (a' := ?_) (bs 52 63) rfl rfl (take_ofW HT_.out HW_.out (by kernel_rfl)) (fun _ _ _ h => h) (Or.inl ⟨by rfl, ?_⟩) hHeld ?_ ?_
  rotate_left
  ·intro w' s
   have s0 := pw_cell_below s y0
   have s1 := pw_cell_below s y1
   have s2 := pw_cell_below s y2
   have s3 := pw_cell_below s y3
   have s4 := pw_cell_below s y4
   have s5 := pw_cell_below s y5
   have s6 := pw_cell_below s y6
   have s7 := pw_cell_below s y7
   have r0 := pw_cell_below s z0
   have r1 := pw_cell_below s z1
   have r2 := pw_cell_below s z2
   have r3 := pw_cell_below s z3
   have r4 := pw_cell_below s z4
   have r5 := pw_cell_below s z5
   have r6 := pw_cell_below s z6
   have r7 := pw_cell_below s z7
   go_simp
   with_reducible rfl
  rotate_left
  ·simp only [Act.put, List.setIfInBounds_toArray, List.set_cons_zero, List.set_cons_succ, i64_w, i32_w]
   rfl
  iterate 3
   refine tk_ (N := some _) (v := ?_) (a' := ?_) rfl rfl (take_ofW HT_.out HW_.out (by kernel_rfl)) (fun _ _ _ h => h) (Or.inl ⟨by rfl, ?_⟩) hHeld ?_ ?_
   rotate_left
   ·intro w' s
    go_simp
    with_reducible rfl
   rotate_left
   ·simp only [Act.put, List.setIfInBounds_toArray, List.set_cons_zero, List.set_cons_succ, i64_w, i32_w]
    rfl
  refine take_ (i := 9) (N := some 100) (v := ?_) (a' := ?_) (bs 52 1023) rfl rfl (take_ofW HT_.out HW_.out (by kernel_rfl)) (fun _ _ _ h => h) (Or.inl ⟨by rfl, ?_⟩) hHeld ?_ ?_
  rotate_left
  ·intro w' s
   have s0 := pw_cell_below s y0
   have s1 := pw_cell_below s y1
   have s2 := pw_cell_below s y2
   have s3 := pw_cell_below s y3
   have s4 := pw_cell_below s y4
   have s5 := pw_cell_below s y5
   have s6 := pw_cell_below s y6
   have s7 := pw_cell_below s y7
   have r0 := pw_cell_below s z0
   have r1 := pw_cell_below s z1
   have r2 := pw_cell_below s z2
   have r3 := pw_cell_below s z3
   have r4 := pw_cell_below s z4
   have r5 := pw_cell_below s z5
   have r6 := pw_cell_below s z6
   have r7 := pw_cell_below s z7
   go_simp
   with_reducible rfl
  rotate_left
  ·simp only [Act.put, List.setIfInBounds_toArray, List.set_cons_zero, List.set_cons_succ, i64_w, i32_w]
   rfl
  iterate 6
   refine tk_ (N := some _) (v := ?_) (a' := ?_) rfl rfl (take_ofW HT_.out HW_.out (by kernel_rfl)) (fun _ _ _ h => h) (Or.inl ⟨by rfl, ?_⟩) hHeld ?_ ?_
   rotate_left
   ·intro w' s
    go_simp
    with_reducible rfl
   rotate_left
   ·simp only [Act.put, List.setIfInBounds_toArray, List.set_cons_zero, List.set_cons_succ, i64_w, i32_w]
    rfl
  refine take_ (i := 16) (N := some 107) (v := ?_) (a' := ?_) (bs 52 131071) rfl rfl (take_ofW HT_.out HW_.out (by kernel_rfl)) (fun _ _ _ h => h) (Or.inl ⟨by rfl, ?_⟩) hHeld ?_ ?_
  rotate_left
  ·intro w' s
   have s0 := pw_cell_below s y0
   have s1 := pw_cell_below s y1
   have s2 := pw_cell_below s y2
   have s3 := pw_cell_below s y3
   have s4 := pw_cell_below s y4
   have s5 := pw_cell_below s y5
   have s6 := pw_cell_below s y6
   have s7 := pw_cell_below s y7
   have r0 := pw_cell_below s z0
   have r1 := pw_cell_below s z1
   have r2 := pw_cell_below s z2
   have r3 := pw_cell_below s z3
   have r4 := pw_cell_below s z4
   have r5 := pw_cell_below s z5
   have r6 := pw_cell_below s z6
   have r7 := pw_cell_below s z7
   go_simp
   with_reducible rfl
  rotate_left
  ·simp only [Act.put, List.setIfInBounds_toArray, List.set_cons_zero, List.set_cons_succ, i64_w, i32_w]
   rfl
  iterate 3
   refine tk_ (N := some _) (v := ?_) (a' := ?_) rfl rfl (take_ofW HT_.out HW_.out (by kernel_rfl)) (fun _ _ _ h => h) (Or.inl ⟨by rfl, ?_⟩) hHeld ?_ ?_
   rotate_left
   ·intro w' s
    go_simp
    with_reducible rfl
   rotate_left
   ·simp only [Act.put, List.setIfInBounds_toArray, List.set_cons_zero, List.set_cons_succ, i64_w, i32_w]
    rfl
  refine take_ (i := 20) (N := some 111) (v := ?_) (a' := ?_) (bs 52 2097151) rfl rfl (take_ofW HT_.out HW_.out (by kernel_rfl)) (fun _ _ _ h => h) (Or.inl ⟨by rfl, ?_⟩) hHeld ?_ ?_
  rotate_left
  ·intro w' s
   have s0 := pw_cell_below s y0
   have s1 := pw_cell_below s y1
   have s2 := pw_cell_below s y2
   have s3 := pw_cell_below s y3
   have s4 := pw_cell_below s y4
   have s5 := pw_cell_below s y5
   have s6 := pw_cell_below s y6
   have s7 := pw_cell_below s y7
   have r0 := pw_cell_below s z0
   have r1 := pw_cell_below s z1
   have r2 := pw_cell_below s z2
   have r3 := pw_cell_below s z3
   have r4 := pw_cell_below s z4
   have r5 := pw_cell_below s z5
   have r6 := pw_cell_below s z6
   have r7 := pw_cell_below s z7
   go_simp
   with_reducible rfl
  rotate_left
  ·simp only [Act.put, List.setIfInBounds_toArray, List.set_cons_zero, List.set_cons_succ, i64_w, i32_w]
   rfl
  iterate 7
   refine tk_ (N := some _) (v := ?_) (a' := ?_) rfl rfl (take_ofW HT_.out HW_.out (by kernel_rfl)) (fun _ _ _ h => h) (Or.inl ⟨by rfl, ?_⟩) hHeld ?_ ?_
   rotate_left
   ·intro w' s
    go_simp
    with_reducible rfl
   rotate_left
   ·simp only [Act.put, List.setIfInBounds_toArray, List.set_cons_zero, List.set_cons_succ, i64_w, i32_w]
    rfl
  refine one_ (i := 28) (N := some 119) (bs 52 536870911) rfl rfl (one_of HT_.out (by kernel_rfl)) (by decide) (fun K hK => ?_)
  refine goes_ Tryz.func15 (by kernel_rfl) rfl #[.slice Ad ch.1.length cd, .slice Ay ch.1.length cy] (by rfl) rfl rfl (by (try simp only [List.map_toArray, List.map_cons, List.map_nil]); first | done | rfl | (simp only [List.length_drop, List.length_take]; rfl)) ?_
  refine (sameDocs_calls Ad Ay cd cy ch.1 _ (Kd.C_below (Kd.R_reads' Hd.out).2.2 hHeld) (Kd.C_below (Kd.R_reads' Hy.out).2.2 hHeld) (Kd.R_reads' Hd.out).2.1 (Kd.R_reads' Hy.out).2.1 (Nat.le_trans HCH.out (by decide))).mono ?_
  rintro en v2 ⟨rfl, hb⟩
  refine ⟨_, rfl, ?_⟩
  have hS := below_step hHeld hb
  refine hK.out _ _ hS (fun hHeld => ?_)
  clear hb hS
  clear hK K
  refine norm_ (a' := ?_) ?_ ?_
  rotate_left
  ·show Act.put _ (some 119) _ = _
   simp only [Act.put, List.setIfInBounds_toArray, List.set_cons_zero, List.set_cons_succ, i64_w, i32_w]
   rfl
  iterate 8
   refine tk_ (N := some _) (v := ?_) (a' := ?_) rfl rfl (take_ofW HT_.out HW_.out (by kernel_rfl)) (fun _ _ _ h => h) (Or.inl ⟨by rfl, ?_⟩) hHeld ?_ ?_
   rotate_left
   ·intro w' s
    go_simp
    with_reducible rfl
   rotate_left
   ·simp only [Act.put, List.setIfInBounds_toArray, List.set_cons_zero, List.set_cons_succ, i64_w, i32_w]
    rfl
  refine take_ (i := 38) (N := some 129) (v := ?_) (a' := ?_) (bs 52 412316860415) rfl rfl (take_ofW HT_.out HW_.out (by kernel_rfl)) (fun _ _ _ h => h) (Or.inl ⟨by rfl, ?_⟩) hHeld ?_ ?_
  rotate_left
  ·intro w' s
   go_simp
   with_reducible rfl
  rotate_left
  ·simp only [Act.put, List.setIfInBounds_toArray, List.set_cons_zero, List.set_cons_succ, i64_w, i32_w]
   rfl
  refine one_ (i := 37) (N := some 128) (bs 52 549755813887) rfl rfl (one_of HT_.out (by kernel_rfl)) (by decide) (fun K hK => ?_)
  refine goes_ Tryz.func16 (by kernel_rfl) rfl #[.slice (some ⟨gm, 0, none⟩) l0.length cm] (by rfl) rfl rfl (by (try simp only [List.map_toArray, List.map_cons, List.map_nil]); first | done | rfl | (simp only [List.length_drop, List.length_take]; rfl)) ?_
  refine (model_Right.calls (2 * l0.length + 2) (some ⟨gm, 0, none⟩) cm l0 (modelB l0) _ (Kd.C_below (lent_reads HM.out).1 hHeld) (lent_reads HM.out).2 (modelRight_ok l0 (by have := HL.out; omega) _ (Nat.le_refl _))).mono ?_
  rintro en v3 ⟨rfl, hb⟩
  refine ⟨_, rfl, ?_⟩
  have hS := below_step hHeld hb
  refine hK.out _ _ hS (fun hHeld => ?_)
  clear hb hS
  clear hK K
  refine norm_ (a' := ?_) ?_ ?_
  rotate_left
  ·show Act.put _ (some 128) _ = _
   simp only [Act.put, List.setIfInBounds_toArray, List.set_cons_zero, List.set_cons_succ, i64_w, i32_w]
   rfl
  refine one_ (i := 39) (N := some 130) (bs 52 1099511627775) rfl rfl (one_of HT_.out (by kernel_rfl)) (by decide) (fun K hK => ?_)
  refine goes_ Tryz.func17 (by kernel_rfl) rfl #[.slice A0 l0.length c0] (by rfl) rfl rfl (by (try simp only [List.map_toArray, List.map_cons, List.map_nil]); first | done | rfl | (simp only [List.length_drop, List.length_take]; rfl)) ?_
  refine (refMR_calls A0 c0 l0 _ (Kd.C_below (Kd.C_below HR.out HH.out) hHeld) HC.out (by have := HL.out; omega)).mono ?_
  rintro en v4 ⟨rfl, hb⟩
  refine ⟨_, rfl, ?_⟩
  have hS := below_step hHeld hb
  refine hK.out _ _ hS (fun hHeld => ?_)
  clear hb hS
  clear hK K
  refine norm_ (a' := ?_) ?_ ?_
  rotate_left
  ·show Act.put _ (some 130) _ = _
   simp only [Act.put, List.setIfInBounds_toArray, List.set_cons_zero, List.set_cons_succ, i64_w, i32_w]
   rfl
  iterate 5
   refine tk_ (N := some _) (v := ?_) (a' := ?_) rfl rfl (take_ofW HT_.out HW_.out (by kernel_rfl)) (fun _ _ _ h => h) (Or.inl ⟨by rfl, ?_⟩) hHeld ?_ ?_
   rotate_left
   ·intro w' s
    go_simp
    with_reducible rfl
   rotate_left
   ·simp only [Act.put, List.setIfInBounds_toArray, List.set_cons_zero, List.set_cons_succ, i64_w, i32_w]
    rfl
  refine one_ (i := 45) (N := some 136) (bs 52 70368744177663) rfl rfl (one_of HT_.out (by kernel_rfl)) (by decide) (fun K hK => ?_)
  refine goes_ Tryz.func18 (by kernel_rfl) rfl #[.slice (some ⟨gm, 0, none⟩) l0.length cm, .slice A0 l0.length c0] (by rfl) rfl rfl (by (try simp only [List.map_toArray, List.map_cons, List.map_nil]); first | done | rfl | (simp only [List.length_drop, List.length_take]; rfl)) ?_
  refine (staysDocs_calls gm cm A0 c0 l0 w.heap.size _ (Kd.R_below HM.out hHeld) (Kd.C_below (Kd.C_below HR.out HH.out) hHeld) HC.out (by have := HL.out; omega)).mono ?_
  rintro en v5 ⟨rfl, hb⟩
  refine ⟨_, rfl, ?_⟩
  have hS := below_step hHeld hb
  refine hK.out _ _ hS (fun hHeld => ?_)
  clear hb hS
  clear hK K
  refine norm_ (a' := ?_) ?_ ?_
  rotate_left
  ·show Act.put _ (some 136) _ = _
   simp only [Act.put, List.setIfInBounds_toArray, List.set_cons_zero, List.set_cons_succ, i64_w, i32_w]
   rfl
  iterate 3
   refine tk_ (N := some _) (v := ?_) (a' := ?_) rfl rfl (take_ofW HT_.out HW_.out (by kernel_rfl)) (fun _ _ _ h => h) (Or.inl ⟨by rfl, ?_⟩) hHeld ?_ ?_
   rotate_left
   ·intro w' s
    go_simp
    with_reducible rfl
   rotate_left
   ·simp only [Act.put, List.setIfInBounds_toArray, List.set_cons_zero, List.set_cons_succ, i64_w, i32_w]
    rfl
  refine last_ (i := 49) (N := some 140) (bs 52 1125899906842623) rfl rfl (one_of HT_.out (by kernel_rfl)) (by decide) (fun K hK => ?_)
  refine goes_ Tryz.func19 (by kernel_rfl) rfl #[.pointer (some ⟨bk, 0, none⟩)] (by rfl) rfl rfl (by (try simp only [List.map_toArray, List.map_cons, List.map_nil]); first | done | rfl | (simp only [List.length_drop, List.length_take]; rfl)) ?_
  refine (apartSDI_calls bk w.heap.size pi qi [(.slice Ai r.lens.length ci)] [ui] [r.lens] pq qq [(.slice Ap r.spots.length cp), (.slice Aq r.spots.length cq)] [up, uq] [r.spots, r.spots] pd qd [(.slice Ae r.docs.length ce), (.slice Ad ch.1.length cd)] [ue, ud] [r.docs, ch.1] _ (blk_below HBLK.out hHeld) (Nat.le_trans HH.out.size hHeld.size) (stat_one _ _ _ HLE.out) (sta_one (Kd.R_below OInts.out hHeld) (Kd.R_below PInts.out hHeld) (Kd.R_below Hi.out hHeld) (Kd.R_below Ci.out hHeld)) (stat_two _ _ _ _ _ _ Npq.out HSP.out HSP.out) (sta_two (Kd.R_below OSpots.out hHeld) (Kd.R_below PSpots.out hHeld) (Kd.R_below Hp.out hHeld) (Kd.R_below Cp.out hHeld) (Kd.R_below Hq.out hHeld) (Kd.R_below Cq.out hHeld)) (stat_two _ _ _ _ _ _ Ned.out HDO.out HCH.out) (sta_two (Kd.R_below ODocs.out hHeld) (Kd.R_below PDocs.out hHeld) (Kd.R_below He.out hHeld) (Kd.R_below Ce.out hHeld) (Kd.R_below Hd.out hHeld) (Kd.R_below Cd.out hHeld))).mono ?_
  rintro en v6 ⟨rfl, hb⟩
  refine ⟨_, rfl, ?_⟩
  have HEND := Aside0.mk ((below_step HH.out hHeld).trans hb)
  clear hb
  refine hK.out _ _ ?_
  clear hK K
  refine norm_ (a' := ?_) ?_ ?_
  rotate_left
  ·show Act.put _ (some 140) _ = _
   simp only [Act.put, List.setIfInBounds_toArray, List.set_cons_zero, List.set_cons_succ, i64_w, i32_w]
   rfl
  refine last_ (i := 50) (N := some 141) (bs 52 2251799813685247) rfl rfl (one_of HT_.out (by kernel_rfl)) (by decide) (fun K hK => ?_)
  refine value_ (v := .bool true) (w1 := v6) (by rfl) rfl (by first | (go_simp; done) | (go_simp; rfl)) (hK.out _ _ ?_)
  clear hK K
  refine norm_ (a' := ?_) ?_ ?_
  rotate_left
  ·show Act.put _ (some 141) _ = _
   simp only [Act.put, List.setIfInBounds_toArray, List.set_cons_zero, List.set_cons_succ, i64_w, i32_w]
   rfl
  refine last_ (i := 51) (N := some 6) (bs 52 4503599627370495) rfl rfl (one_of HT_.out (by kernel_rfl)) (by decide) (fun K hK => ?_)
  refine value_ (v := .bool true) (w1 := v6) (by rfl) rfl (by first | (go_simp; done) | (go_simp; rfl)) (hK.out _ _ ?_)
  clear hK K
  refine norm_ (a' := ?_) ?_ ?_
  rotate_left
  ·show Act.put _ (some 6) _ = _
   simp only [Act.put, List.setIfInBounds_toArray, List.set_cons_zero, List.set_cons_succ, i64_w, i32_w]
   rfl
  refine done_ (done_of HT_.out (by kernel_rfl)) ?_
  go_wp2_with fail
  go_ret
  exact ⟨rfl, HEND.out⟩
 ·have HDC : Aside0 (∀ W, Kd.R k27 27 W w.heap.size (fun _ => True) (.slice (some ⟨gm, 0, none⟩) (l0.length + 1) cm) (l0 ++ [lentOfDocs]) → Kd.C k27 W Ad ch.1.length ch.1) := ⟨fun W h => by
   rcases hnot he with ⟨e1, e2, e3⟩ | ⟨e1, e2, e3⟩
   ·rw [e1, e3]; exact (lent_reads h).1
   ·rw [e1, e3]; exact Kd.C_nil _ _⟩
  have HCL := Aside0.mk hcl
  clear hcl hcC hown hnot ka0 ka1 ka2 ka3 ka4 ka5
  replace HG6 := Aside0.mk (blk_below HG6.out hb)
  replace HG7 := Aside0.mk (blk_below HG7.out hb)
  replace HG8 := Aside0.mk (blk_below HG8.out hb)
  replace HBA := Aside0.mk (below_step HBA.out hb)
  replace HM := Aside0.mk (Kd.R_below HM.out hb)
  replace Hp := Aside0.mk (Kd.R_below Hp.out hb)
  replace He := Aside0.mk (Kd.R_below He.out hb)
  replace Hi := Aside0.mk (Kd.R_below Hi.out hb)
  replace Hq := Aside0.mk (Kd.R_below Hq.out hb)
  replace Hu := Aside0.mk (Kd.R_below Hu.out hb)
  replace Hv := Aside0.mk (Kd.R_below Hv.out hb)
  replace Hx := Aside0.mk (Kd.R_below Hx.out hb)
  replace HH := Aside0.mk (below_step HH.out hb)
  clear hb
  have ka0 := pw_cell_below HBA.out g0.out
  have ka1 := pw_cell_below HBA.out g1.out
  have ka2 := pw_cell_below HBA.out g2.out
  have ka3 := pw_cell_below HBA.out g3.out
  have ka4 := pw_cell_below HBA.out g4.out
  have ka5 := pw_cell_below HBA.out g5.out
  go_wp2_with fail
  refine (RC.out _ (Kd.C_below HR.out HH.out)).mono ?_
  rintro en x4 ⟨Ay, cy, rfl, hcl, hcC, hb, hown, hnot⟩
  have HXC : Aside0 (∀ W, Below w.heap.size w W → Kd.C k27 W Ay ch.1.length ch.1) := ⟨fun W h => by
   rcases hnot he with ⟨e1, e2, e3⟩ | ⟨e1, e2, e3⟩
   ·rw [e1, e3]; exact Kd.C_below HR.out h
   ·rw [e1, e3]; exact Kd.C_nil _ _⟩
  have HCY := Aside0.mk hcl
  clear hcl hcC hown hnot ka0 ka1 ka2 ka3 ka4 ka5
  replace HG6 := Aside0.mk (blk_below HG6.out hb)
  replace HG7 := Aside0.mk (blk_below HG7.out hb)
  replace HG8 := Aside0.mk (blk_below HG8.out hb)
  replace HBA := Aside0.mk (below_step HBA.out hb)
  replace HM := Aside0.mk (Kd.R_below HM.out hb)
  replace Hp := Aside0.mk (Kd.R_below Hp.out hb)
  replace He := Aside0.mk (Kd.R_below He.out hb)
  replace Hi := Aside0.mk (Kd.R_below Hi.out hb)
  replace Hq := Aside0.mk (Kd.R_below Hq.out hb)
  replace Hu := Aside0.mk (Kd.R_below Hu.out hb)
  replace Hv := Aside0.mk (Kd.R_below Hv.out hb)
  replace Hx := Aside0.mk (Kd.R_below Hx.out hb)
  replace HH := Aside0.mk (below_step HH.out hb)
  clear hb
  clear HBA g0 g1 g2 g3 g4 g5 AN RA CH RC
  have zb : (x4.alloc (.cells #[.slice none 0 0, .slice none 0 0, .slice none 0 0, .slice none 0 0, .slice none 0 0, .slice none 0 0, .slice none 0 0, .slice none 0 0, .slice none 0 0, .slice none 0 0, .slice none 0 0, .slice none 0 0, .slice none 0 0, .slice none 0 0, .slice none 0 0, .slice none 0 0] 48)).cell? ⟨g6, 4, none⟩ = some (.slice Ap r.spots.length cp) := pw_cell_below (below_alloc (Below.refl _ _) _) ((blk_cell HG6.out 4).trans rfl)
  go_wp2_with fail
  obtain ⟨x5, hbe⟩ : ∃ x, x4.alloc (.cells #[.slice none 0 0, .slice none 0 0, .slice none 0 0, .slice none 0 0, .slice none 0 0, .slice none 0 0, .slice none 0 0, .slice none 0 0, .slice none 0 0, .slice none 0 0, .slice none 0 0, .slice none 0 0, .slice none 0 0, .slice none 0 0, .slice none 0 0, .slice none 0 0] 48) = x := ⟨_, rfl⟩
  have hblk : x5.heap[x4.heap.size]? = some (.cells [nilL, nilL, nilL, nilL, nilL, nilL, nilL, nilL, nilL, nilL, nilL, nilL, nilL, nilL, nilL, nilL].toArray 48 (0, 0)) := by rw [← hbe]; exact heap_alloc_new _ _
  have hb : Below x4.heap.size x4 x5 := by rw [← hbe]; exact below_alloc (Below.refl _ _) _
  rw [hbe]
  obtain ⟨bk, hbk⟩ : ∃ b, x4.heap.size = b := ⟨_, rfl⟩
  have HBK := Aside0.mk (show w.heap.size ≤ bk by rw [← hbk]; exact HH.out.size)
  rw [hbk] at hblk ⊢
  have HBLK := Aside0.mk hblk
  clear hblk hbe hbk
  replace HG6 := Aside0.mk (blk_below HG6.out hb)
  replace HG7 := Aside0.mk (blk_below HG7.out hb)
  replace HG8 := Aside0.mk (blk_below HG8.out hb)
  replace HM := Aside0.mk (Kd.R_below HM.out hb)
  replace Hp := Aside0.mk (Kd.R_below Hp.out hb)
  replace He := Aside0.mk (Kd.R_below He.out hb)
  replace Hi := Aside0.mk (Kd.R_below Hi.out hb)
  replace Hq := Aside0.mk (Kd.R_below Hq.out hb)
  replace Hu := Aside0.mk (Kd.R_below Hu.out hb)
  replace Hv := Aside0.mk (Kd.R_below Hv.out hb)
  replace Hx := Aside0.mk (Kd.R_below Hx.out hb)
  replace HH := Aside0.mk (below_step HH.out hb)
  clear hb
  clear zb
  have zc : x5.cell? ⟨g6, 4, none⟩ = some (.slice Ap r.spots.length cp) := (blk_cell HG6.out 4).trans rfl
  have OSpots := Aside0.mk (Kd.R_nil (Kd.raw 1) 30 x5 w.heap.size (fun _ => True))
  have PSpots := OSpots
  have QSpots : Aside0 (∀ q, nilL.ownBlock = some q → nilL.ownBlock ≠ some q) := ⟨fun q e => by cases e⟩
  go_wp2_with fail
  refine (addSpots_calls bk w.heap.size nilL nilL nilL nilL nilL nilL nilL nilL [nilL, nilL, nilL, nilL, nilL, nilL, nilL, nilL] [] [] Ap cp r.spots _ HBLK.out OSpots.out PSpots.out QSpots.out Hp.out (by simp) (by simp) HH.out.size HBK.out HSP.out).mono ?_
  rintro en x6 ⟨pp, qp, up, rfl, hblk, hp0, hp1, hsp, hu1, hk⟩
  replace HM := Aside0.mk (hk.R OSpots.out PSpots.out HBLK.out rfl (by decide) (by decide) HM.out)
  replace Hp := Aside0.mk (hk.R OSpots.out PSpots.out HBLK.out rfl (by decide) (by decide) Hp.out)
  replace He := Aside0.mk (hk.R OSpots.out PSpots.out HBLK.out rfl (by decide) (by decide) He.out)
  replace Hi := Aside0.mk (hk.R OSpots.out PSpots.out HBLK.out rfl (by decide) (by decide) Hi.out)
  replace Hq := Aside0.mk (hk.R OSpots.out PSpots.out HBLK.out rfl (by decide) (by decide) Hq.out)
  replace Hu := Aside0.mk (hk.R OSpots.out PSpots.out HBLK.out rfl (by decide) (by decide) Hu.out)
  replace Hv := Aside0.mk (hk.R OSpots.out PSpots.out HBLK.out rfl (by decide) (by decide) Hv.out)
  replace Hx := Aside0.mk (hk.R OSpots.out PSpots.out HBLK.out rfl (by decide) (by decide) Hx.out)
  replace HG6 := Aside0.mk (hk.blk OSpots.out PSpots.out HBLK.out (by decide) (by decide) HG6.out)
  replace HG7 := Aside0.mk (hk.blk OSpots.out PSpots.out HBLK.out (by decide) (by decide) HG7.out)
  replace HG8 := Aside0.mk (hk.blk OSpots.out PSpots.out HBLK.out (by decide) (by decide) HG8.out)
  have Cp := Aside0.mk (Kd.R_lower hu1 HH.out.size)
  replace HH := Aside0.mk (HH.out.trans (hk.under HH.out.size HBK.out (fun q e => Kd.R_base OSpots.out q e) (fun q e => Kd.R_base PSpots.out q e)))
  replace OSpots := Aside0.mk hp0
  replace PSpots := Aside0.mk hp1
  replace QSpots := Aside0.mk hsp
  replace HBLK := Aside0.mk hblk
  clear hblk hp0 hp1 hsp hu1 hk
  clear zc
  have zc : x6.cell? ⟨g7, 4, none⟩ = some (.slice Aq r.spots.length cq) := (blk_cell HG7.out 4).trans rfl
  go_wp2_with fail
  refine (addSpots_calls bk w.heap.size nilL nilL nilL nilL nilL nilL pp qp [nilL, nilL, nilL, nilL, nilL, nilL, nilL, nilL] [.slice Ap r.spots.length cp] [up] Aq cq r.spots _ HBLK.out OSpots.out PSpots.out QSpots.out Hq.out (by simp) (by simp) HH.out.size HBK.out HSP.out).mono ?_
  rintro en x7 ⟨pq, qq, uq, rfl, hblk, hp0, hp1, hsp, hu1, hk⟩
  replace HM := Aside0.mk (hk.R OSpots.out PSpots.out HBLK.out rfl (by decide) (by decide) HM.out)
  replace Hp := Aside0.mk (hk.R OSpots.out PSpots.out HBLK.out rfl (by decide) (by decide) Hp.out)
  replace He := Aside0.mk (hk.R OSpots.out PSpots.out HBLK.out rfl (by decide) (by decide) He.out)
  replace Hi := Aside0.mk (hk.R OSpots.out PSpots.out HBLK.out rfl (by decide) (by decide) Hi.out)
  replace Hq := Aside0.mk (hk.R OSpots.out PSpots.out HBLK.out rfl (by decide) (by decide) Hq.out)
  replace Hu := Aside0.mk (hk.R OSpots.out PSpots.out HBLK.out rfl (by decide) (by decide) Hu.out)
  replace Hv := Aside0.mk (hk.R OSpots.out PSpots.out HBLK.out rfl (by decide) (by decide) Hv.out)
  replace Hx := Aside0.mk (hk.R OSpots.out PSpots.out HBLK.out rfl (by decide) (by decide) Hx.out)
  replace Cp := Aside0.mk (hk.R OSpots.out PSpots.out HBLK.out rfl (by decide) (by decide) Cp.out)
  replace HG6 := Aside0.mk (hk.blk OSpots.out PSpots.out HBLK.out (by decide) (by decide) HG6.out)
  replace HG7 := Aside0.mk (hk.blk OSpots.out PSpots.out HBLK.out (by decide) (by decide) HG7.out)
  replace HG8 := Aside0.mk (hk.blk OSpots.out PSpots.out HBLK.out (by decide) (by decide) HG8.out)
  have Cq := Aside0.mk (Kd.R_lower hu1 HH.out.size)
  replace HH := Aside0.mk (HH.out.trans (hk.under HH.out.size HBK.out (fun q e => Kd.R_base OSpots.out q e) (fun q e => Kd.R_base PSpots.out q e)))
  replace OSpots := Aside0.mk hp0
  replace PSpots := Aside0.mk hp1
  replace QSpots := Aside0.mk hsp
  replace HBLK := Aside0.mk hblk
  clear hblk hp0 hp1 hsp hu1 hk
  clear zc
  have zc : x7.cell? ⟨g6, 5, none⟩ = some (.slice Ae r.docs.length ce) := (blk_cell HG6.out 5).trans rfl
  have ODocs := Aside0.mk (Kd.R_nil (Kd.raw 1) 22 x7 w.heap.size (fun _ => True))
  have PDocs := ODocs
  have QDocs : Aside0 (∀ q, nilL.ownBlock = some q → nilL.ownBlock ≠ some q) := ⟨fun q e => by cases e⟩
  go_wp2_with fail
  refine (addDocs_calls bk w.heap.size nilL nilL nilL nilL nilL nilL pq qq nilL nilL [nilL, nilL, nilL, nilL, nilL, nilL] [] [] Ae ce r.docs _ HBLK.out ODocs.out PDocs.out QDocs.out He.out (by simp) (by simp) HH.out.size HBK.out HDO.out).mono ?_
  rintro en x8 ⟨pe, qe, ue, rfl, hblk, hp0, hp1, hsp, hu1, hk⟩
  replace HM := Aside0.mk (hk.R ODocs.out PDocs.out HBLK.out rfl (by decide) (by decide) HM.out)
  replace Hp := Aside0.mk (hk.R ODocs.out PDocs.out HBLK.out rfl (by decide) (by decide) Hp.out)
  replace He := Aside0.mk (hk.R ODocs.out PDocs.out HBLK.out rfl (by decide) (by decide) He.out)
  replace Hi := Aside0.mk (hk.R ODocs.out PDocs.out HBLK.out rfl (by decide) (by decide) Hi.out)
  replace Hq := Aside0.mk (hk.R ODocs.out PDocs.out HBLK.out rfl (by decide) (by decide) Hq.out)
  replace Hu := Aside0.mk (hk.R ODocs.out PDocs.out HBLK.out rfl (by decide) (by decide) Hu.out)
  replace Hv := Aside0.mk (hk.R ODocs.out PDocs.out HBLK.out rfl (by decide) (by decide) Hv.out)
  replace Hx := Aside0.mk (hk.R ODocs.out PDocs.out HBLK.out rfl (by decide) (by decide) Hx.out)
  replace Cp := Aside0.mk (hk.R ODocs.out PDocs.out HBLK.out rfl (by decide) (by decide) Cp.out)
  replace OSpots := Aside0.mk (hk.R ODocs.out PDocs.out HBLK.out rfl (by decide) (by decide) OSpots.out)
  replace PSpots := Aside0.mk (hk.R ODocs.out PDocs.out HBLK.out rfl (by decide) (by decide) PSpots.out)
  replace Cq := Aside0.mk (hk.R ODocs.out PDocs.out HBLK.out rfl (by decide) (by decide) Cq.out)
  replace HG6 := Aside0.mk (hk.blk ODocs.out PDocs.out HBLK.out (by decide) (by decide) HG6.out)
  replace HG7 := Aside0.mk (hk.blk ODocs.out PDocs.out HBLK.out (by decide) (by decide) HG7.out)
  replace HG8 := Aside0.mk (hk.blk ODocs.out PDocs.out HBLK.out (by decide) (by decide) HG8.out)
  have Ce := Aside0.mk (Kd.R_lower hu1 HH.out.size)
  replace HH := Aside0.mk (HH.out.trans (hk.under HH.out.size HBK.out (fun q e => Kd.R_base ODocs.out q e) (fun q e => Kd.R_base PDocs.out q e)))
  replace ODocs := Aside0.mk hp0
  replace PDocs := Aside0.mk hp1
  replace QDocs := Aside0.mk hsp
  replace HBLK := Aside0.mk hblk
  clear hblk hp0 hp1 hsp hu1 hk
  clear zc
  have zc : x8.cell? ⟨g6, 6, none⟩ = some (.slice Ai r.lens.length ci) := (blk_cell HG6.out 6).trans rfl
  have OInts := Aside0.mk (Kd.R_nil (Kd.raw 1) 31 x8 w.heap.size (fun _ => True))
  have PInts := OInts
  have QInts : Aside0 (∀ q, nilL.ownBlock = some q → nilL.ownBlock ≠ some q) := ⟨fun q e => by cases e⟩
  go_wp2_with fail
  refine (addInts_calls bk w.heap.size  nilL nilL [nilL, nilL, nilL, nilL, pq, qq, pe, qe, nilL, nilL, nilL, nilL, nilL, nilL] [] [] Ai ci r.lens _ HBLK.out OInts.out PInts.out QInts.out Hi.out (by simp) (by simp) HH.out.size HBK.out HLE.out).mono ?_
  rintro en x9 ⟨pi, qi, ui, rfl, hblk, hp0, hp1, hsp, hu1, hk⟩
  replace HM := Aside0.mk (hk.R OInts.out PInts.out HBLK.out rfl (by decide) (by decide) HM.out)
  replace Hp := Aside0.mk (hk.R OInts.out PInts.out HBLK.out rfl (by decide) (by decide) Hp.out)
  replace He := Aside0.mk (hk.R OInts.out PInts.out HBLK.out rfl (by decide) (by decide) He.out)
  replace Hi := Aside0.mk (hk.R OInts.out PInts.out HBLK.out rfl (by decide) (by decide) Hi.out)
  replace Hq := Aside0.mk (hk.R OInts.out PInts.out HBLK.out rfl (by decide) (by decide) Hq.out)
  replace Hu := Aside0.mk (hk.R OInts.out PInts.out HBLK.out rfl (by decide) (by decide) Hu.out)
  replace Hv := Aside0.mk (hk.R OInts.out PInts.out HBLK.out rfl (by decide) (by decide) Hv.out)
  replace Hx := Aside0.mk (hk.R OInts.out PInts.out HBLK.out rfl (by decide) (by decide) Hx.out)
  replace Cp := Aside0.mk (hk.R OInts.out PInts.out HBLK.out rfl (by decide) (by decide) Cp.out)
  replace OSpots := Aside0.mk (hk.R OInts.out PInts.out HBLK.out rfl (by decide) (by decide) OSpots.out)
  replace PSpots := Aside0.mk (hk.R OInts.out PInts.out HBLK.out rfl (by decide) (by decide) PSpots.out)
  replace Cq := Aside0.mk (hk.R OInts.out PInts.out HBLK.out rfl (by decide) (by decide) Cq.out)
  replace Ce := Aside0.mk (hk.R OInts.out PInts.out HBLK.out rfl (by decide) (by decide) Ce.out)
  replace ODocs := Aside0.mk (hk.R OInts.out PInts.out HBLK.out rfl (by decide) (by decide) ODocs.out)
  replace PDocs := Aside0.mk (hk.R OInts.out PInts.out HBLK.out rfl (by decide) (by decide) PDocs.out)
  replace HG6 := Aside0.mk (hk.blk OInts.out PInts.out HBLK.out (by decide) (by decide) HG6.out)
  replace HG7 := Aside0.mk (hk.blk OInts.out PInts.out HBLK.out (by decide) (by decide) HG7.out)
  replace HG8 := Aside0.mk (hk.blk OInts.out PInts.out HBLK.out (by decide) (by decide) HG8.out)
  have Ci := Aside0.mk (Kd.R_lower hu1 HH.out.size)
  replace HH := Aside0.mk (HH.out.trans (hk.under HH.out.size HBK.out (fun q e => Kd.R_base OInts.out q e) (fun q e => Kd.R_base PInts.out q e)))
  replace OInts := Aside0.mk hp0
  replace PInts := Aside0.mk hp1
  replace QInts := Aside0.mk hsp
  replace HBLK := Aside0.mk hblk
  clear hblk hp0 hp1 hsp hu1 hk
  clear zc
  have t1 : (ch.2 == 0) = false := beq_eq_false_iff_ne.2 he
  have y0 : x9.cell? ⟨g6, 0, none⟩ = some (.int .i64 r.er) := (blk_cell HG6.out 0).trans rfl
  have y1 : x9.cell? ⟨g6, 1, none⟩ = some (.int .i64 0) := (blk_cell HG6.out 1).trans rfl
  have y2 : x9.cell? ⟨g6, 2, none⟩ = some (.int .i64 r.n) := (blk_cell HG6.out 2).trans rfl
  have y3 : x9.cell? ⟨g6, 3, none⟩ = some (.string r.tx) := (blk_cell HG6.out 3).trans rfl
  have y4 : x9.cell? ⟨g6, 4, none⟩ = some (.slice Ap r.spots.length cp) := (blk_cell HG6.out 4).trans rfl
  have y5 : x9.cell? ⟨g6, 5, none⟩ = some (.slice Ae r.docs.length ce) := (blk_cell HG6.out 5).trans rfl
  have y6 : x9.cell? ⟨g6, 6, none⟩ = some (.slice Ai r.lens.length ci) := (blk_cell HG6.out 6).trans rfl
  have y7 : x9.cell? ⟨g6, 7, none⟩ = some (.complex .f64 ea eb) := by rw [← HATE.out]; exact (blk_cell HG6.out 7).trans rfl
  have z0 : x9.cell? ⟨g8, 0, none⟩ = some (.int .i64 r.er) := (blk_cell HG8.out 0).trans rfl
  have z1 : x9.cell? ⟨g8, 1, none⟩ = some (.int .i64 0) := (blk_cell HG8.out 1).trans rfl
  have z2 : x9.cell? ⟨g8, 2, none⟩ = some (.int .i64 r.n) := (blk_cell HG8.out 2).trans rfl
  have z3 : x9.cell? ⟨g8, 3, none⟩ = some (.string r.tx) := (blk_cell HG8.out 3).trans rfl
  have z4 : x9.cell? ⟨g8, 4, none⟩ = some (.slice Au r.spots.length cu) := (blk_cell HG8.out 4).trans rfl
  have z5 : x9.cell? ⟨g8, 5, none⟩ = some (.slice Av r.docs.length cv) := (blk_cell HG8.out 5).trans rfl
  have z6 : x9.cell? ⟨g8, 6, none⟩ = some (.slice Ax r.lens.length cx) := (blk_cell HG8.out 6).trans rfl
  have z7 : x9.cell? ⟨g8, 7, none⟩ = some (.complex .f64 ea eb) := by rw [← HATE.out]; exact (blk_cell HG8.out 7).trans rfl
  go_wp2_with fail
  refine start_ (n := 52) (S := fun w' => Below x9.heap.size x9 w') (ds := [49, 50, 51]) (bs 52 0) (by kernel_rfl) rfl rfl (below_drew1 (Below.refl _ _)) (fun hHeld => ?_)
  refine with_tabW modelTells.tab21 modelTells.bits21 (fun HT_ HW_ => ?_)
  iterate 2
   refine tk_ (N := some _) (v := ?_) (a' := ?_) rfl rfl (take_ofW HT_.out HW_.out (by kernel_rfl)) (fun _ _ _ h => h) (Or.inl ⟨by rfl, ?_⟩) hHeld ?_ ?_
   rotate_left
   ·intro w' s
    have s0 := pw_cell_below s y0
    have s1 := pw_cell_below s y1
    have s2 := pw_cell_below s y2
    have s3 := pw_cell_below s y3
    have s4 := pw_cell_below s y4
    have s5 := pw_cell_below s y5
    have s6 := pw_cell_below s y6
    have s7 := pw_cell_below s y7
    have r0 := pw_cell_below s z0
    have r1 := pw_cell_below s z1
    have r2 := pw_cell_below s z2
    have r3 := pw_cell_below s z3
    have r4 := pw_cell_below s z4
    have r5 := pw_cell_below s z5
    have r6 := pw_cell_below s z6
    have r7 := pw_cell_below s z7
    go_simp
    with_reducible rfl
   rotate_left
   ·simp only [Act.put, List.setIfInBounds_toArray, List.set_cons_zero, List.set_cons_succ, i64_w, i32_w]
    rfl
  refine one_ (i := 2) (N := some 93) (bs 52 7) rfl rfl (one_of HT_.out (by kernel_rfl)) (by decide) (fun K hK => ?_)
  refine goes_ Tryz.func13 (by kernel_rfl) rfl #[.agg #[.int .i64 r.er, .int .i64 0, .int .i64 r.n, .string r.tx, .slice Ap r.spots.length cp, .slice Ae r.docs.length ce, .slice Ai r.lens.length ci, .complex .f64 ea eb], .agg #[.int .i64 r.er, .int .i64 0, .int .i64 r.n, .string r.tx, .slice Au r.spots.length cu, .slice Av r.docs.length cv, .slice Ax r.lens.length cx, .complex .f64 ea eb]] (by rfl) rfl rfl (by (try simp only [List.map_toArray, List.map_cons, List.map_nil]); first | done | rfl | (simp only [List.length_drop, List.length_take]; rfl)) ?_
  refine (sameRep_calls r.er r.n r.tx r.spots r.docs r.lens ea eb HQ.out.1 HQ.out.2 Ap cp Ae ce Ai ci Au cu Av cv Ax cx _ (Kd.C_below (Kd.R_reads' Hp.out).2.2 hHeld) (Kd.C_below (Kd.R_reads' He.out).2.2 hHeld) (Kd.C_below (Kd.R_reads' Hi.out).2.2 hHeld) (Kd.C_below (Kd.R_reads' Hu.out).2.2 hHeld) (Kd.C_below (Kd.R_reads' Hv.out).2.2 hHeld) (Kd.C_below (Kd.R_reads' Hx.out).2.2 hHeld) (Nat.le_trans HSP.out (by decide)) (Nat.le_trans HDO.out (by decide)) (Nat.le_trans HLE.out (by decide))).mono ?_
  rintro en v1 ⟨rfl, hb⟩
  refine ⟨_, rfl, ?_⟩
  have hS := below_step hHeld hb
  refine hK.out _ _ hS (fun hHeld => ?_)
  clear hb hS
  clear hK K
  refine norm_ (a' := ?_) ?_ ?_
  rotate_left
  ·show Act.put _ (some 93) _ = _
   simp only [Act.put, List.setIfInBounds_toArray, List.set_cons_zero, List.set_cons_succ, i64_w, i32_w]
   rfl
  iterate 2
   refine tk_ (N := some _) (v := ?_) (a' := ?_) rfl rfl (take_ofW HT_.out HW_.out (by kernel_rfl)) (fun _ _ _ h => h) (Or.inl ⟨by rfl, ?_⟩) hHeld ?_ ?_
   rotate_left
   ·intro w' s
    go_simp
    with_reducible rfl
   rotate_left
   ·simp only [Act.put, List.setIfInBounds_toArray, List.set_cons_zero, List.set_cons_succ, i64_w, i32_w]
    rfl
  refine take_ (i := 5) (N := some 96) (v := ?_) (a' := ?_) (bs 52 63) rfl rfl (take_ofW HT_.out HW_.out (by kernel_rfl)) (fun _ _ _ h => h) (Or.inl ⟨by rfl, ?_⟩) hHeld ?_ ?_
  rotate_left
  ·intro w' s
   have s0 := pw_cell_below s y0
   have s1 := pw_cell_below s y1
   have s2 := pw_cell_below s y2
   have s3 := pw_cell_below s y3
   have s4 := pw_cell_below s y4
   have s5 := pw_cell_below s y5
   have s6 := pw_cell_below s y6
   have s7 := pw_cell_below s y7
   have r0 := pw_cell_below s z0
   have r1 := pw_cell_below s z1
   have r2 := pw_cell_below s z2
   have r3 := pw_cell_below s z3
   have r4 := pw_cell_below s z4
   have r5 := pw_cell_below s z5
   have r6 := pw_cell_below s z6
   have r7 := pw_cell_below s z7
   go_simp
   with_reducible rfl
  rotate_left
  ·simp only [Act.put, List.setIfInBounds_toArray, List.set_cons_zero, List.set_cons_succ, i64_w, i32_w]
   rfl
  iterate 3
   refine tk_ (N := some _) (v := ?_) (a' := ?_) rfl rfl (take_ofW HT_.out HW_.out (by kernel_rfl)) (fun _ _ _ h => h) (Or.inl ⟨by rfl, ?_⟩) hHeld ?_ ?_
   rotate_left
   ·intro w' s
    go_simp
    with_reducible rfl
   rotate_left
   ·simp only [Act.put, List.setIfInBounds_toArray, List.set_cons_zero, List.set_cons_succ, i64_w, i32_w]
    rfl
  refine take_ (i := 9) (N := some 100) (v := ?_) (a' := ?_) (bs 52 1023) rfl rfl (take_ofW HT_.out HW_.out (by kernel_rfl)) (fun _ _ _ h => h) (Or.inl ⟨by rfl, ?_⟩) hHeld ?_ ?_
  rotate_left
  ·intro w' s
   have s0 := pw_cell_below s y0
   have s1 := pw_cell_below s y1
   have s2 := pw_cell_below s y2
   have s3 := pw_cell_below s y3
   have s4 := pw_cell_below s y4
   have s5 := pw_cell_below s y5
   have s6 := pw_cell_below s y6
   have s7 := pw_cell_below s y7
   have r0 := pw_cell_below s z0
   have r1 := pw_cell_below s z1
   have r2 := pw_cell_below s z2
   have r3 := pw_cell_below s z3
   have r4 := pw_cell_below s z4
   have r5 := pw_cell_below s z5
   have r6 := pw_cell_below s z6
   have r7 := pw_cell_below s z7
   go_simp
   with_reducible rfl
  rotate_left
  ·simp only [Act.put, List.setIfInBounds_toArray, List.set_cons_zero, List.set_cons_succ, i64_w, i32_w]
   rfl
  iterate 6
   refine tk_ (N := some _) (v := ?_) (a' := ?_) rfl rfl (take_ofW HT_.out HW_.out (by kernel_rfl)) (fun _ _ _ h => h) (Or.inl ⟨by rfl, ?_⟩) hHeld ?_ ?_
   rotate_left
   ·intro w' s
    go_simp
    with_reducible rfl
   rotate_left
   ·simp only [Act.put, List.setIfInBounds_toArray, List.set_cons_zero, List.set_cons_succ, i64_w, i32_w]
    rfl
  refine take_ (i := 16) (N := some 107) (v := ?_) (a' := ?_) (bs 52 131071) rfl rfl (take_ofW HT_.out HW_.out (by kernel_rfl)) (fun _ _ _ h => h) (Or.inl ⟨by rfl, ?_⟩) hHeld ?_ ?_
  rotate_left
  ·intro w' s
   have s0 := pw_cell_below s y0
   have s1 := pw_cell_below s y1
   have s2 := pw_cell_below s y2
   have s3 := pw_cell_below s y3
   have s4 := pw_cell_below s y4
   have s5 := pw_cell_below s y5
   have s6 := pw_cell_below s y6
   have s7 := pw_cell_below s y7
   have r0 := pw_cell_below s z0
   have r1 := pw_cell_below s z1
   have r2 := pw_cell_below s z2
   have r3 := pw_cell_below s z3
   have r4 := pw_cell_below s z4
   have r5 := pw_cell_below s z5
   have r6 := pw_cell_below s z6
   have r7 := pw_cell_below s z7
   go_simp
   with_reducible rfl
  rotate_left
  ·simp only [Act.put, List.setIfInBounds_toArray, List.set_cons_zero, List.set_cons_succ, i64_w, i32_w]
   rfl
  iterate 3
   refine tk_ (N := some _) (v := ?_) (a' := ?_) rfl rfl (take_ofW HT_.out HW_.out (by kernel_rfl)) (fun _ _ _ h => h) (Or.inl ⟨by rfl, ?_⟩) hHeld ?_ ?_
   rotate_left
   ·intro w' s
    go_simp
    with_reducible rfl
   rotate_left
   ·simp only [Act.put, List.setIfInBounds_toArray, List.set_cons_zero, List.set_cons_succ, i64_w, i32_w]
    rfl
  refine take_ (i := 20) (N := some 111) (v := ?_) (a' := ?_) (bs 52 2097151) rfl rfl (take_ofW HT_.out HW_.out (by kernel_rfl)) (fun _ _ _ h => h) (Or.inl ⟨by rfl, ?_⟩) hHeld ?_ ?_
  rotate_left
  ·intro w' s
   have s0 := pw_cell_below s y0
   have s1 := pw_cell_below s y1
   have s2 := pw_cell_below s y2
   have s3 := pw_cell_below s y3
   have s4 := pw_cell_below s y4
   have s5 := pw_cell_below s y5
   have s6 := pw_cell_below s y6
   have s7 := pw_cell_below s y7
   have r0 := pw_cell_below s z0
   have r1 := pw_cell_below s z1
   have r2 := pw_cell_below s z2
   have r3 := pw_cell_below s z3
   have r4 := pw_cell_below s z4
   have r5 := pw_cell_below s z5
   have r6 := pw_cell_below s z6
   have r7 := pw_cell_below s z7
   go_simp
   with_reducible rfl
  rotate_left
  ·simp only [Act.put, List.setIfInBounds_toArray, List.set_cons_zero, List.set_cons_succ, i64_w, i32_w]
   rfl
  iterate 7
   refine tk_ (N := some _) (v := ?_) (a' := ?_) rfl rfl (take_ofW HT_.out HW_.out (by kernel_rfl)) (fun _ _ _ h => h) (Or.inl ⟨by rfl, ?_⟩) hHeld ?_ ?_
   rotate_left
   ·intro w' s
    go_simp
    with_reducible rfl
   rotate_left
   ·simp only [Act.put, List.setIfInBounds_toArray, List.set_cons_zero, List.set_cons_succ, i64_w, i32_w]
    rfl
  refine one_ (i := 28) (N := some 119) (bs 52 536870911) rfl rfl (one_of HT_.out (by kernel_rfl)) (by decide) (fun K hK => ?_)
  refine goes_ Tryz.func15 (by kernel_rfl) rfl #[.slice Ad ch.1.length cd, .slice Ay ch.1.length cy] (by rfl) rfl rfl (by (try simp only [List.map_toArray, List.map_cons, List.map_nil]); first | done | rfl | (simp only [List.length_drop, List.length_take]; rfl)) ?_
  refine (sameDocs_calls Ad Ay cd cy ch.1 _ (HDC.out _ (Kd.R_below HM.out hHeld)) (HXC.out _ (below_step HH.out hHeld)) HCL.out HCY.out (Nat.le_trans HCH.out (by decide))).mono ?_
  rintro en v2 ⟨rfl, hb⟩
  refine ⟨_, rfl, ?_⟩
  have hS := below_step hHeld hb
  refine hK.out _ _ hS (fun hHeld => ?_)
  clear hb hS
  clear hK K
  refine norm_ (a' := ?_) ?_ ?_
  rotate_left
  ·show Act.put _ (some 119) _ = _
   simp only [Act.put, List.setIfInBounds_toArray, List.set_cons_zero, List.set_cons_succ, i64_w, i32_w]
   rfl
  iterate 8
   refine tk_ (N := some _) (v := ?_) (a' := ?_) rfl rfl (take_ofW HT_.out HW_.out (by kernel_rfl)) (fun _ _ _ h => h) (Or.inl ⟨by rfl, ?_⟩) hHeld ?_ ?_
   rotate_left
   ·intro w' s
    go_simp
    with_reducible rfl
   rotate_left
   ·simp only [Act.put, List.setIfInBounds_toArray, List.set_cons_zero, List.set_cons_succ, i64_w, i32_w]
    rfl
  refine take_ (i := 38) (N := some 129) (v := ?_) (a' := ?_) (bs 52 412316860415) rfl rfl (take_ofW HT_.out HW_.out (by kernel_rfl)) (fun _ _ _ h => h) (Or.inl ⟨by rfl, ?_⟩) hHeld ?_ ?_
  rotate_left
  ·intro w' s
   go_simp
   with_reducible rfl
  rotate_left
  ·simp only [Act.put, List.setIfInBounds_toArray, List.set_cons_zero, List.set_cons_succ, i64_w, i32_w]
   rfl
  refine one_ (i := 37) (N := some 128) (bs 52 549755813887) rfl rfl (one_of HT_.out (by kernel_rfl)) (by decide) (fun K hK => ?_)
  refine goes_ Tryz.func16 (by kernel_rfl) rfl #[.slice (some ⟨gm, 0, none⟩) l0.length cm] (by rfl) rfl rfl (by (try simp only [List.map_toArray, List.map_cons, List.map_nil]); first | done | rfl | (simp only [List.length_drop, List.length_take]; rfl)) ?_
  refine (model_Right.calls (2 * l0.length + 2) (some ⟨gm, 0, none⟩) cm l0 (modelB l0) _ (Kd.C_below (lent_reads HM.out).1 hHeld) (lent_reads HM.out).2 (modelRight_ok l0 (by have := HL.out; omega) _ (Nat.le_refl _))).mono ?_
  rintro en v3 ⟨rfl, hb⟩
  refine ⟨_, rfl, ?_⟩
  have hS := below_step hHeld hb
  refine hK.out _ _ hS (fun hHeld => ?_)
  clear hb hS
  clear hK K
  refine norm_ (a' := ?_) ?_ ?_
  rotate_left
  ·show Act.put _ (some 128) _ = _
   simp only [Act.put, List.setIfInBounds_toArray, List.set_cons_zero, List.set_cons_succ, i64_w, i32_w]
   rfl
  refine one_ (i := 39) (N := some 130) (bs 52 1099511627775) rfl rfl (one_of HT_.out (by kernel_rfl)) (by decide) (fun K hK => ?_)
  refine goes_ Tryz.func17 (by kernel_rfl) rfl #[.slice A0 l0.length c0] (by rfl) rfl rfl (by (try simp only [List.map_toArray, List.map_cons, List.map_nil]); first | done | rfl | (simp only [List.length_drop, List.length_take]; rfl)) ?_
  refine (refMR_calls A0 c0 l0 _ (Kd.C_below (Kd.C_below HR.out HH.out) hHeld) HC.out (by have := HL.out; omega)).mono ?_
  rintro en v4 ⟨rfl, hb⟩
  refine ⟨_, rfl, ?_⟩
  have hS := below_step hHeld hb
  refine hK.out _ _ hS (fun hHeld => ?_)
  clear hb hS
  clear hK K
  refine norm_ (a' := ?_) ?_ ?_
  rotate_left
  ·show Act.put _ (some 130) _ = _
   simp only [Act.put, List.setIfInBounds_toArray, List.set_cons_zero, List.set_cons_succ, i64_w, i32_w]
   rfl
  iterate 5
   refine tk_ (N := some _) (v := ?_) (a' := ?_) rfl rfl (take_ofW HT_.out HW_.out (by kernel_rfl)) (fun _ _ _ h => h) (Or.inl ⟨by rfl, ?_⟩) hHeld ?_ ?_
   rotate_left
   ·intro w' s
    go_simp
    with_reducible rfl
   rotate_left
   ·simp only [Act.put, List.setIfInBounds_toArray, List.set_cons_zero, List.set_cons_succ, i64_w, i32_w]
    rfl
  refine one_ (i := 45) (N := some 136) (bs 52 70368744177663) rfl rfl (one_of HT_.out (by kernel_rfl)) (by decide) (fun K hK => ?_)
  refine goes_ Tryz.func18 (by kernel_rfl) rfl #[.slice (some ⟨gm, 0, none⟩) l0.length cm, .slice A0 l0.length c0] (by rfl) rfl rfl (by (try simp only [List.map_toArray, List.map_cons, List.map_nil]); first | done | rfl | (simp only [List.length_drop, List.length_take]; rfl)) ?_
  refine (staysDocs_calls gm cm A0 c0 l0 w.heap.size _ (Kd.R_below HM.out hHeld) (Kd.C_below (Kd.C_below HR.out HH.out) hHeld) HC.out (by have := HL.out; omega)).mono ?_
  rintro en v5 ⟨rfl, hb⟩
  refine ⟨_, rfl, ?_⟩
  have hS := below_step hHeld hb
  refine hK.out _ _ hS (fun hHeld => ?_)
  clear hb hS
  clear hK K
  refine norm_ (a' := ?_) ?_ ?_
  rotate_left
  ·show Act.put _ (some 136) _ = _
   simp only [Act.put, List.setIfInBounds_toArray, List.set_cons_zero, List.set_cons_succ, i64_w, i32_w]
   rfl
  iterate 3
   refine tk_ (N := some _) (v := ?_) (a' := ?_) rfl rfl (take_ofW HT_.out HW_.out (by kernel_rfl)) (fun _ _ _ h => h) (Or.inl ⟨by rfl, ?_⟩) hHeld ?_ ?_
   rotate_left
   ·intro w' s
    go_simp
    with_reducible rfl
   rotate_left
   ·simp only [Act.put, List.setIfInBounds_toArray, List.set_cons_zero, List.set_cons_succ, i64_w, i32_w]
    rfl
  refine last_ (i := 49) (N := some 140) (bs 52 1125899906842623) rfl rfl (one_of HT_.out (by kernel_rfl)) (by decide) (fun K hK => ?_)
  refine goes_ Tryz.func19 (by kernel_rfl) rfl #[.pointer (some ⟨bk, 0, none⟩)] (by rfl) rfl rfl (by (try simp only [List.map_toArray, List.map_cons, List.map_nil]); first | done | rfl | (simp only [List.length_drop, List.length_take]; rfl)) ?_
  refine (apartSDI_calls bk w.heap.size pi qi [(.slice Ai r.lens.length ci)] [ui] [r.lens] pq qq [(.slice Ap r.spots.length cp), (.slice Aq r.spots.length cq)] [up, uq] [r.spots, r.spots] pe qe [(.slice Ae r.docs.length ce)] [ue] [r.docs] _ (blk_below HBLK.out hHeld) (Nat.le_trans HH.out.size hHeld.size) (stat_one _ _ _ HLE.out) (sta_one (Kd.R_below OInts.out hHeld) (Kd.R_below PInts.out hHeld) (Kd.R_below Hi.out hHeld) (Kd.R_below Ci.out hHeld)) (stat_two _ _ _ _ _ _ Npq.out HSP.out HSP.out) (sta_two (Kd.R_below OSpots.out hHeld) (Kd.R_below PSpots.out hHeld) (Kd.R_below Hp.out hHeld) (Kd.R_below Cp.out hHeld) (Kd.R_below Hq.out hHeld) (Kd.R_below Cq.out hHeld)) (stat_one _ _ _ HDO.out) (sta_one (Kd.R_below ODocs.out hHeld) (Kd.R_below PDocs.out hHeld) (Kd.R_below He.out hHeld) (Kd.R_below Ce.out hHeld))).mono ?_
  rintro en v6 ⟨rfl, hb⟩
  refine ⟨_, rfl, ?_⟩
  have HEND := Aside0.mk ((below_step HH.out hHeld).trans hb)
  clear hb
  refine hK.out _ _ ?_
  clear hK K
  refine norm_ (a' := ?_) ?_ ?_
  rotate_left
  ·show Act.put _ (some 140) _ = _
   simp only [Act.put, List.setIfInBounds_toArray, List.set_cons_zero, List.set_cons_succ, i64_w, i32_w]
   rfl
  refine last_ (i := 50) (N := some 141) (bs 52 2251799813685247) rfl rfl (one_of HT_.out (by kernel_rfl)) (by decide) (fun K hK => ?_)
  refine value_ (v := .bool true) (w1 := v6) (by rfl) rfl (by first | (go_simp; done) | (go_simp; rfl)) (hK.out _ _ ?_)
  clear hK K
  refine norm_ (a' := ?_) ?_ ?_
  rotate_left
  ·show Act.put _ (some 141) _ = _
   simp only [Act.put, List.setIfInBounds_toArray, List.set_cons_zero, List.set_cons_succ, i64_w, i32_w]
   rfl
  refine last_ (i := 51) (N := some 6) (bs 52 4503599627370495) rfl rfl (one_of HT_.out (by kernel_rfl)) (by decide) (fun K hK => ?_)
  refine value_ (v := .bool true) (w1 := v6) (by rfl) rfl (by first | (go_simp; done) | (go_simp; rfl)) (hK.out _ _ ?_)
  clear hK K
  refine norm_ (a' := ?_) ?_ ?_
  rotate_left
  ·show Act.put _ (some 6) _ = _
   simp only [Act.put, List.setIfInBounds_toArray, List.set_cons_zero, List.set_cons_succ, i64_w, i32_w]
   rfl
  refine done_ (done_of HT_.out (by kernel_rfl)) ?_
  go_wp2_with fail
  go_ret
  exact ⟨rfl, HEND.out⟩
end Go.Proofs.YtibhenengpdahaaGreat.P
