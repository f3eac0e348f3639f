/- A request read of a line, in plain Lean. Conditions: none. -/
import Derived.Test.YtbmjekekpmabbaaDoorAskText
import Derived.Test.YtbmjekekpmabbaaDoorAskDel
import Derived.Test.YtbmjekekpmabbaaDoorAskWalk
set_option linter.unusedVariables false
set_option linter.unusedSimpArgs false
namespace Go.Proofs.YtbmjekekpmabbaaDoor.P
open Go.RowKit Go.Proofs.YtbmjekekpmabbaaDoorW.PrintWords Go.Proofs.YtbmjekekpmabbaaDoorW.PrintLast Go.Proofs.YtbmjekekpmabbaaDoorW.PrintMore

structure AskV where
  kind : Int
  id : Int
  fr : Int
  tt : Int
  snap : Int
  text : ByteArray
def zeroV : AskV := ⟨0, 0, 0, 0, 0, ⟨#[]⟩⟩
def AskV.cells (a : AskV) : Array Value := #[.int .i64 a.kind, .int .i64 a.id, .int .i64 a.fr, .int .i64 a.tt, .int .i64 a.snap, .string a.text]
def AskV.val (a : AskV) : Value := .agg a.cells
def AskV.ok (a : AskV) : Bool := askB a.kind a.id a.fr a.tt a.snap a.text
def AskV.setN (a : AskV) (c v : Int) : AskV := if c = 105 then { a with id := v } else if c = 102 then { a with fr := v } else if c = 111 then { a with tt := v } else { a with snap := v }
def fOf (c : Int) : Nat := if c = 105 then 1 else if c = 102 then 2 else if c = 111 then 3 else 4
def fillL : List Int → List ByteArray → AskV → Option AskV
  | c :: cs, w :: ws, a => if c = 116 then (textP w).bind (fun t => fillL cs ws { a with text := t }) else (numP w).bind (fun n => fillL cs ws (a.setN c n))
  | _, _, a => some a
def kindTo (w : ByteArray) : Nat → Int
  | 0 => 0
  | n + 1 => if ((nameOf ((n + 1 : Nat) : Int)).toList == w.toList) = true then ((n + 1 : Nat) : Int) else kindTo w n
def kindP (w : ByteArray) : Int := kindTo w 9
def wd (line : ByteArray) (i : Int) : ByteArray := rdOf ⟨#[]⟩ (wordsOf line) i
def readOf (line : ByteArray) : Option AskV :=
  if (wordsOf line).length = 0 ∨ edgeB line = false then none
  else if kindP (wd line 0) = 0 ∨ (wordsOf line).length ≠ 1 + (hasOf (kindP (wd line 0))).size then none
  else (fillL (bytesOf (hasOf (kindP (wd line 0)))) ((wordsOf line).drop 1) { zeroV with kind := kindP (wd line 0) }).bind fun a => if a.ok = true then some a else none
def outOf : Option AskV → Value
  | some a => .tuple #[a.val, .bool true]
  | none => .tuple #[zeroV.val, .bool false]
theorem kindTo_rng (w : ByteArray) : ∀ n, 0 ≤ kindTo w n ∧ kindTo w n ≤ n
  | 0 => ⟨Int.le_refl _, Int.le_refl _⟩
  | n + 1 => by
    have ih := kindTo_rng w n
    unfold kindTo
    split <;> omega
def letterB (c : Int) : Bool := c == 116 || (c == 105 || (c == 102 || (c == 111 || c == 115)))
theorem letters_all (k : Int) : (bytesOf (hasOf k)).all letterB = true := by
  by_cases h : k < 0 ∨ 10 ≤ k
  · rw [(of_first k h).2]; rfl
  · have hk : k = 0 ∨ k = 1 ∨ k = 2 ∨ k = 3 ∨ k = 4 ∨ k = 5 ∨ k = 6 ∨ k = 7 ∨ k = 8 ∨ k = 9 := by omega
    rcases hk with rfl | rfl | rfl | rfl | rfl | rfl | rfl | rfl | rfl | rfl <;> decide +kernel
theorem has_size (k : Int) : (hasOf k).size ≤ 4 := by
  by_cases h : k < 0 ∨ 10 ≤ k
  · rw [(of_first k h).2]; decide
  · have hk : k = 0 ∨ k = 1 ∨ k = 2 ∨ k = 3 ∨ k = 4 ∨ k = 5 ∨ k = 6 ∨ k = 7 ∨ k = 8 ∨ k = 9 := by omega
    rcases hk with rfl | rfl | rfl | rfl | rfl | rfl | rfl | rfl | rfl | rfl <;> decide +kernel
theorem bytes_at {s : ByteArray} {k : Nat} (h : k < s.size) : (bytesOf s)[k]? = some (bt s (k : Int)) := by
  have := congrArg (fun l => l[0]?) (bytes_drop h)
  simpa using this
theorem letter_at {k : Int} {i : Nat} (h : i < (hasOf k).size) (hn : bt (hasOf k) (i : Int) ≠ 116) : bt (hasOf k) (i : Int) = 105 ∨ bt (hasOf k) (i : Int) = 102 ∨ bt (hasOf k) (i : Int) = 111 ∨ bt (hasOf k) (i : Int) = 115 := by
  have h1 := List.all_eq_true.1 (letters_all k) _ (List.mem_of_getElem? (bytes_at h))
  unfold letterB at h1
  simp only [Bool.or_eq_true, beq_iff_eq] at h1
  omega
theorem setN_cells (a : AskV) (c v : Int) (hc : c = 105 ∨ c = 102 ∨ c = 111 ∨ c = 115) : (a.setN c v).cells = a.cells.setIfInBounds (fOf c) (.int .i64 v) := by
  rcases hc with rfl | rfl | rfl | rfl <;> rfl
theorem setT_cells (a : AskV) (t : ByteArray) : ({ a with text := t } : AskV).cells = a.cells.setIfInBounds 5 (.string t) := rfl
theorem setK_cells (a : AskV) (k : Int) : ({ a with kind := k } : AskV).cells = a.cells.setIfInBounds 0 (.int .i64 k) := rfl
theorem fillL_step {has : ByteArray} {ws : List ByteArray} {i : Nat} {a : AskV} (h : i < has.size) (hw : i < ws.length) : fillL ((bytesOf has).drop i) (ws.drop i) a =
    if bt has (i : Int) = 116 then (textP (rdOf ⟨#[]⟩ ws (i : Int))).bind (fun t => fillL ((bytesOf has).drop (i + 1)) (ws.drop (i + 1)) { a with text := t }) else (numP (rdOf ⟨#[]⟩ ws (i : Int))).bind (fun n => fillL ((bytesOf has).drop (i + 1)) (ws.drop (i + 1)) (a.setN (bt has (i : Int)) n)) := by
  rw [bytes_drop h, List.drop_eq_getElem_cons hw]
  have e : rdOf ⟨#[]⟩ ws (i : Int) = ws[i] := by
    unfold rdOf
    rw [Int.toNat_natCast, List.getD_eq_getElem?_getD, List.getElem?_eq_getElem hw]
    rfl
  rw [e]
  rfl
/-- A lookup in the map of a request's numbers. -/
theorem nums_found {P : Program} {K : TypeId} (hk : P.underlying K = some (.int .u8)) (B : Nat) (c : Int) (f : Nat) (ks : List (Int × Nat)) (hm : (c, f) ∈ ks) (hu : ∀ p ∈ ks, p.1 = c → p.2 = f) (w : World) : ∃ j, (Instr.findKey K (.int .u8 c) (numsE B ks)).run P w = .ok (some (j, .pointer (some ⟨B, f, none⟩))) w := by
  have key : ∀ (l : List ((Int × Nat) × Nat)) (i : Nat), (∃ p ∈ l, p.1.1 = c) → (∀ p ∈ l, p.1.1 = c → p.1.2 = f) → ∃ j, Instr.findNow (.int .u8) (.int .u8 c) (l.map (numE B)) i = some (some (j, .pointer (some ⟨B, f, none⟩))) := by
    intro l
    induction l with
    | nil => intro i h; obtain ⟨p, hp, _⟩ := h; cases hp
    | cons p l ih =>
      intro i h hu
      simp only [List.map_cons, Instr.findNow, numE, Instr.sameNow, if_true]
      by_cases hc : c = p.1.1
      · rw [beq_iff_eq.2 hc]
        exact ⟨i, by rw [hu p List.mem_cons_self hc.symm]⟩
      · rw [beq_eq_false_iff_ne.2 hc]
        refine ih (i + 1) ?_ (fun q hq => hu q (List.mem_cons_of_mem _ hq))
        obtain ⟨q, hq, he⟩ := h
        rcases List.mem_cons.1 hq with rfl | hq
        · exact absurd he.symm hc
        · exact ⟨q, hq, he⟩
  have hz : ∀ p ∈ ks.zipIdx, p.1 ∈ ks := fun p hp => by
    have := List.mem_zipIdx_iff_getElem?.1 hp
    exact List.mem_of_getElem? this
  obtain ⟨i, hi⟩ := List.getElem?_of_mem hm
  obtain ⟨j, hj⟩ := key ks.zipIdx 0 ⟨((c, f), i), List.mem_zipIdx_iff_getElem?.2 hi, rfl⟩ (fun p hp hc => hu _ (hz p hp) hc)
  exact ⟨j, Go.MapKept.run_findKey hk hj⟩
theorem nums_lookup {w : World} {M B : Nat} {ks : List (Int × Nat)} (hn : IsNums w M B ks) (hp : ks.Perm [(105, 1), (102, 2), (111, 3), (115, 4)]) (c : Int) (hc : c = 105 ∨ c = 102 ∨ c = 111 ∨ c = 115) :
    (Instr.lookup 59 (.map (some M)) (.int .u8 c) false).run Tryd.prog w = .ok (.pointer (some ⟨B, fOf c, none⟩)) w := by
  have hg : (getObj M).run Tryd.prog w = .ok (.map (numsE B ks).toArray ks.length) w := Go.MapKept.run_getObj_map hn
  have hck := fun e => Go.MapKept.run_checkKey (P := Tryd.prog) (w := w) Tryd.underlying5 (show Go.MapKept.IsKey (.int .u8) (.int .u8 c) by simp [Go.MapKept.IsKey]) e 9999
  have h4 : (c, fOf c) ∈ ([(105, 1), (102, 2), (111, 3), (115, 4)] : List (Int × Nat)) := by rcases hc with rfl | rfl | rfl | rfl <;> decide
  obtain ⟨j, hj⟩ := nums_found (P := Tryd.prog) Tryd.underlying5 B c (fOf c) ks (hp.mem_iff.2 h4) (fun p hp2 he => by
    have := hp.mem_iff.1 hp2
    simp only [List.mem_cons, List.not_mem_nil, or_false] at this
    rcases this with rfl | rfl | rfl | rfl <;> (subst he; rfl)) w
  unfold Instr.lookup
  simp [run_underlying Tryd.underlying59, hg, hck, hj, Result.andThen]
def sixSet (w : World) (g : Nat) (a : AskV) : World := (((((w.setCell ⟨g, 0, none⟩ (.int .i64 a.kind)).setCell ⟨g, 1, none⟩ (.int .i64 a.id)).setCell ⟨g, 2, none⟩ (.int .i64 a.fr)).setCell ⟨g, 3, none⟩ (.int .i64 a.tt)).setCell ⟨g, 4, none⟩ (.int .i64 a.snap)).setCell ⟨g, 5, none⟩ (.string a.text)
theorem six_blk {w : World} {g : Nat} {a0 a : AskV} (h : w.heap[g]? = some (.cells a0.cells 23 (0, 0))) : (sixSet w g a).heap[g]? = some (.cells a.cells 23 (0, 0)) :=
  blk_set (blk_set (blk_set (blk_set (blk_set (blk_set h 0 _) 1 _) 2 _) 3 _) 4 _) 5 _
theorem six_facts {w : World} {g : Nat} {a : AskV} (h : w.heap[g]? = some (.cells a.cells 23 (0, 0))) : w.cell? ⟨g, 0, none⟩ = some (.int .i64 a.kind) ∧ w.cell? ⟨g, 1, none⟩ = some (.int .i64 a.id) ∧ w.cell? ⟨g, 2, none⟩ = some (.int .i64 a.fr) ∧ w.cell? ⟨g, 3, none⟩ = some (.int .i64 a.tt) ∧ w.cell? ⟨g, 4, none⟩ = some (.int .i64 a.snap) ∧ w.cell? ⟨g, 5, none⟩ = some (.string a.text) ∧ w.frozen? ⟨g, 0, none⟩ = false ∧ w.frozen? ⟨g, 1, none⟩ = false ∧ w.frozen? ⟨g, 2, none⟩ = false ∧ w.frozen? ⟨g, 3, none⟩ = false ∧ w.frozen? ⟨g, 4, none⟩ = false ∧ w.frozen? ⟨g, 5, none⟩ = false :=
  ⟨blk_cell h 0, blk_cell h 1, blk_cell h 2, blk_cell h 3, blk_cell h 4, blk_cell h 5, blk_frozen h 0, blk_frozen h 1, blk_frozen h 2, blk_frozen h 3, blk_frozen h 4, blk_frozen h 5⟩
theorem six_below {w0 w : World} {g : Nat} {a : AskV} (h : Below w0.heap.size w0 w) (hg : w0.heap.size ≤ g) : Below w0.heap.size w0 (sixSet w g a) :=
  below_set (below_set (below_set (below_set (below_set (below_set h hg) hg) hg) hg) hg) hg
theorem split_size : ∀ (l : List UInt8), ∀ x ∈ splitL l, x.length ≤ l.length
  | [], x, h => by
    simp [splitL] at h
    simp [h]
  | c :: l, x, h => by
    have ih := split_size l
    unfold splitL at h
    split at h
    · rcases List.mem_cons.1 h with rfl | h
      · simp
      · have := ih x h
        simp
        omega
    · cases hs : splitL l with
      | nil => exact absurd hs (splitL_ne l)
      | cons y ys =>
        rw [hs] at h ih
        rcases List.mem_cons.1 h with rfl | h
        · have := ih y List.mem_cons_self
          simp
          omega
        · have := ih x (List.mem_cons_of_mem _ h)
          simp
          omega
theorem word_size (line : ByteArray) (i : Int) : (rdOf ⟨#[]⟩ (wordsOf line) i).size ≤ line.size := by
  unfold rdOf
  rw [List.getD_eq_getElem?_getD]
  cases h : (wordsOf line)[i.toNat]? with
  | none => exact Nat.zero_le _
  | some x =>
    have hm := List.mem_of_getElem? h
    unfold wordsOf splitB at hm
    obtain ⟨y, hy, rfl⟩ := List.mem_map.1 (List.mem_filter.1 hm).1
    show (ofL y).size ≤ line.size
    rw [bl_size, bl_ofL, bl_size]
    exact split_size _ y hy
theorem rd_drop (ws : List ByteArray) (i : Nat) : rdOf ⟨#[]⟩ (ws.drop 1) (i : Int) = rdOf ⟨#[]⟩ ws ((i + 1 : Nat) : Int) := by
  unfold rdOf
  rw [Int.toNat_natCast, Int.toNat_natCast, List.getD_eq_getElem?_getD, List.getD_eq_getElem?_getD, List.getElem?_drop, Nat.add_comm 1 i]
theorem reads_block {w : World} {A : Option Addr} {n : Nat} {xs : List ByteArray} (h : ReadsOf Value.string ⟨#[]⟩ w A n xs) {ad : Addr} (he : A = some ad) (hn : 0 < n) : ad.block < w.heap.size := by
  obtain ⟨ad', h1, h2⟩ := h.2.2 hn
  rw [he] at h1
  injection h1 with h1
  subst h1
  have := h2 0 hn
  exact World.block_lt_of_cell? _ _ this
theorem reads_far {w : World} {A : Option Addr} {n : Nat} {xs : List ByteArray} (h : ReadsOf Value.string ⟨#[]⟩ w A n xs) {g j : Nat} (hf : ∀ ad, A = some ad → ad.block ≠ g) (v : Value) : ReadsOf Value.string ⟨#[]⟩ (w.setCell ⟨g, j, none⟩ v) A n xs := by
  refine ⟨h.1, h.2.1, fun hn => ?_⟩
  obtain ⟨ad, h1, h2⟩ := h.2.2 hn
  refine ⟨ad, h1, fun k hk => ?_⟩
  rw [← h2 k hk]
  have hb := Below.heap_setCell w ⟨g, j, none⟩ v ad.block (hf ad h1)
  have hk2 : (ad.add k).block = ad.block := by unfold Addr.add; split <;> rfl
  have hb2 : (w.setCell ⟨g, j, none⟩ v).heap[(ad.add k).block]? = w.heap[(ad.add k).block]? := by rw [hk2]; exact hb
  unfold World.cell?
  rw [hb2]
theorem askInfo : ((Tryd.prog).info? 23).map (·.size) = some 6 := by kernel_rfl
theorem read_end {W : World} {g : Nat} {a0 : AskV} (tmps : Array Value) (o : Option AskV) (hp : tmps.getD 2 undef = .pointer (some ⟨g, 0, none⟩)) (h3 : tmps.getD 3 undef = .bool o.isSome) (h : W.heap[g]? = some (.cells (o.getD zeroV).cells 23 (0, 0))) :
    (results Tryd.f16 tmps).run Tryd.prog W = .ok (outOf o) W := by
  have := results_ct (P := Tryd.prog) (fn := Tryd.f16) (p := 2) (u := 3) (ty := 23) rfl tmps W g 23 (o.getD zeroV).cells (0, 0) _ hp h Tryd.underlying23 rfl askInfo
  rw [this, h3]
  cases o <;> rfl
end Go.Proofs.YtbmjekekpmabbaaDoor.P
