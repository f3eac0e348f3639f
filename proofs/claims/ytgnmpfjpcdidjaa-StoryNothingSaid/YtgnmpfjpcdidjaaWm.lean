/- A few small laws beside the print's words, so that a claim needs fewer texts: rows of one's own, rows of bare cells, the shape of an operation, a drawn region's next operation. Conditions: those of each law. -/
import Derived.Test.YtgnmpfjpcdidjaaWWords
import Derived.Test.YtgnmpfjpcdidjaaWTab
import Derived.Test.YtgnmpfjpcdidjaaWFour
import Derived.Test.YtgnmpfjpcdidjaaWGuard
import Derived.Test.YtgnmpfjpcdidjaaWEqStruct
set_option linter.unusedVariables false
namespace Go.Proofs.YtgnmpfjpcdidjaaW.PrintMore
open Go.RowKit Go.Proofs.YtgnmpfjpcdidjaaW.PrintWords Go.Proofs.YtgnmpfjpcdidjaaW.PrintLast
section
variable {P : Program} {ops : Array Oper} {o : Oper} {l : List Oper} {a : Act} {w : World} {Q : Exit → Act → World → Prop}
/-- It calls this function. -/
theorem gate_callee {f : FuncId} {as : Array Operand} {ts : Array TypeId} (_ : o.op = .call { callee := .value (.func f), args := as, argTypes := ts }) (h : wpList P ops Q (o :: l) a w) : wpList P ops Q (o :: l) a w := h
/-- It calls this builtin, of these operands. -/
theorem gate_builtin {b : Builtin} {xs : Array Operand} {ts : Array TypeId} (_ : o.op = .call { callee := .builtin b, args := xs, argTypes := ts }) (h : wpList P ops Q (o :: l) a w) : wpList P ops Q (o :: l) a w := h
end
end Go.Proofs.YtgnmpfjpcdidjaaW.PrintMore
namespace Go.Proofs.YtgnmpfjpcdidjaaW.PrintWords.Kd
open Go.RowKit
section
variable {α : Type} {d : Kd α} {e base : Nat} {ok : Nat → Prop} {w w1 : World} {v : Value} {xs : List α}
/-- A row of one's own begins where its block does. -/
theorem R_head {ad : Addr} {n cap : Nat} (h : d.R e w base ok (.slice (some ad) n cap) xs) : ∃ g, ad = ⟨g, 0, none⟩ := by
  rcases h.2 with ⟨_, ho, _⟩
  rcases ho.2 with ⟨hv, _⟩ | ⟨g, _, _, hv, _⟩
  · simp at hv
  · exact ⟨g, by simp only [Value.slice.injEq, Option.some.injEq] at hv; exact hv.1⟩
/-- Where elements lead nowhere, a row's blocks are its own one. -/
theorem R_tight (hE : d.E = []) (h : d.R e w base ok v xs) : d.R e w base (fun k => some k = v.ownBlock) v xs := by
  rcases h with ⟨_, inner, ho, hr⟩
  exact ⟨fun k hk => hk.symm, inner, ho, hr.imp_ fun p c hp => d.M_mono (fun k hk => by rcases hk with ⟨_, _, _, q, hq, _⟩; simp [hE] at hq) (d.M_bound hp)⟩
/-- Another block than its own one is written, or none. -/
theorem R_grown2 (h : d.R e w base ok v xs) (hE : d.E = []) {row : Option Nat} (hg : w.grownBy w1 row) (hne : ∀ k, row = some k → some k ≠ v.ownBlock) : d.R e w1 base ok v xs :=
  R_mono (R_grown (R_tight hE h) hg fun k hk he => hne k he.symm hk) fun k hk => h.1 k hk.symm
end
/-- Elements that are nothing but their cells. -/
def raw (n : Nat) : Kd (List Value) :=
  let p := fun (x cs : List Value) => cs = x ∧ cs.length = n ∧ ∀ u ∈ cs, u.oneCell' = true
  { sz := n, E := [], K := fun _ => p, M := fun _ _ _ => p, K_len := fun h => h.2.1, K_one := fun h => h.2.2, K_below := fun _ h => h, K_of_M := fun h => h, M_mono := fun _ h => h, M_bound := fun h => h, M_move := fun _ h => h, M_lower := fun _ h => h }
end Go.Proofs.YtgnmpfjpcdidjaaW.PrintWords.Kd
namespace Go.Proofs.YtgnmpfjpcdidjaaW.PrintLast
/-- Which of n operations are done, as the bits of a number. -/
def bs (n m : Nat) : Array Bool := ((List.range n).map m.testBit).toArray
/-- The next operation, where as many are done as stand ahead of it. -/
theorem tk_ {P : Program} {md : Region.Mode} {ops : Array Oper} {Q : Exit → Act → World → Prop} {S : World → Prop} {ds : List Nat} {n m fuel : Nat} {N : Option Tmp} {oi : Oper} {v : Value} {a : Act} {w : World}
    (hi : ops[n - 1 - fuel]? = some oi) (hN : oi.dst = N) (hc : takeB md ops ds (bs n m) (bs n (m ||| 1 <<< (n - 1 - fuel))) (n - 1 - fuel) = true)
    (hQ : ∀ c a w, Q (.panic c) (a.put oi.dst v) w → Q (.panic c) a w) (hy : YieldsIf P ops S oi v a) (hS : S w) {a' : Act} (ha : a.put N v = a')
    (h : wpAnyLast P md ops Q S ds fuel (bs n (m ||| 1 <<< (n - 1 - fuel))) a' w) : wpAnyLast P md ops Q S ds (fuel + 1) (bs n m) a w :=
  take_ _ hi hN hc hQ hy hS ha h
end Go.Proofs.YtgnmpfjpcdidjaaW.PrintLast
