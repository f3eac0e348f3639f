/- The functions Get and Read of package ask, told in the print's form. Conditions: none. -/
import Derived.Test.YtbmjekekpmabbaaDoorAskGet
import Derived.Test.YtbmjekekpmabbaaDoorAskRead
set_option linter.unusedVariables false
set_option linter.unusedSimpArgs false
namespace Go.Proofs.YtbmjekekpmabbaaDoor.P
open Go.RowKit Go.Proofs.YtbmjekekpmabbaaDoorW.PrintWords Go.Proofs.YtbmjekekpmabbaaDoorW.PrintLast Go.Proofs.YtbmjekekpmabbaaDoorW.PrintMore

def tupOf (o : Option AskV) : Int × Int × Int × Int × Int × ByteArray × Bool := ((o.getD zeroV).kind, (o.getD zeroV).id, (o.getD zeroV).fr, (o.getD zeroV).tt, (o.getD zeroV).snap, (o.getD zeroV).text, o.isSome)
def ask_Read.f (a0 : ByteArray) : Option (Int × Int × Int × Int × Int × ByteArray × Bool) := if a0.size ≤ 1000000 then some (tupOf (readOf a0)) else none
def ask_Get.f (a0 : ByteArray) : Option (Int × Int × Int × Int × Int × ByteArray × Bool) := if a0.size ≤ 1000000 then some (tupOf (getOf a0)) else none
theorem out_tup {o : Option AskV} {r1 r2 r3 r4 r5 : Int} {r6 : ByteArray} {r7 : Bool} (h : tupOf o = (r1, r2, r3, r4, r5, r6, r7)) : outOf o = .tuple #[.agg #[.int .i64 r1, .int .i64 r2, .int .i64 r3, .int .i64 r4, .int .i64 r5, .string r6], .bool r7] := by
  unfold tupOf at h
  injection h with h1 h
  injection h with h2 h
  injection h with h3 h
  injection h with h4 h
  injection h with h5 h
  injection h with h6 h7
  subst h1 h2 h3 h4 h5 h6 h7
  cases o <;> rfl
theorem ask_Read.calls (a0 : ByteArray) (r1 r2 r3 r4 r5 : Int) (r6 : ByteArray) (r7 : Bool) (w : World) (h : ask_Read.f a0 = some (r1, r2, r3, r4, r5, r6, r7)) :
    Calls Tryd.prog 16 #[.string a0] w fun e w' => e = .returned (.tuple #[.agg #[.int .i64 r1, .int .i64 r2, .int .i64 r3, .int .i64 r4, .int .i64 r5, .string r6], .bool r7]) ∧ Below w.heap.size w w' := by
  unfold ask_Read.f at h
  split at h
  · rename_i hs
    rw [← out_tup (Option.some.inj h)]
    exact read_calls a0 w hs
  · cases h
theorem ask_Get.calls (a0 : ByteArray) (r1 r2 r3 r4 r5 : Int) (r6 : ByteArray) (r7 : Bool) (w : World) (h : ask_Get.f a0 = some (r1, r2, r3, r4, r5, r6, r7)) :
    Calls Tryd.prog 14 #[.string a0] w fun e w' => e = .returned (.tuple #[.agg #[.int .i64 r1, .int .i64 r2, .int .i64 r3, .int .i64 r4, .int .i64 r5, .string r6], .bool r7]) ∧ Below w.heap.size w w' := by
  unfold ask_Get.f at h
  split at h
  · rename_i hs
    rw [← out_tup (Option.some.inj h)]
    exact get_calls a0 w hs
  · cases h
end Go.Proofs.YtbmjekekpmabbaaDoor.P
