/- The first call of chapter 20's laws answers true, and what the functions that the laws call say, in plain Lean. Conditions: none. -/
import Derived.Test.YtbmjekekpmabbaaDoorP8
set_option linter.unusedVariables false
set_option linter.unusedSimpArgs false
namespace Go.Proofs.YtbmjekekpmabbaaDoor.P
open Go.RowKit Go.Proofs.YtbmjekekpmabbaaDoorW.PrintWords Go.Proofs.YtbmjekekpmabbaaDoorW.PrintLast Go.Proofs.YtbmjekekpmabbaaDoorW.PrintMore

set_option maxRecDepth 100000 in
theorem alive_ok : scriniumlaw20_alive.f 6 = some true := by decide +kernel
theorem alive_at (k : Nat) (h : 6 ≤ k) : scriniumlaw20_alive.f k = some true := at_rounds (fun k => scriniumlaw20_alive.mono k) h alive_ok
end Go.Proofs.YtbmjekekpmabbaaDoor.P
