/- Events as values: whose reply tells nothing but one number. Conditions: none. -/
import Derived.Test.YtgnmpfjpcdidjaaP4
import Derived.Test.YtgnmpfjpcdidjaaAskWalk
set_option linter.unusedVariables false
set_option linter.unusedSimpArgs false
namespace Go.Proofs.Ytgnmpfjpcdidjaa.P
open Go.RowKit Go.Proofs.YtgnmpfjpcdidjaaW.PrintWords Go.Proofs.YtgnmpfjpcdidjaaW.PrintLast Go.Proofs.YtgnmpfjpcdidjaaW.PrintMore

/-- An event whose reply tells nothing but one number. -/
structure Ev where
  client : Int
  ret : Bool
  now : Int
  kind : Int
  id : Int
  fr : Int
  tt : Int
  snap : Int
  text : ByteArray
  n : Int
def repCellsN (n : Int) : List Value := [.int .i64 0, .int .i64 0, .int .i64 n, .string ⟨#[]⟩, .slice none 0 0, .slice none 0 0, .slice none 0 0, .complex .f64 0 0]
def Ev.val (e : Ev) : Value := .agg #[.int .i64 e.client, .bool e.ret, .int .i64 e.now, .int .i64 e.kind, .int .i64 e.id, .int .i64 e.fr, .int .i64 e.tt, .int .i64 e.snap, .string e.text, .int .i64 0, .int .i64 0, .int .i64 e.n, .string ⟨#[]⟩, .slice none 0 0, .slice none 0 0, .slice none 0 0, .complex .f64 0 0]

end Go.Proofs.Ytgnmpfjpcdidjaa.P
