/- typesLists_holds: a part of the proof that the law returns true for every input. No condition. -/
import Derived.Test.YtfpianecohobjaaVPx0
import Derived.Test.YtfpianecohobjaaVPx10
import Derived.Test.YtfpianecohobjaaVPx11
import Derived.Test.YtfpianecohobjaaVPx20
import Derived.Test.YtfpianecohobjaaVPx21
import Derived.Test.YtfpianecohobjaaVPx22
namespace Go.Proofs.Ytfpianecohobjaa.P
open Go.RowKit Go.Proofs.YtfpianecohobjaaW.PrintWords Go.Proofs.YtfpianecohobjaaW.PrintLast Go.Proofs.YtfpianecohobjaaW.PrintMore
set_option linter.unusedVariables false
set_option linter.unusedSimpArgs false
end Go.Proofs.Ytfpianecohobjaa.P
