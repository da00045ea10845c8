/- How each kind of argument of this seat's laws is read. No conditions. -/
import Derived.Test.YtneaoicjbiebkaaDoorOpen
import Derived.Test.YtneaoicjbiebkaaDoorQ0
namespace Go.Proofs.YtneaoicjbiebkaaDoor.Q
open Go.RowKit Go.Proofs.YtneaoicjbiebkaaDoorW.PrintWords Go.Proofs.YtneaoicjbiebkaaDoor.Open
end Go.Proofs.YtneaoicjbiebkaaDoor.Q
