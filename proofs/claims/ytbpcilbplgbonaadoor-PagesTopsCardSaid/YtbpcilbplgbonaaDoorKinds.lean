/- How each kind of argument of this seat's laws is read. No conditions. -/
import Derived.Test.YtbpcilbplgbonaaDoorOpen
import Derived.Test.YtbpcilbplgbonaaDoorQ0
namespace Go.Proofs.YtbpcilbplgbonaaDoor.Q
open Go.RowKit Go.Proofs.YtbpcilbplgbonaaDoorW.PrintWords Go.Proofs.YtbpcilbplgbonaaDoor.Open
end Go.Proofs.YtbpcilbplgbonaaDoor.Q
