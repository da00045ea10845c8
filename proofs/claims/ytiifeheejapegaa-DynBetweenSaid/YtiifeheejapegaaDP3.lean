/- What the laws on dynamics begin with is so. No conditions. -/
import Derived.Test.YtiifeheejapegaaQ6
import Derived.Test.YtiifeheejapegaaQ7
namespace Go.Proofs.Ytiifeheejapegaa.Q
open Go.RowKit Go.Proofs.YtiifeheejapegaaW.PrintWords Go.Proofs.YtiifeheejapegaaW.PrintMore
theorem awake200 : partitalaw12_awake.f 200 = some true := by decide +kernel
theorem awake_f {k : Nat} (hk : 200 ≤ k) : partitalaw12_awake.f k = some true := at_rounds partitalaw12_awake.mono hk awake200
end Go.Proofs.Ytiifeheejapegaa.Q
