/- How each kind of argument of this seat's laws is read. No conditions. -/
import Derived.Test.YtllccnijipgncaaDoorOpen
import Derived.Test.YtllccnijipgncaaDoorQ0
namespace Go.Proofs.YtllccnijipgncaaDoor.Q
open Go.RowKit Go.Proofs.YtllccnijipgncaaDoorW.PrintWords Go.Proofs.YtllccnijipgncaaDoor.Open
/-- What is known of such a value that came in. -/
def wf35 (x : S35) : Prop := ((Lit.int .i64 x.f0).wf = true) ∧ (x.f1.size ≤ 140737488351232) ∧ ((Lit.int .i64 x.f2).wf = true)
theorem opens35 : Opens Tryd.prog 35 k35 wf35 :=
  Opens.mono_ (opens_struct Tryd.underlying35 (by kernel_rfl) (opensF_cons (opens_int Tryd.underlying3) rfl (by kernel_rfl) (opensF_cons (opens_string Tryd.underlying9) rfl (by kernel_rfl) (opensF_one (opens_int Tryd.underlying3) rfl (by kernel_rfl)))) (fun x : S35 => (x.f0, x.f1, x.f2)) (fun a => ⟨a.1, a.2.1, a.2.2⟩) (fun _ => rfl)) (fun _ h => h)
end Go.Proofs.YtllccnijipgncaaDoor.Q
