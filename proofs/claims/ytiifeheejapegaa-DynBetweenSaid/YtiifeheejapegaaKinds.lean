/- How each kind of argument of this seat's laws is read. No conditions. -/
import Derived.Test.YtiifeheejapegaaOpen
import Derived.Test.YtiifeheejapegaaQ0
namespace Go.Proofs.Ytiifeheejapegaa.Q
open Go.RowKit Go.Proofs.YtiifeheejapegaaW.PrintWords Go.Proofs.Ytiifeheejapegaa.Open
/-- What is known of such a value that came in. -/
def wf29 (x : S29) : Prop := ((Lit.int .i64 x.f0).wf = true) ∧ ((Lit.int .i64 x.f1).wf = true)
theorem opens29 : Opens Try.prog 29 k29 wf29 :=
  Opens.mono_ (opens_struct Try.underlying29 (by kernel_rfl) (opensF_cons (opens_int Try.underlying3) rfl (by kernel_rfl) (opensF_one (opens_int Try.underlying3) rfl (by kernel_rfl))) (fun x : S29 => (x.f0, x.f1)) (fun a => ⟨a.1, a.2⟩) (fun _ => rfl)) (fun _ h => h)
/-- What is known of such a value that came in. -/
def wf36 (x : S36) : Prop := (wf29 x.f0) ∧ ((Lit.int .i64 x.f1).wf = true) ∧ (True)
theorem opens36 : Opens Try.prog 36 k36 wf36 :=
  Opens.mono_ (opens_struct Try.underlying36 (by kernel_rfl) (opensF_cons opens29 rfl (by kernel_rfl) (opensF_cons (opens_int Try.underlying3) rfl (by kernel_rfl) (opensF_one (opens_bool Try.underlying4) rfl (by kernel_rfl)))) (fun x : S36 => (x.f0, x.f1, x.f2)) (fun a => ⟨a.1, a.2.1, a.2.2⟩) (fun _ => rfl)) (fun _ h => h)
/-- What is known of such a value that came in. -/
def wf38 (x : S38) : Prop := (wf29 x.f0) ∧ (wf29 x.f1)
theorem opens38 : Opens Try.prog 38 k38 wf38 :=
  Opens.mono_ (opens_array Try.underlying38 (by kernel_rfl) (opensF_cons opens29 (by kernel_rfl) (by kernel_rfl) (opensF_one opens29 (by kernel_rfl) (by kernel_rfl))) (fun x : S38 => (x.f0, x.f1)) (fun a => ⟨a.1, a.2⟩) (fun _ => rfl)) (fun _ h => h)
end Go.Proofs.Ytiifeheejapegaa.Q
