/- How each kind of argument of this seat's laws is read. No conditions. -/
import Derived.Test.YtchjlkokfgmjaaaOpen
import Derived.Test.YtchjlkokfgmjaaaQ0
namespace Go.Proofs.Ytchjlkokfgmjaaa.Q
open Go.RowKit Go.Proofs.YtchjlkokfgmjaaaW.PrintWords Go.Proofs.Ytchjlkokfgmjaaa.Open
/-- What is known of such a value that came in. -/
def wf27 (x : S27) : Prop := ((Lit.int .i64 x.f0).wf = true) ∧ ((Lit.int .i64 x.f1).wf = true)
theorem opens27 : Opens Try.prog 27 k27 wf27 :=
  Opens.mono_ (opens_struct Try.underlying27 (by kernel_rfl) (opensF_cons (opens_int Try.underlying3) rfl (by kernel_rfl) (opensF_one (opens_int Try.underlying3) rfl (by kernel_rfl))) (fun x : S27 => (x.f0, x.f1)) (fun a => ⟨a.1, a.2⟩) (fun _ => rfl)) (fun _ h => h)
/-- What is known of such a value that came in. -/
def wf36 (x : S36) : Prop := (wf27 x.f0) ∧ ((Lit.int .i64 x.f1).wf = true) ∧ (True)
theorem opens36 : Opens Try.prog 36 k36 wf36 :=
  Opens.mono_ (opens_struct Try.underlying36 (by kernel_rfl) (opensF_cons opens27 rfl (by kernel_rfl) (opensF_cons (opens_int Try.underlying3) rfl (by kernel_rfl) (opensF_one (opens_bool Try.underlying4) rfl (by kernel_rfl)))) (fun x : S36 => (x.f0, x.f1, x.f2)) (fun a => ⟨a.1, a.2.1, a.2.2⟩) (fun _ => rfl)) (fun _ h => h)
end Go.Proofs.Ytchjlkokfgmjaaa.Q
