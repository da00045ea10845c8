/- How each kind of argument of this seat's laws is read. No conditions. -/
import Derived.Test.YtbncdlnnjhadgaaOpen
import Derived.Test.YtbncdlnnjhadgaaQ0
namespace Go.Proofs.Ytbncdlnnjhadgaa.Q
open Go.RowKit Go.Proofs.YtbncdlnnjhadgaaW.PrintWords Go.Proofs.Ytbncdlnnjhadgaa.Open
/-- What is known of such a value that came in. -/
def wf24 (x : S24) : Prop := ((Lit.int .i64 x.f0).wf = true) ∧ ((Lit.int .i64 x.f1).wf = true) ∧ (x.f2.length * 8 ≤ 140737488351232 ∧ ∀ y ∈ x.f2, (Lit.int .i64 y).wf = true)
theorem opens24 : Opens Try.prog 24 k24 wf24 :=
  Opens.mono_ (opens_struct Try.underlying24 (by kernel_rfl) (opensF_cons (opens_int Try.underlying3) rfl (by kernel_rfl) (opensF_cons (opens_int Try.underlying3) rfl (by kernel_rfl) (opensF_one (opens_slice (e := 3) Try.underlying22 (by kernel_rfl) (B := 8) (by kernel_rfl) (opens_int Try.underlying3)) rfl (by kernel_rfl)))) (fun x : S24 => (x.f0, x.f1, x.f2)) (fun a => ⟨a.1, a.2.1, a.2.2⟩) (fun _ => rfl)) (fun _ h => h)
/-- What is known of such a value that came in. -/
def wf50 (x : S50) : Prop := ((Lit.int .i64 x.f0).wf = true) ∧ ((Lit.int .i64 x.f1).wf = true) ∧ ((Lit.int .i64 x.f2).wf = true)
theorem opens50 : Opens Try.prog 50 k50 wf50 :=
  Opens.mono_ (opens_array Try.underlying50 (by kernel_rfl) (opensF_cons (opens_int Try.underlying3) (by kernel_rfl) (by kernel_rfl) (opensF_cons (opens_int Try.underlying3) (by kernel_rfl) (by kernel_rfl) (opensF_one (opens_int Try.underlying3) (by kernel_rfl) (by kernel_rfl)))) (fun x : S50 => (x.f0, x.f1, x.f2)) (fun a => ⟨a.1, a.2.1, a.2.2⟩) (fun _ => rfl)) (fun _ h => h)
end Go.Proofs.Ytbncdlnnjhadgaa.Q
