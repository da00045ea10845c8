/- How each kind of argument of this seat's laws is read. No conditions. -/
import Derived.Test.YtocjbedacnlaaaaGreatDoorOpen
import Derived.Test.YtocjbedacnlaaaaGreatDoorQ0
namespace Go.Proofs.YtocjbedacnlaaaaGreatDoor.Q
open Go.RowKit Go.Proofs.YtocjbedacnlaaaaGreatDoorW.PrintWords Go.Proofs.YtocjbedacnlaaaaGreatDoor.Open
/-- What is known of such a value that came in. -/
def wf29 (x : S29) : Prop := ((Lit.int .i64 x.f0).wf = true) ∧ ((Lit.int .i64 x.f1).wf = true) ∧ (x.f2.length * 8 ≤ 140737488351232 ∧ ∀ y ∈ x.f2, (Lit.int .i64 y).wf = true)
theorem opens29 : Opens Tryz.prog 29 k29 wf29 :=
  Opens.mono_ (opens_struct Tryz.underlying29 (by kernel_rfl) (opensF_cons (opens_int Tryz.underlying3) rfl (by kernel_rfl) (opensF_cons (opens_int Tryz.underlying3) rfl (by kernel_rfl) (opensF_one (opens_slice (e := 3) Tryz.underlying22 (by kernel_rfl) (B := 8) (by kernel_rfl) (opens_int Tryz.underlying3)) rfl (by kernel_rfl)))) (fun x : S29 => (x.f0, x.f1, x.f2)) (fun a => ⟨a.1, a.2.1, a.2.2⟩) (fun _ => rfl)) (fun _ h => h)
/-- What is known of such a value that came in. -/
def wf43 (x : S43) : Prop := ((Lit.int .i64 x.f0).wf = true) ∧ ((Lit.int .i64 x.f1).wf = true) ∧ ((Lit.int .i64 x.f2).wf = true)
theorem opens43 : Opens Tryz.prog 43 k43 wf43 :=
  Opens.mono_ (opens_struct Tryz.underlying43 (by kernel_rfl) (opensF_cons (opens_int Tryz.underlying3) rfl (by kernel_rfl) (opensF_cons (opens_int Tryz.underlying3) rfl (by kernel_rfl) (opensF_one (opens_int Tryz.underlying3) rfl (by kernel_rfl)))) (fun x : S43 => (x.f0, x.f1, x.f2)) (fun a => ⟨a.1, a.2.1, a.2.2⟩) (fun _ => rfl)) (fun _ h => h)
/-- What is known of such a value that came in. -/
def wf39 (x : S39) : Prop := ((Lit.int .i64 x.f0).wf = true) ∧ ((Lit.int .i64 x.f1).wf = true) ∧ ((Lit.int .i64 x.f2).wf = true) ∧ ((Lit.int .i64 x.f3).wf = true)
theorem opens39 : Opens Tryz.prog 39 k39 wf39 :=
  Opens.mono_ (opens_struct Tryz.underlying39 (by kernel_rfl) (opensF_cons (opens_int Tryz.underlying3) rfl (by kernel_rfl) (opensF_cons (opens_int Tryz.underlying3) rfl (by kernel_rfl) (opensF_cons (opens_int Tryz.underlying3) rfl (by kernel_rfl) (opensF_one (opens_int Tryz.underlying3) rfl (by kernel_rfl))))) (fun x : S39 => (x.f0, x.f1, x.f2, x.f3)) (fun a => ⟨a.1, a.2.1, a.2.2.1, a.2.2.2⟩) (fun _ => rfl)) (fun _ h => h)
/-- What is known of such a value that came in. -/
def wf41 (x : S41) : Prop := ((Lit.int .i64 x.f0).wf = true) ∧ (x.f1.length * 24 ≤ 140737488351232 ∧ ∀ y ∈ x.f1, wf43 y) ∧ (x.f2.length * 1 ≤ 140737488351232 ∧ ∀ y ∈ x.f2, True) ∧ (wf39 x.f3) ∧ (x.f4.length * 8 ≤ 140737488351232 ∧ ∀ y ∈ x.f4, (Lit.int .i64 y).wf = true) ∧ (x.f5.size ≤ 140737488351232)
theorem opens41 : Opens Tryz.prog 41 k41 wf41 :=
  Opens.mono_ (opens_struct Tryz.underlying41 (by kernel_rfl) (opensF_cons (opens_int Tryz.underlying3) rfl (by kernel_rfl) (opensF_cons (opens_slice (e := 43) Tryz.underlying36 (by kernel_rfl) (B := 24) (by kernel_rfl) opens43) rfl (by kernel_rfl) (opensF_cons (opens_slice (e := 4) Tryz.underlying37 (by kernel_rfl) (B := 1) (by kernel_rfl) (opens_bool Tryz.underlying4)) rfl (by kernel_rfl) (opensF_cons opens39 rfl (by kernel_rfl) (opensF_cons (opens_slice (e := 3) Tryz.underlying22 (by kernel_rfl) (B := 8) (by kernel_rfl) (opens_int Tryz.underlying3)) rfl (by kernel_rfl) (opensF_one (opens_string Tryz.underlying9) rfl (by kernel_rfl))))))) (fun x : S41 => (x.f0, x.f1, x.f2, x.f3, x.f4, x.f5)) (fun a => ⟨a.1, a.2.1, a.2.2.1, a.2.2.2.1, a.2.2.2.2.1, a.2.2.2.2.2⟩) (fun _ => rfl)) (fun _ h => h)
/-- What is known of such a value that came in. -/
def wf32 (x : S32) : Prop := (x.f0.length * 128 ≤ 140737488351232 ∧ ∀ y ∈ x.f0, wf41 y)
theorem opens32 : Opens Tryz.prog 32 k32 wf32 :=
  Opens.mono_ (opens_struct Tryz.underlying32 (by kernel_rfl) (opensF_one (opens_slice (e := 41) Tryz.underlying30 (by kernel_rfl) (B := 128) (by kernel_rfl) opens41) rfl (by kernel_rfl)) (fun x : S32 => x.f0) (fun a => ⟨a⟩) (fun _ => rfl)) (fun _ h => h)
end Go.Proofs.YtocjbedacnlaaaaGreatDoor.Q
