/- MeterTells returns true: its walk, its plain facts paid. No conditions. -/
import Derived.Test.YtbncdlnnjhadgaaMTW
import Derived.Test.YtbncdlnnjhadgaaKinds
namespace Go.Proofs.Ytbncdlnnjhadgaa.Q
open Go.RowKit Go.Proofs.YtbncdlnnjhadgaaW.PrintWords Go.Proofs.YtbncdlnnjhadgaaW.PrintMore Go.Proofs.Ytbncdlnnjhadgaa.Open
def wf26 (x : S26) : Prop := ((Lit.int .i64 x.f0).wf = true) ∧ ((Lit.int .i64 x.f1).wf = true)
theorem opens26 : Opens Try.prog 26 k26 wf26 :=
  Opens.mono_ (opens_struct Try.underlying26 (by kernel_rfl) (opensF_cons (opens_int Try.underlying3) rfl (by kernel_rfl) (opensF_one (opens_int Try.underlying3) rfl (by kernel_rfl))) (fun x : S26 => (x.f0, x.f1)) (fun a => ⟨a.1, a.2⟩) (fun _ => rfl)) (fun _ h => h)
theorem okM_of {n d : Int} {l : List Int} (h : GM n d l) : okM ⟨n, d, l⟩ := by
  have h1 := h.n1
  have h2 := h.n2
  have h3 := h.d64
  have h4 := h.len
  exact ⟨by unfold i64; simp only; omega, by unfold i64; simp only; omega, by simp only; omega⟩
theorem okM_wf {x : S24} (h : wf24 x) : okM x := ⟨i64_of h.1, i64_of h.2.1, by have := h.2.2.1; omega⟩
theorem mtells_calls (x b : S24) (A0 A1 : Option Addr) (c0 c1 : Nat) (g : Bool) (y z : S26) (k n o : Int) (w : World)
    (hr0 : Kd.C (Kd.int .i64) w A0 x.f2.length x.f2) (hc0 : x.f2.length ≤ c0) (hr1 : Kd.C (Kd.int .i64) w A1 b.f2.length b.f2) (hc1 : b.f2.length ≤ c1)
    (wx : wf24 x) (wb : wf24 b) (wy : wf26 y) (wz : wf26 z) (wk : (Lit.int .i64 k).wf = true) (wn : (Lit.int .i64 n).wf = true) (wo : (Lit.int .i64 o).wf = true) :
    Calls Try.prog 3 #[.agg #[.int .i64 x.f0, .int .i64 x.f1, .slice A0 x.f2.length c0], .agg #[.int .i64 b.f0, .int .i64 b.f1, .slice A1 b.f2.length c1], .bool g, .agg #[.int .i64 y.f0, .int .i64 y.f1], .agg #[.int .i64 z.f0, .int .i64 z.f1], .int .i64 k, .int .i64 n, .int .i64 o] w fun e w' => e = .returned (.bool true) ∧ Below w.heap.size w w' := by
  obtain ⟨n1, d1, G1, hm1, g1, _, _⟩ := meter_f (i64_of wx.1) (i64_of wx.2.1) (fun y hy => i64_of (wx.2.2.2 y hy)) (by have := wx.2.2.1; omega) g (k := 80) (by omega)
  obtain ⟨n2, d2, G2, hm2, g2, _, _⟩ := meter_f (i64_of wb.1) (i64_of wb.2.1) (fun y hy => i64_of (wb.2.2.2 y hy)) (by have := wb.2.2.1; omega) (!g) (k := 80) (by omega)
  obtain ⟨D1, t1, x1, y1, hp1, _, _, _, _, _, ha1⟩ := place_f g1 (i64_of wk) (i64_of wo) (k := 1) (by omega)
  obtain ⟨D2, t2, x2, y2, hp2, _, _, _, _, _, ha2⟩ := place_f g1 (i64_of wn) (i64_of wo) (k := 1) (by omega)
  exact tells_walk x b A0 A1 c0 c1 g y z k n o w hr0 hc0 hr1 hc1 ⟨n1, d1, G1⟩ ⟨n2, d2, G2⟩ 80 hm1 hm2 ⟨okM_wf wx, okM_wf wb, okM_of g1, okM_of g2⟩ ⟨⟨i64_of wy.1, i64_of wy.2⟩, ⟨i64_of wz.1, i64_of wz.2⟩⟩ ⟨x1, y1⟩ ⟨x2, y2⟩ 1 1 hp1 hp2 ⟨ha1.1.w, ha2.1.w⟩
end Go.Proofs.Ytbncdlnnjhadgaa.Q
