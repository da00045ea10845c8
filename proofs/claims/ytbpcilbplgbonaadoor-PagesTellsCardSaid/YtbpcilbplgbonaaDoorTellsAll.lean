/- PagesTells returns true: its walk, its plain facts paid. No conditions. -/
import Derived.Test.YtbpcilbplgbonaaDoorTells
namespace Go.Proofs.YtbpcilbplgbonaaDoor.Q
open Go.RowKit Go.Proofs.YtbpcilbplgbonaaDoorW.PrintWords Go.Proofs.YtbpcilbplgbonaaDoor.Pure
theorem tells_calls (A0 : Option Addr) (c0 : Nat) (hs : List Int) (page gap : Int) (A3 : Option Addr) (c3 : Nat) (l : List S37) (w : World)
    (hr0 : Kd.C (Kd.int .i64) w A0 hs.length hs) (hc0 : hs.length ≤ c0) (hr3 : Kd.C k37 w A3 l.length l) (hc3 : l.length ≤ c3) (SENTS : Aside0 (SentsE w)) :
    Calls Tryd.prog 3 #[.slice A0 hs.length c0, .int .i64 page, .int .i64 gap, .slice A3 l.length c3] w fun e w' => e = .returned (.bool true) ∧ Below w.heap.size w w' := by
  obtain ⟨y, hy⟩ : ∃ y, y = hs.take 101 := ⟨_, rfl⟩
  obtain ⟨m, hm⟩ : ∃ m, m = fewPg l := ⟨_, rfl⟩
  have hyl : y.length ≤ 101 := by rw [hy, List.length_take]; omega
  have hml : m.length ≤ 110 := by rw [hm]; unfold fewPg; rw [List.length_map, List.length_take]; omega
  obtain ⟨b1, b2, hb⟩ : ∃ b1 b2, breakP y page gap = (b1, b2) := ⟨_, _, rfl⟩
  obtain ⟨q1, q2, hq⟩ : ∃ q1 q2, costF m y page gap = (q1, q2) := ⟨_, _, rfl⟩
  have hb1 : b1.length ≤ 200 ∧ ∀ x ∈ b1, x.f2.length ≤ 1000 := by
    have e : b1 = (breakP y page gap).1 := by rw [hb]
    rw [e]
    unfold breakP
    rcases hc : chkP y page gap with _ | c
    · obtain ⟨L, F⟩ := fit_of hc
      have h2 := (costL_out L F y.length 0 (by omega) (by omega)).2
      exact ⟨by show (outP y gap _ _ _).length ≤ 200; omega, fun x hx => (out_tops L F y.length 0 (by omega) x hx).1⟩
    · exact ⟨by simp, fun x hx => by simp at hx⟩
  exact tells_walk 400000 A0 c0 hs page gap A3 c3 l y m b1 b2 q1 q2 w hr0 hc0 hr3 hc3 SENTS hy hm (shown_ok (by omega)) hb
    ((refBreak_f y page gap (by omega) (by omega)).trans (by rw [hb])) ((Cost_f m (by omega) y page gap 400000 (by omega)).trans (by rw [hq]))
    ((refCost_f m (by omega) y (by omega) page gap 400000 (by omega)).trans (by rw [hq])) (Same_refl b1 hb1.1 hb1.2 400000 (by omega))
end Go.Proofs.YtbpcilbplgbonaaDoor.Q
