/- PagesTops returns true: its walk, its plain facts paid. No conditions. -/
import Derived.Test.YtbpcilbplgbonaaDoorTopsW
namespace Go.Proofs.YtbpcilbplgbonaaDoor.Q
open Go.RowKit Go.Proofs.YtbpcilbplgbonaaDoorW.PrintWords Go.Proofs.YtbpcilbplgbonaaDoor.Pure
theorem tops_calls (A0 : Option Addr) (c0 : Nat) (hs : List Int) (page gap : Int) (w : World)
    (hr0 : Kd.C (Kd.int .i64) w A0 hs.length hs) (hc0 : hs.length ≤ c0) (SENTS : Aside0 (SentsE w)) :
    Calls Tryd.prog 5 #[.slice A0 hs.length c0, .int .i64 page, .int .i64 gap] w fun e w' => e = .returned (.bool true) ∧ Below w.heap.size w w' := by
  obtain ⟨y, hy⟩ : ∃ y, y = hs.take 101 := ⟨_, rfl⟩
  obtain ⟨b1, b2, hb⟩ : ∃ b1 b2, breakP y page gap = (b1, b2) := ⟨_, _, rfl⟩
  rcases hc : chkP y page gap with _ | c
  · obtain ⟨L, F⟩ := fit_of hc
    have hl := (costL_out L F y.length 0 (by omega) (by omega)).2
    have hO := break_ok hc
    rw [hb] at hO
    have hb' : breakP y page gap = (outP y gap (tabP y page gap y.length) y.length 0, 0) := by unfold breakP; rw [hc]
    rw [hb] at hb'
    obtain ⟨rfl, rfl⟩ := Prod.mk.inj hb'
    refine tops_walk 400000 A0 c0 hs page gap y _ 0 w hr0 hc0 SENTS hy (shown_ok (by omega)) hb (fun h => absurd rfl h) (fun _ => hO) ⟨?_, fun _ => ⟨L.gap1, L.gap2, fun x hx => ?_⟩⟩
    · have := L.len
      omega
    · have := L.h x hx
      omega
  · have hb' : breakP y page gap = ([], c) := by unfold breakP; rw [hc]
    rw [hb] at hb'
    obtain ⟨rfl, rfl⟩ := Prod.mk.inj hb'
    have h2 := chkP_some hc
    have hz : b2 ≠ 0 := by omega
    exact tops_walk 400000 A0 c0 hs page gap y [] b2 w hr0 hc0 SENTS hy (shown_ok (by omega)) hb (fun _ => rfl) (fun h => absurd h hz) ⟨Nat.zero_le _, fun h => absurd h hz⟩
end Go.Proofs.YtbpcilbplgbonaaDoor.Q
