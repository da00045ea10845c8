import Derived.Test.YtbpcilbplgbonaaDoorParts
import Derived.Maps.OwnIn
import Derived.Maps.Views
namespace Go.Proofs.YtbpcilbplgbonaaDoor.Q
open Go.Maps Go.RowKit Go.Proofs.YtbpcilbplgbonaaDoorW.PrintWords Go.Proofs.YtbpcilbplgbonaaDoorW.PrintLast Go.Shelf
attribute [local go_sem] Oper.semAt_some
set_option linter.unusedVariables false
set_option linter.unusedSimpArgs false
set_option maxHeartbeats 1000000 in
set_option maxRecDepth 100000 in
theorem backward_call (A : Option Addr) (n c : Nat) (w : World) : Calls Tryd.prog 20 #[.slice A n c] w fun e w' => e = .returned (.func (.func 30) #[] #[.pointer (some ⟨w.heap.size, 0, none⟩)]) ∧ w' = w.alloc (.cells #[.slice A n c] 22) := by
  go_enter Tryd.func20, Tryd.ntmps20
  go_wp2
  go_ret
  exact ⟨rfl, rfl⟩
def itB (ws : List Int) (k : Nat) : List (Int × Int) := (List.range k).map fun (j : Nat) => ((ws.length : Int) - 1 - j, rd ws ((ws.length : Int) - 1 - j))
theorem itB_len (ws : List Int) (k : Nat) : (itB ws k).length = k := by simp [itB]
theorem itB_succ (ws : List Int) (k : Nat) : itB ws (k + 1) = itB ws k ++ [((ws.length : Int) - 1 - k, rd ws ((ws.length : Int) - 1 - k))] := by unfold itB; rw [List.range_succ, List.map_append]; rfl
abbrev encB (x : Int × Int) : Array Value := #[.int .i64 x.1, .int .i64 x.2]
set_option maxHeartbeats 2000000 in
set_option maxRecDepth 100000 in
theorem backward_stops (n : Nat) (hn : 1 ≤ n) (bm Bs cA : Nat) (A : Option Addr) (ws : List Int) (w : World) (hbs : w.heap[Bs]? = some (.cells #[.slice A ws.length cA] 22 (0, 0))) (hne : Bs ≠ bm) (hw : ws.length ≤ 1000)
    (hA : ∀ B1 w', KM w.heap.size bm B1 w w' → Kd.C (Kd.int .i64) w' A ws.length ws) :
    SeqStopsC Fence.wide n Tryd.prog 30 #[.pointer (some ⟨Bs, 0, none⟩)] encB (fun B1 => KM w.heap.size bm B1) (fun xs => xs = itB ws ws.length) (fun _ => True) (fun pre x => pre.length < ws.length ∧ x.1 = (ws.length : Int) - 1 - pre.length) w := by
  intro l J Jx W hW hJ hJx hY h0
  have lBs := blk_lt hbs
  have bs0 := (hW.block Bs lBs).trans hbs
  have hsW := hW.size
  have kW : KM w.heap.size bm W.heap.size w W := ⟨hW.os, hW.tape, hW.output, hW.size, fun i hi _ _ => hW.block i hi⟩
  have c0 : W.cell? ⟨Bs, 0, none⟩ = some (.slice A ws.length cA) := (blk_cell bs0 0).trans rfl
  refine callsIn_of_wp Tryd.func30 rfl trivial ?_ rfl
  simp only [Tryd.ntmps30, List.size_toArray, List.length_cons, List.length_nil, Nat.reduceAdd, Nat.reduceSub, Array.replicate_succ, Array.replicate_zero, List.push_toArray, List.append_toArray, List.nil_append, List.cons_append]
  have hw1 : IntKind.i64.wrap ((ws.length : Int) - 1) = (ws.length : Int) - 1 := by rw [IntKind.wrap_i64]; omega
  gi_wp2
  clear c0
  gi_loopw [3] (fun i wr => ∃ k : Nat, k ≤ ws.length ∧ i = .int .i64 ((ws.length : Int) - 1 - k) ∧ J (itB ws k) wr ∧ KM w.heap.size bm W.heap.size w wr) (fun i _ => (intOf i + 1).toNat)
  case atStart => exact ⟨0, by omega, by simp, h0, kW⟩
  case round =>
    obtain ⟨k, hk, rfl, hJs, hks⟩ := hrel
    have bs1 := (hks.2.2.2.2 Bs lBs hne (.inl lBs)).trans hbs
    have c0 : wr.cell? ⟨Bs, 0, none⟩ = some (.slice A ws.length cA) := (blk_cell bs1 0).trans rfl
    by_cases hlt : k < ws.length
    · have q0 : (0 : Int) ≤ (ws.length : Int) - 1 - k := by omega
      have q1 : (ws.length : Int) - 1 - k < (ws.length : Int) := by omega
      obtain ⟨ad, rfl, hx⟩ := Kd.at_int (hA _ wr hks) ((ws.length : Int) - 1 - k) q0 q1
      rw [show ((ws.length : Int) - 1 - k).toNat = ws.length - 1 - k by omega] at hx
      have hw2 : IntKind.i64.wrap ((ws.length : Int) - 1 - k - 1) = (ws.length : Int) - 1 - k - 1 := by rw [IntKind.wrap_i64]; omega
      obtain ⟨fn, tmps, assign, body, hy, hR⟩ := hY _ ((ws.length : Int) - 1 - k, rd ws ((ws.length : Int) - 1 - k)) wr hJs ⟨by rw [itB_len]; exact hlt, by rw [itB_len]⟩
      dsimp only [encB] at hy
      gi_wp2
      refine hR.mono ?_
      rintro e w5 (⟨rfl, hJ5, hk5⟩ | ⟨rfl, hJx5⟩)
      · rw [← itB_succ] at hJ5
        gi_wp2
        go_roundw
        case rel => exact ⟨k + 1, hlt, (by first | rfl | (congr 1; omega)), hJ5, hks.trans hk5⟩
        case measure => simp [intOf]; omega
      · gi_wp2
        refine bodyPost_ret (results_none (by rfl) _ _ _) rfl ?_
        exact ⟨⟨_, rfl⟩, .inr ⟨_, trivial, hJx5⟩⟩
    · obtain rfl : k = ws.length := by omega
      have hlt2 : ¬ ((0 : Int) ≤ (ws.length : Int) - 1 - ws.length) := by omega
      gi_wp2
      go_end0
      exact ⟨⟨_, rfl⟩, .inl hJs⟩
end Go.Proofs.YtbpcilbplgbonaaDoor.Q
