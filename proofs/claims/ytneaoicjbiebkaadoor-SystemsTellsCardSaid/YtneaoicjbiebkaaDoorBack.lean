import Derived.Test.YtneaoicjbiebkaaDoorFrom
namespace Go.Proofs.YtneaoicjbiebkaaDoor.Q
open Go.Maps Go.RowKit Go.Proofs.YtneaoicjbiebkaaDoorW.PrintWords Go.Proofs.YtneaoicjbiebkaaDoorW.PrintLast Go.Shelf
attribute [local go_sem] Oper.semAt_some
set_option linter.unusedVariables false
set_option linter.unusedSimpArgs false
set_option maxHeartbeats 1000000 in
set_option maxRecDepth 100000 in
theorem backward_call (A : Option Addr) (n c : Nat) (w : World) : Calls Tryd.prog 23 #[.slice A n c] w fun e w' => e = .returned (.func (.func 29) #[] #[.pointer (some ⟨w.heap.size, 0, none⟩)]) ∧ w' = w.alloc (.cells #[.slice A n c] 22) := by
  go_enter Tryd.func23, Tryd.ntmps23
  go_wp2
  go_ret
  exact ⟨rfl, rfl⟩
/-- All as it lay, but for one block and what lies between two places. -/
def KM (n0 bm B1 : Nat) (X Y : World) : Prop := Y.os = X.os ∧ Y.tape = X.tape ∧ Y.output = X.output ∧ X.heap.size ≤ Y.heap.size ∧ ∀ i, i < X.heap.size → i ≠ bm → (i < n0 ∨ B1 ≤ i) → Y.heap[i]? = X.heap[i]?
theorem KM.trans {n0 bm B1 : Nat} {X Y Z : World} (h : KM n0 bm B1 X Y) (g : KM n0 bm B1 Y Z) : KM n0 bm B1 X Z :=
  ⟨g.1.trans h.1, g.2.1.trans h.2.1, g.2.2.1.trans h.2.2.1, Nat.le_trans h.2.2.2.1 g.2.2.2.1, fun i hi h1 h2 => (g.2.2.2.2 i (by have := h.2.2.2.1; omega) h1 h2).trans (h.2.2.2.2 i hi h1 h2)⟩
theorem KM.refl {n0 bm B1 : Nat} (X : World) : KM n0 bm B1 X X := ⟨rfl, rfl, rfl, Nat.le_refl _, fun _ _ _ _ => rfl⟩
theorem KM.mono {n0 bm B1 B2 : Nat} {X Y : World} (h : KM n0 bm B1 X Y) (hb : B1 ≤ B2) : KM n0 bm B2 X Y := ⟨h.1, h.2.1, h.2.2.1, h.2.2.2.1, fun i hi h1 h2 => h.2.2.2.2 i hi h1 (by omega)⟩
def itB (ws : List Int) (k : Nat) : List (Int × Int) := (List.range k).map fun (j : Nat) => ((ws.length : Int) - 1 - j, rd ws ((ws.length : Int) - 1 - j))
theorem itB_len (ws : List Int) (k : Nat) : (itB ws k).length = k := by simp [itB]
theorem itB_succ (ws : List Int) (k : Nat) : itB ws (k + 1) = itB ws k ++ [((ws.length : Int) - 1 - k, rd ws ((ws.length : Int) - 1 - k))] := by unfold itB; rw [List.range_succ, List.map_append]; rfl
abbrev encB (x : Int × Int) : Array Value := #[.int .i64 x.1, .int .i64 x.2]
set_option maxHeartbeats 2000000 in
set_option maxRecDepth 100000 in
theorem backward_stops (n : Nat) (hn : 1 ≤ n) (bm Bs cA : Nat) (A : Option Addr) (ws : List Int) (w : World) (hbs : w.heap[Bs]? = some (.cells #[.slice A ws.length cA] 22 (0, 0))) (hne : Bs ≠ bm) (hw : ws.length ≤ 1000)
    (hA : ∀ B1 w', KM w.heap.size bm B1 w w' → Kd.C (Kd.int .i64) w' A ws.length ws) :
    SeqStopsC Fence.wide n Tryd.prog 29 #[.pointer (some ⟨Bs, 0, none⟩)] encB (fun B1 => KM w.heap.size bm B1) (fun xs => xs = itB ws ws.length) (fun _ => True) (fun pre x => pre.length < ws.length ∧ x.1 = (ws.length : Int) - 1 - pre.length) w := by
  intro l J Jx W hW hJ hJx hY h0
  have lBs := blk_lt hbs
  have bs0 := (hW.block Bs lBs).trans hbs
  have hsW := hW.size
  have kW : KM w.heap.size bm W.heap.size w W := ⟨hW.os, hW.tape, hW.output, hW.size, fun i hi _ _ => hW.block i hi⟩
  have c0 : W.cell? ⟨Bs, 0, none⟩ = some (.slice A ws.length cA) := (blk_cell bs0 0).trans rfl
  refine callsIn_of_wp Tryd.func29 rfl trivial ?_ rfl
  simp only [Tryd.ntmps29, List.size_toArray, List.length_cons, List.length_nil, Nat.reduceAdd, Nat.reduceSub, Array.replicate_succ, Array.replicate_zero, List.push_toArray, List.append_toArray, List.nil_append, List.cons_append]
  have hw1 : IntKind.i64.wrap ((ws.length : Int) - 1) = (ws.length : Int) - 1 := by rw [IntKind.wrap_i64]; omega
  gi_wp2
  clear c0
  gi_loopw [3] (fun i wr => ∃ k : Nat, k ≤ ws.length ∧ i = .int .i64 ((ws.length : Int) - 1 - k) ∧ J (itB ws k) wr ∧ KM w.heap.size bm W.heap.size w wr) (fun i _ => (intOf i + 1).toNat)
  case atStart => exact ⟨0, by omega, by simp, h0, kW⟩
  case round =>
    obtain ⟨k, hk, rfl, hJs, hks⟩ := hrel
    have bs1 := (hks.2.2.2.2 Bs lBs hne (.inl lBs)).trans hbs
    have c0 : wr.cell? ⟨Bs, 0, none⟩ = some (.slice A ws.length cA) := (blk_cell bs1 0).trans rfl
    by_cases hlt : k < ws.length
    · have q0 : (0 : Int) ≤ (ws.length : Int) - 1 - k := by omega
      have q1 : (ws.length : Int) - 1 - k < (ws.length : Int) := by omega
      obtain ⟨ad, rfl, hx⟩ := Kd.at_int (hA _ wr hks) ((ws.length : Int) - 1 - k) q0 q1
      rw [show ((ws.length : Int) - 1 - k).toNat = ws.length - 1 - k by omega] at hx
      have hw2 : IntKind.i64.wrap ((ws.length : Int) - 1 - k - 1) = (ws.length : Int) - 1 - k - 1 := by rw [IntKind.wrap_i64]; omega
      obtain ⟨fn, tmps, assign, body, hy, hR⟩ := hY _ ((ws.length : Int) - 1 - k, rd ws ((ws.length : Int) - 1 - k)) wr hJs ⟨by rw [itB_len]; exact hlt, by rw [itB_len]⟩
      dsimp only [encB] at hy
      gi_wp2
      refine hR.mono ?_
      rintro e w5 (⟨rfl, hJ5, hk5⟩ | ⟨rfl, hJx5⟩)
      · rw [← itB_succ] at hJ5
        gi_wp2
        go_roundw
        case rel => exact ⟨k + 1, hlt, (by first | rfl | (congr 1; omega)), hJ5, hks.trans hk5⟩
        case measure => simp [intOf]; omega
      · gi_wp2
        refine bodyPost_ret (results_none (by rfl) _ _ _) rfl ?_
        exact ⟨⟨_, rfl⟩, .inr ⟨_, trivial, hJx5⟩⟩
    · obtain rfl : k = ws.length := by omega
      have hlt2 : ¬ ((0 : Int) ≤ (ws.length : Int) - 1 - ws.length) := by omega
      gi_wp2
      go_end0
      exact ⟨⟨_, rfl⟩, .inl hJs⟩
end Go.Proofs.YtneaoicjbiebkaaDoor.Q
