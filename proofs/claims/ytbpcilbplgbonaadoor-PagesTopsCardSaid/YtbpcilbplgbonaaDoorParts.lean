/- The iterator over the parts that may stand on a page. -/
import Derived.Test.YtbpcilbplgbonaaDoorPg
import Derived.Test.YtbpcilbplgbonaaDoorQ0
import Derived.Test.YtbpcilbplgbonaaDoorRangeCells
import Derived.RangeFuncNested
import Derived.RangeFuncBound
import Derived.RangeFuncCalls
import Derived.RangeFuncLeaves
import Derived.Shelf.Abstract
import Derived.Shelf.RegionOpen
import Derived.WalkKit
import Derived.OwnWalkIn
import Derived.TacticsInMore
import Derived.LoopNIn
import Derived.LoopIn
import Derived.IntWalk
import Derived.Maps.AppendAt
import Derived.RangeFuncBox
namespace Go.Proofs.YtbpcilbplgbonaaDoor.Q
open Go.RowKit Go.Proofs.YtbpcilbplgbonaaDoorW.PrintWords Go.Proofs.YtbpcilbplgbonaaDoorW.PrintLast Go.Shelf
attribute [local go_sem] Oper.semAt_some
set_option linter.unusedVariables false
set_option linter.unusedSimpArgs false
theorem noGoto_n (Q : Exit → Act → World → Prop) (a : Act) (w : World) : Exit.noGoto Q .normal a w = Q .normal a w := rfl
theorem postC_go {α : Type} {B : Nat} {Kp : Nat → World → World → Prop} {I Ix : List α → World → Prop} {xs : List α} {W W' : World} {a : Act} (h : Booked B W W') (h1 : Kp (B + 2) W W') (h2 : I xs W') : postC B Kp I Ix xs W .normal a W' := ⟨h, h1, h2⟩
/-- All as it lay, but for one block and what lies between two places. -/
def KM (n0 bm B1 : Nat) (X Y : World) : Prop := Y.os = X.os ∧ Y.tape = X.tape ∧ Y.output = X.output ∧ X.heap.size ≤ Y.heap.size ∧ ∀ i, i < X.heap.size → i ≠ bm → (i < n0 ∨ B1 ≤ i) → Y.heap[i]? = X.heap[i]?
theorem KM.trans {n0 bm B1 : Nat} {X Y Z : World} (h : KM n0 bm B1 X Y) (g : KM n0 bm B1 Y Z) : KM n0 bm B1 X Z :=
  ⟨g.1.trans h.1, g.2.1.trans h.2.1, g.2.2.1.trans h.2.2.1, Nat.le_trans h.2.2.2.1 g.2.2.2.1, fun i hi h1 h2 => (g.2.2.2.2 i (by have := h.2.2.2.1; omega) h1 h2).trans (h.2.2.2.2 i hi h1 h2)⟩
theorem KM.refl {n0 bm B1 : Nat} (X : World) : KM n0 bm B1 X X := ⟨rfl, rfl, rfl, Nat.le_refl _, fun _ _ _ _ => rfl⟩
theorem KM.mono {n0 bm B1 B2 : Nat} {X Y : World} (h : KM n0 bm B1 X Y) (hb : B1 ≤ B2) : KM n0 bm B2 X Y := ⟨h.1, h.2.1, h.2.2.1, h.2.2.2.1, fun i hi h1 h2 => h.2.2.2.2 i hi h1 (by omega)⟩
set_option maxHeartbeats 1000000 in
set_option maxRecDepth 100000 in
theorem parts_call (x y z : Value) (f : Int) (w : World) : Calls Tryd.prog 31 #[.agg #[x, y, z], .int .i64 f] w fun e w' => e = .returned (.func (.func 36) #[] #[.pointer (some ⟨w.heap.size, 0, none⟩), .pointer (some ⟨w.heap.size + 1, 0, none⟩)]) ∧ w' = (w.alloc (.cells #[x, y, z] 42)).alloc (.cells #[.int .i64 f] 3) := by
  have hu42 := Tryd.underlying42
  go_enter Tryd.func31, Tryd.ntmps31
  go_wp2
  go_ret
  exact ⟨rfl, rfl⟩
abbrev encP (x : Int × Int) : Array Value := #[.agg #[.int .i64 x.1, .int .i64 x.2]]
def itK (hs : List Int) (page gap : Int) (a k : Nat) : List (Int × Int) := (List.range k).map (itP hs page gap a)
theorem itK_len (hs : List Int) (page gap : Int) (a k : Nat) : (itK hs page gap a k).length = k := by simp [itK]
theorem itK_succ (hs : List Int) (page gap : Int) (a k : Nat) : itK hs page gap a (k + 1) = itK hs page gap a k ++ [((a : Int) + k + 1, restI hs page gap a (a + k + 1))] := by unfold itK; rw [List.range_succ, List.map_append]; rfl
/-- What is known of a page's lines: no sum runs over. -/
structure Lns (hs : List Int) (page gap : Int) : Prop where
  len : hs.length ≤ 100
  page1 : 1 ≤ page
  page2 : page ≤ 100000
  gap1 : 0 ≤ gap
  gap2 : gap ≤ 100000
  h : ∀ x ∈ hs, 1 ≤ x ∧ x ≤ 100000
theorem rd_mem {l : List Int} {a : Nat} (h : a < l.length) : rd l a ∈ l := by
  unfold rd; rw [show ((a : Nat) : Int).toNat = a from Int.toNat_natCast _, List.getD_eq_getElem?_getD, List.getElem?_eq_getElem h]; exact List.getElem_mem h
theorem rd_get {l : List Int} {a : Nat} (h : a < l.length) : rd l (a : Int) = l[a] := by
  unfold rd; rw [show ((a : Nat) : Int).toNat = a from Int.toNat_natCast _, List.getD_eq_getElem?_getD, List.getElem?_eq_getElem h]; rfl
theorem restI_range {hs : List Int} {page gap : Int} (L : Lns hs page gap) {a : Nat} : ∀ d : Nat, a + d ≤ hs.length → restI hs page gap a (a + d) ≤ page + gap - d ∧ page + gap - 200000 * d ≤ restI hs page gap a (a + d)
  | 0, _ => by rw [Nat.add_zero, restI_self]; omega
  | d + 1, h => by
    have ih := restI_range L (a := a) d (by omega)
    have hlt : a + d < hs.length := by omega
    have h1 := L.h _ (List.getElem_mem hlt)
    have h2 := L.gap1
    have h3 := L.gap2
    rw [← Nat.add_assoc, restI_step hs page gap a (a + d) (by omega) (by omega)]
    omega
theorem dec_bool (p : Prop) [Decidable p] (b : Bool) (h : p ↔ b = true) : decide p = b := by cases b <;> simp [h]
set_option maxHeartbeats 2000000 in
set_option maxRecDepth 100000 in
theorem parts_stops (n : Nat) (hn : 1 ≤ n) (bm Bb Bf a cA : Nat) (A : Option Addr) (hs : List Int) (page gap : Int) (w : World)
    (hb : w.heap[Bb]? = some (.cells #[.slice A hs.length cA, .int .i64 page, .int .i64 gap] 42 (0, 0))) (hf : w.heap[Bf]? = some (.cells #[.int .i64 a] 3 (0, 0))) (hne1 : Bb ≠ bm) (hne2 : Bf ≠ bm)
    (hA : ∀ B1 w', KM w.heap.size bm B1 w w' → Kd.C (Kd.int .i64) w' A hs.length hs) (L : Lns hs page gap) (ha : a ≤ hs.length) :
    SeqStopsC Fence.wide n Tryd.prog 36 #[.pointer (some ⟨Bb, 0, none⟩), .pointer (some ⟨Bf, 0, none⟩)] encP (fun B1 => KM w.heap.size bm B1) (fun xs => xs = partsI hs page gap a) (fun _ => True)
      (fun pre x => pre.length < mP hs page gap a ∧ x = itP hs page gap a pre.length ∧ pre = itK hs page gap a pre.length) w := by
  intro l J Jx W hW hJ hJx hY h0
  have lBb := blk_lt hb
  have lBf := blk_lt hf
  have hu42 := Tryd.underlying42
  have hu44 := Tryd.underlying44
  have bb0 := (hW.block Bb lBb).trans hb
  have bf0 := (hW.block Bf lBf).trans hf
  have hsW := hW.size
  have kW : KM w.heap.size bm W.heap.size w W := ⟨hW.os, hW.tape, hW.output, hW.size, fun i hi _ _ => hW.block i hi⟩
  obtain ⟨hM1, hM2, hM3⟩ := mP_spec hs page gap a
  have hR := fun d (h : a + d ≤ hs.length) => restI_range L (a := a) d h
  have hL1 := L.page1
  have hL2 := L.page2
  have hL3 := L.gap1
  have hL4 := L.gap2
  have hL5 := L.len
  refine callsIn_of_wp Tryd.func36 rfl trivial ?_ rfl
  simp only [Tryd.ntmps36, List.size_toArray, List.length_cons, List.length_nil, Nat.reduceAdd, Nat.reduceSub, Array.replicate_succ, Array.replicate_zero, List.push_toArray, List.append_toArray, List.nil_append, List.cons_append]
  have q1 : W.cell? ⟨Bb, 1, none⟩ = some (.int .i64 page) := (blk_cell bb0 1).trans rfl
  have q2 : W.cell? ⟨Bb, 2, none⟩ = some (.int .i64 gap) := (blk_cell bb0 2).trans rfl
  have q3 : W.cell? ⟨Bf, 0, none⟩ = some (.int .i64 a) := (blk_cell bf0 0).trans rfl
  have hw0 : IntKind.i64.wrap (page + gap) = page + gap := by rw [IntKind.wrap_i64]; omega
  refine wpIn_scope_ ?_
  gi_wp2
  refine wpIn_label ?_
  gi_wp2
  clear q1 q2 q3
  have hm0 : restI hs page gap a (a + 0) = page + gap := by rw [Nat.add_zero]; exact restI_self _ _ _ _
  gi_loopw [4, 5] (fun r i wr => ∃ k : Nat, k ≤ mP hs page gap a ∧ i = .int .i64 ((a : Int) + k) ∧ r = .int .i64 (restI hs page gap a (a + k)) ∧ J (itK hs page gap a k) wr ∧ KM w.heap.size bm W.heap.size w wr) (fun _ i _ => hs.length - (intOf i).toNat)
  case atStart => exact ⟨0, Nat.zero_le _, by simp, by rw [hm0], h0, kW⟩
  case round =>
    obtain ⟨k, hk, rfl, rfl, hJs, hks⟩ := hrel
    have bb1 := (hks.2.2.2.2 Bb lBb hne1 (.inl lBb)).trans hb
    have c0 : wr.cell? ⟨Bb, 0, none⟩ = some (.slice A hs.length cA) := (blk_cell bb1 0).trans rfl
    have c2 : wr.cell? ⟨Bb, 2, none⟩ = some (.int .i64 gap) := (blk_cell bb1 2).trans rfl
    by_cases hlt : a + k < hs.length
    · have p0 : (0 : Int) ≤ (a : Int) + k := by omega
      have p1 : (a : Int) + k < (hs.length : Int) := by omega
      obtain ⟨ad, rfl, hx⟩ := Kd.at_int (hA _ wr hks) ((a : Int) + k) p0 p1
      rw [show (a : Int) + k = ((a + k : Nat) : Int) by omega, rd_get hlt, Int.toNat_natCast] at hx
      have hr1 := restI_step hs page gap a (a + k) (by omega) hlt
      have hr2 := hR k (by omega)
      have hr3 := hR (k + 1) (by omega)
      rw [← Nat.add_assoc] at hr3
      have hx0 := L.h _ (List.getElem_mem hlt)
      obtain ⟨X, hX⟩ : ∃ X, hs[a + k] = X := ⟨_, rfl⟩
      rw [hX] at hx hr1 hx0
      have hw1 : IntKind.i64.wrap (X + gap) = X + gap := by rw [IntKind.wrap_i64]; omega
      have hw2 : IntKind.i64.wrap (restI hs page gap a (a + k) - (X + gap)) = restI hs page gap a (a + k + 1) := by rw [IntKind.wrap_i64, hr1]; omega
      have hw3 : IntKind.i64.wrap ((a : Int) + k + 1) = (a : Int) + k + 1 := by rw [IntKind.wrap_i64]; omega
      have hks' : KM w.heap.size bm W.heap.size w wr.drew := hks
      have hJ' : J (itK hs page gap a k) wr.drew := hJ _ wr _ hJs (Below.refl W.heap.size wr).drew
      have hst := itK_succ hs page gap a k
      obtain ⟨R1, hR1⟩ : ∃ R, restI hs page gap a (a + k) = R := ⟨_, rfl⟩
      obtain ⟨R2, hR2⟩ : ∃ R, restI hs page gap a (a + k + 1) = R := ⟨_, rfl⟩
      have hR2' := Aside0.mk hR2
      rw [hR1, hR2] at hw2
      rw [hR1]
      rw [hR2] at hst hr3
      clear hr1 hr2 hR1
      by_cases hneg : R2 < 0
      · have hkm : mP hs page gap a ≤ k := by
          rcases Nat.lt_or_ge k (mP hs page gap a) with h | h
          · have := hM2 k h; omega
          · exact h
        clear hR2 hst
        gi_wp2
        gi_region
        all_goals gi_wp2
        refine ⟨fun _ h => (by cases h), ?_⟩
        gi_wp2
        rw [noGoto_n]
        go_end0
        obtain rfl : k = mP hs page gap a := by omega
        exact ⟨⟨_, rfl⟩, .inl ⟨_, rfl, hJ'⟩⟩
      · have hkm : k < mP hs page gap a := by
          rcases Nat.lt_or_ge k (mP hs page gap a) with h | h
          · exact h
          · obtain rfl : k = mP hs page gap a := by omega
            have := hM3 (by omega); omega
        obtain ⟨fn, tmps, assign, body, hy, hRR⟩ := hY (itK hs page gap a k) ((a : Int) + k + 1, R2) wr.drew hJ' ⟨by rw [itK_len]; exact hkm, by rw [itK_len]; unfold itP; rw [← hR2], by rw [itK_len]⟩
        dsimp only [encP] at hy
        clear hR2
        gi_wp2
        gi_region
        all_goals gi_wp2
        refine hRR.mono ?_
        rintro e w5 (⟨rfl, hJ5, hk5⟩ | ⟨rfl, hJx5⟩)
        · rw [← hst] at hJ5
          gi_wp2
          go_roundw
          case rel => exact ⟨k + 1, hkm, (by first | rfl | (congr 1; omega)), (by rw [← hR2'.out, Nat.add_assoc]), hJ5, hks'.trans hk5⟩
          case measure => simp [intOf]; omega
        · gi_wp2
          rw [noGoto_n]
          go_end0
          exact ⟨⟨_, rfl⟩, .inr ⟨_, trivial, hJx5⟩⟩
    · have hkm : mP hs page gap a ≤ k := by omega
      have hlt2 : ¬ ((a : Int) + k < hs.length) := by omega
      gi_wp2
      go_end0
      obtain rfl : k = mP hs page gap a := by omega
      exact ⟨⟨_, rfl⟩, .inl hJs⟩
end Go.Proofs.YtbpcilbplgbonaaDoor.Q
