import Derived.Test.YtneaoicjbiebkaaDoorQ2
import Derived.Test.YtneaoicjbiebkaaDoorRangeCells
import Derived.RangeFuncNested
import Derived.RangeFuncBound
import Derived.RangeFuncCalls
import Derived.RangeFuncLeaves
import Derived.Shelf.Abstract
import Derived.Shelf.RegionOpen
import Derived.WalkKit
import Derived.OwnWalkIn
import Derived.TacticsInMore
import Derived.LoopNIn
import Derived.LoopIn
import Derived.IntWalk
import Derived.Maps.AppendAt
import Derived.RangeFuncBox
namespace Go.Proofs.YtneaoicjbiebkaaDoor.Q
open Go.RowKit Go.Proofs.YtneaoicjbiebkaaDoorW.PrintWords Go.Proofs.YtneaoicjbiebkaaDoorW.PrintLast Go.Shelf
attribute [local go_sem] Oper.semAt_some
set_option linter.unusedVariables false
set_option linter.unusedSimpArgs false
theorem wrap64_id_ {n : Int} (h : -9223372036854775808 ≤ n ∧ n ≤ 9223372036854775807) : wrap64 n = n := by unfold wrap64; omega
set_option maxHeartbeats 2000000 in
set_option maxRecDepth 100000 in
theorem add_calls (i : Int) (bw bb bs : Nat) (A B : Option Addr) (cA cB : Nat) (ws ss : List Int) (line W S : Int) (w : World)
    (hb : w.heap[bb]? = some (.cells #[.slice A ws.length cA, .slice B ss.length cB, .int .i64 line] 46 (0, 0))) (hw : w.heap[bw]? = some (.cells #[.int .i64 W] 3 (0, 0))) (hs : w.heap[bs]? = some (.cells #[.int .i64 S] 3 (0, 0)))
    (hA : Kd.C (Kd.int .i64) w A ws.length ws) (hB : ∀ w', Below bw w w' → Kd.C (Kd.int .i64) w' B ss.length ss) (hi : 0 ≤ i) (h1 : i < ws.length) (h2 : i < ss.length) (h3 : bb < bw) (h4 : bw < bs) :
    Calls Tryd.prog 34 #[.int .i64 i, .pointer (some ⟨bw, 0, none⟩), .pointer (some ⟨bb, 0, none⟩), .pointer (some ⟨bs, 0, none⟩)] w fun e w' => (∃ v, e = .returned v) ∧ w' = ((w.setCell ⟨bw, 0, none⟩ (.int .i64 (wrap64 (W + rd ws i)))).setCell ⟨bs, 0, none⟩ (.int .i64 (wrap64 (S + rd ss i)))).drew.drew := by
  have c0 : w.cell? ⟨bb, 0, none⟩ = some (.slice A ws.length cA) := (blk_cell hb 0).trans rfl
  have c1 : w.cell? ⟨bb, 1, none⟩ = some (.slice B ss.length cB) := (blk_cell hb 1).trans rfl
  have c3 : w.cell? ⟨bw, 0, none⟩ = some (.int .i64 W) := (blk_cell hw 0).trans rfl
  have c4 : w.cell? ⟨bs, 0, none⟩ = some (.int .i64 S) := (blk_cell hs 0).trans rfl
  have f3 := blk_frozen hw 0
  have f4 := blk_frozen hs 0
  obtain ⟨w1, hw1⟩ : ∃ w1, (w.setCell ⟨bw, 0, none⟩ (.int .i64 (wrap64 (W + rd ws i)))).drew = w1 := ⟨_, rfl⟩
  have hbel : Below bw w w1 := by rw [← hw1]; exact ((Below.refl bw w).setCell (p := ⟨bw, 0, none⟩) (Nat.le_refl _) _).drew
  obtain ⟨ad, rfl, hx⟩ := Kd.at_int hA i hi h1
  obtain ⟨ad2, rfl, hx2⟩ := Kd.at_int (hB w1 hbel) i hi h2
  have d1 : w1.cell? ⟨bb, 1, none⟩ = some (.slice (some ad2) ss.length cB) := (hbel.cell (p := ⟨bb, 1, none⟩) h3).trans c1
  have d4 : w1.cell? ⟨bs, 0, none⟩ = some (.int .i64 S) := by rw [← hw1]; exact (cell_far (p := ⟨bw, 0, none⟩) (by show bs ≠ bw; omega) _).trans c4
  have g4 : w1.frozen? ⟨bs, 0, none⟩ = false := by rw [← hw1]; show (w.setCell _ _).frozen? _ = _; rw [World.frozen?_setCell]; exact f4
  have hu46 := Tryd.underlying46
  subst hw1
  refine (callsIn_wide (n := 1)).1 ?_
  refine callsIn_of_wp Tryd.func34 rfl trivial ?_ rfl
  simp only [Tryd.ntmps34, List.size_toArray, List.length_cons, List.length_nil, Nat.reduceAdd, Nat.reduceSub, Array.replicate_succ, Array.replicate_zero, List.push_toArray, List.append_toArray, List.nil_append, List.cons_append]
  gi_wp2
  gi_region
  all_goals gi_wp2
  gi_region
  all_goals gi_wp2
  go_end0
  exact ⟨⟨_, rfl⟩, rfl⟩
theorem noGoto_n (Q : Exit → Act → World → Prop) (a : Act) (w : World) : Exit.noGoto Q .normal a w = Q .normal a w := rfl
/-- What a body of a loop over the systems leaves: what lay ahead of a place, the iterator's two boxes, and what is the iterator's own. -/
def KB (n0 Bb Bf B1 : Nat) (X Y : World) : Prop := Below n0 X Y ∧ ∀ i, i < X.heap.size → (B1 ≤ i ∨ i = Bb ∨ i = Bf) → Y.heap[i]? = X.heap[i]?
theorem KB.trans {n0 Bb Bf B1 : Nat} {X Y Z : World} (h : KB n0 Bb Bf B1 X Y) (g : KB n0 Bb Bf B1 Y Z) : KB n0 Bb Bf B1 X Z :=
  ⟨h.1.trans g.1, fun i hi hc => (g.2 i (by have := h.1.size; omega) hc).trans (h.2 i hi hc)⟩
abbrev encS (x : Int × Int × Int) : Array Value := #[.agg #[.int .i64 x.1, .int .i64 x.2.1, .int .i64 x.2.2]]
/-- The sum of the numbers from one place up to another. -/
def sumF (l : List Int) (a b : Nat) : Int := ((l.take b).drop a).sum
def costS (K : Nat) (ws ss : List Int) (line : Int) (a b : Nat) : Int × Bool := (systems_Cost.f K (sumF ws a b) (sumF ss a b) line).getD (0, false)
theorem sumF_zero (l : List Int) (a : Nat) : sumF l a (a + 0) = 0 := by unfold sumF; rw [List.drop_eq_nil_of_le (by rw [List.length_take]; omega)]; rfl
theorem sumF_succ (l : List Int) (a k : Nat) (h : a + k < l.length) : sumF l a (a + (k + 1)) = sumF l a (a + k) + rd l ((a + k : Nat) : Int) := by
  unfold sumF
  rw [← Nat.add_assoc, List.take_add_one, List.getElem?_eq_getElem h, List.drop_append_of_le_length (by rw [List.length_take]; omega), List.sum_append]
  have e : ((a + k : Nat) : Int).toNat = a + k := Int.toNat_natCast _
  unfold rd
  rw [e, List.getD_eq_getElem?_getD, List.getElem?_eq_getElem h]; simp
/-- The first k systems that begin at a bar. -/
def itS (K : Nat) (ws ss : List Int) (line : Int) (a k : Nat) : List (Int × Int × Int) := (List.range k).map fun (j : Nat) => ((a : Int), (a : Int) + j + 1, if a + j + 1 = ws.length then 0 else (costS K ws ss line a (a + j + 1)).1)
theorem itS_len (K : Nat) (ws ss : List Int) (line : Int) (a k : Nat) : (itS K ws ss line a k).length = k := by simp [itS]
set_option maxHeartbeats 2000000 in
set_option maxRecDepth 100000 in
theorem systems_stops (n : Nat) (hn : 1 ≤ n) (n0 Bb Bf K a m cA cB : Nat) (A B : Option Addr) (ws ss : List Int) (line : Int) (w : World)
    (hb : w.heap[Bb]? = some (.cells #[.slice A ws.length cA, .slice B ss.length cB, .int .i64 line] 46 (0, 0))) (hf : w.heap[Bf]? = some (.cells #[.int .i64 a] 3 (0, 0)))
    (hn0 : n0 ≤ w.heap.size) (hA : ∀ w', Below n0 w w' → Kd.C (Kd.int .i64) w' A ws.length ws) (hB : ∀ w', Below n0 w w' → Kd.C (Kd.int .i64) w' B ss.length ss) (hl : ss.length = ws.length) (hw : ws.length ≤ 1000) (ha : a + m ≤ ws.length)
    (hc : ∀ b, a < b → b ≤ ws.length → ∃ r, systems_Cost.f K (sumF ws a b) (sumF ss a b) line = some r) (hs : ∀ l, l = ws ∨ l = ss → ∀ b, (sumF l a b).natAbs ≤ 1000000000000)
    (h1 : ∀ k, k < m → (costS K ws ss line a (a + k + 1)).2 = true) (h2 : a + m < ws.length → (costS K ws ss line a (a + m + 1)).2 = false) :
    SeqStopsC Fence.wide n Tryd.prog 33 #[.pointer (some ⟨Bb, 0, none⟩), .pointer (some ⟨Bf, 0, none⟩)] encS (KB n0 Bb Bf) (fun xs => xs = itS K ws ss line a m) (fun _ => True) (fun pre x => pre.length < m ∧ itS K ws ss line a (pre.length + 1) = pre ++ [x]) w := by
  intro l J Jx W hW hJ hJx hY h0
  have lBb := blk_lt hb
  have lBf := blk_lt hf
  have hu46 := Tryd.underlying46
  have bb0 := (hW.block Bb lBb).trans hb
  have bf0 := (hW.block Bf lBf).trans hf
  have hsW := hW.size
  refine callsIn_of_wp Tryd.func33 rfl trivial ?_ rfl
  simp only [Tryd.ntmps33, List.size_toArray, List.length_cons, List.length_nil, Nat.reduceAdd, Nat.reduceSub, Array.replicate_succ, Array.replicate_zero, List.push_toArray, List.append_toArray, List.nil_append, List.cons_append]
  gi_wp2
  refine wpIn_scope_ ?_
  gi_wp2
  refine wpIn_label ?_
  obtain ⟨W2, hW2⟩ : ∃ W2, (W.alloc (.cells #[.int .i64 0] 3)).alloc (.cells #[.int .i64 0] 3) = W2 := ⟨_, rfl⟩
  have hB2 : Below W.heap.size W W2 := by rw [← hW2]; exact ((Below.refl _ W).alloc (Nat.le_refl _) _).alloc (by simp) _
  have g0 : W2.heap[W.heap.size]? = some (.cells #[.int .i64 0] 3 (0, 0)) := by rw [← hW2]; exact (Below.heap_alloc _ _ _ (by simp)).trans (World.alloc_heap_new W _)
  have g1 : W2.heap[W.heap.size + 1]? = some (.cells #[.int .i64 0] 3 (0, 0)) := by
    rw [← hW2]; have := World.alloc_heap_new (W.alloc (.cells #[.int .i64 0] 3)) (.cells #[.int .i64 0] 3); rwa [World.size_alloc] at this
  have c1 : W2.cell? ⟨Bf, 0, none⟩ = some (.int .i64 a) := (blk_cell ((hB2.block Bf (by omega)).trans bf0) 0).trans rfl
  rw [hW2]
  clear hW2
  gi_wp2
  clear c1
  have hn0W : n0 ≤ W.heap.size := by omega
  have hb2 : Below n0 w W2 := (hW.mono hn0).trans (hB2.mono hn0W)
  have bb2 := (hB2.block Bb (by omega)).trans bb0
  have bf2 := (hB2.block Bf (by omega)).trans bf0
  have J2 : J [] W2 := hJ [] W W2 h0 hB2
  have hit0 : itS K ws ss line a 0 = [] := rfl
  gi_loopw [7] (fun i wr => ∃ k : Nat, k ≤ m ∧ i = .int .i64 ((a : Int) + k) ∧ J (itS K ws ss line a k) wr ∧ wr.heap[W.heap.size]? = some (.cells #[.int .i64 (sumF ws a (a + k))] 3 (0, 0)) ∧ wr.heap[W.heap.size + 1]? = some (.cells #[.int .i64 (sumF ss a (a + k))] 3 (0, 0)) ∧ Below n0 w wr ∧
      wr.heap[Bb]? = some (.cells #[.slice A ws.length cA, .slice B ss.length cB, .int .i64 line] 46 (0, 0)) ∧ wr.heap[Bf]? = some (.cells #[.int .i64 a] 3 (0, 0))) (fun i _ => ws.length - (intOf i).toNat)
  case atStart => exact ⟨0, by omega, by simp, J2, by rw [sumF_zero]; exact g0, by rw [sumF_zero]; exact g1, hb2, bb2, bf2⟩
  case round =>
    obtain ⟨k, hk, rfl, hJs, h0s, h1s, hbs, hbb, hbf⟩ := hrel
    have cb0 : wr.cell? ⟨Bb, 0, none⟩ = some (.slice A ws.length cA) := (blk_cell hbb 0).trans rfl
    by_cases hlt : a + k < ws.length
    · have e0 : wrap64 (sumF ws a (a + k) + rd ws ((a : Int) + k)) = sumF ws a (a + (k + 1)) := by
        rw [show (a : Int) + k = ((a + k : Nat) : Int) by omega, sumF_succ ws a k hlt]; have := hs ws (.inl rfl) (a + (k + 1)); rw [sumF_succ ws a k hlt] at this; exact wrap64_id_ (by omega)
      have e1 : wrap64 (sumF ss a (a + k) + rd ss ((a : Int) + k)) = sumF ss a (a + (k + 1)) := by
        rw [show (a : Int) + k = ((a + k : Nat) : Int) by omega, sumF_succ ss a k (by omega)]; have := hs ss (.inr rfl) (a + (k + 1)); rw [sumF_succ ss a k (by omega)] at this; exact wrap64_id_ (by omega)
      gi_wp2
      refine ⟨trivial, ?_⟩
      refine (callsIn_wide.2 (add_calls ((a : Int) + k) W.heap.size Bb (W.heap.size + 1) A B cA cB ws ss line _ _ wr hbb h0s h1s (hA wr hbs) (fun w' hw' => hB w' (hbs.trans (hw'.mono (by omega)))) (by omega) (by omega) (by omega) (by omega) (by omega))).mono ?_
      rw [e0, e1]
      rintro e w3 ⟨⟨v, rfl⟩, hw3⟩
      have hb3 : Below W.heap.size wr w3 := by rw [hw3]; exact ((((Below.refl _ wr).setCell (p := ⟨W.heap.size, 0, none⟩) (Nat.le_refl _) _).setCell (p := ⟨W.heap.size + 1, 0, none⟩) (by show W.heap.size ≤ W.heap.size + 1; omega) _).drew).drew
      have s0 : w3.heap[W.heap.size]? = some (.cells #[.int .i64 (sumF ws a (a + (k + 1)))] 3 (0, 0)) := by
        rw [hw3]; exact (Below.heap_setCell _ ⟨W.heap.size + 1, 0, none⟩ _ W.heap.size (by show W.heap.size ≠ W.heap.size + 1; omega)).trans (blk_put h0s 0 _ rfl)
      have s1 : w3.heap[W.heap.size + 1]? = some (.cells #[.int .i64 (sumF ss a (a + (k + 1)))] 3 (0, 0)) := by
        rw [hw3]; exact blk_put ((Below.heap_setCell _ ⟨W.heap.size, 0, none⟩ _ (W.heap.size + 1) (by show W.heap.size + 1 ≠ W.heap.size; omega)).trans h1s) 0 _ rfl
      clear hw3 cb0
      have hb3n : Below n0 w w3 := hbs.trans (hb3.mono (by omega))
      have bb3 := (hb3.block Bb (by omega)).trans hbb
      have bf3 := (hb3.block Bf (by omega)).trans hbf
      have J3 : J (itS K ws ss line a k) w3 := hJ _ wr w3 hJs hb3
      have d0 : w3.cell? ⟨W.heap.size, 0, none⟩ = some (.int .i64 (sumF ws a (a + (k + 1)))) := (blk_cell s0 0).trans rfl
      have d1 : w3.cell? ⟨W.heap.size + 1, 0, none⟩ = some (.int .i64 (sumF ss a (a + (k + 1)))) := (blk_cell s1 0).trans rfl
      have d2 : w3.cell? ⟨Bb, 2, none⟩ = some (.int .i64 line) := (blk_cell bb3 2).trans rfl
      obtain ⟨⟨c, ok⟩, hcost⟩ := hc (a + (k + 1)) (by omega) (by omega)
      have hcs : costS K ws ss line a (a + k + 1) = (c, ok) := by unfold costS; rw [Nat.add_assoc, hcost]; rfl
      obtain ⟨X0, EX0⟩ : ∃ x, Aside0 (sumF ws a (a + (k + 1)) = x) := ⟨_, ⟨rfl⟩⟩
      obtain ⟨X1, EX1⟩ : ∃ x, Aside0 (sumF ss a (a + (k + 1)) = x) := ⟨_, ⟨rfl⟩⟩
      rw [EX0.out] at s0 d0 hcost e0
      rw [EX1.out] at s1 d1 hcost e1
      gi_wp2
      refine ⟨trivial, ?_⟩
      refine (callsIn_wide.2 (systems_Cost.calls K X0 X1 line c ok w3 hcost)).mono ?_
      rintro e w4 ⟨rfl, hb4⟩
      have z3 : W.heap.size + 1 < w3.heap.size := blk_lt s1
      have hb4W : Below W.heap.size w3 w4 := hb4.mono (by omega)
      have t0 := (hb4.block W.heap.size (by omega)).trans s0
      have t1 := (hb4.block (W.heap.size + 1) (by omega)).trans s1
      have bb4 := (hb4.block Bb (by omega)).trans bb3
      have bf4 := (hb4.block Bf (by omega)).trans bf3
      have J4 : J (itS K ws ss line a k) w4 := hJ _ w3 w4 J3 hb4W
      have hb4n : Below n0 w w4 := hb3n.trans (hb4W.mono (by omega))
      clear s0 s1 bb3 bf3 J3 d0 d1 d2 hb3n hb3 hb4 hb4W
      have d0 : w4.cell? ⟨Bb, 0, none⟩ = some (.slice A ws.length cA) := (blk_cell bb4 0).trans rfl
      have d1 : w4.cell? ⟨Bf, 0, none⟩ = some (.int .i64 a) := (blk_cell bf4 0).trans rfl
      have hw1 : IntKind.i64.wrap ((a : Int) + k + 1) = (a : Int) + k + 1 := by rw [IntKind.wrap_i64]; omega
      cases ok with
      | false =>
        obtain rfl : k = m := by
          rcases Nat.lt_or_ge k m with hkm | hkm
          · have := h1 k hkm; rw [hcs] at this; cases this
          · omega
        by_cases hend : (a : Int) + k + 1 = ws.length
        · gi_wp2
          refine ⟨fun _ h => (by cases h), ?_⟩
          gi_wp2
          rw [noGoto_n]
          go_end0
          exact ⟨⟨_, rfl⟩, .inl ⟨_, rfl, J4⟩⟩
        · gi_wp2
          refine ⟨fun _ h => (by cases h), ?_⟩
          gi_wp2
          rw [noGoto_n]
          go_end0
          exact ⟨⟨_, rfl⟩, .inl ⟨_, rfl, J4⟩⟩
      | true =>
        have hkm : k < m := by
          rcases Nat.lt_or_ge k m with hkm | hkm
          · exact hkm
          · obtain rfl : k = m := by omega
            have := h2 hlt; rw [hcs] at this; cases this
        have hst : itS K ws ss line a (k + 1) = itS K ws ss line a k ++ [((a : Int), (a : Int) + k + 1, if a + k + 1 = ws.length then 0 else c)] := by
          unfold itS; rw [List.range_succ, List.map_append]; simp [hcs]
        by_cases hend : (a : Int) + k + 1 = ws.length
        · rw [if_pos (by omega)] at hst
          obtain ⟨fn, tmps, assign, body, hy, hR⟩ := hY _ ((a : Int), (a : Int) + k + 1, 0) w4 J4 ⟨by rw [itS_len]; exact hkm, by rw [itS_len]; exact hst⟩
          dsimp only [encS] at hy
          rw [hend] at hy
          gi_wp2
          refine hR.mono ?_
          rintro e w5 (⟨rfl, hJ5, hk5⟩ | ⟨rfl, hJx5⟩)
          · rw [← hst] at hJ5
            have hx0 := (hk5.2 W.heap.size (blk_lt t0) (Or.inl (Nat.le_refl _))).trans t0
            have hx1 := (hk5.2 (W.heap.size + 1) (blk_lt t1) (Or.inl (Nat.le_succ _))).trans t1
            have hxb := (hk5.2 Bb (blk_lt bb4) (Or.inr (Or.inl rfl))).trans bb4
            have hxf := (hk5.2 Bf (blk_lt bf4) (Or.inr (Or.inr rfl))).trans bf4
            have hxn := hb4n.trans hk5.1
            gi_wp2
            go_roundw
            case rel => exact ⟨k + 1, hkm, (by first | rfl | (congr 1; omega)), hJ5, by rw [EX0.out]; exact hx0, by rw [EX1.out]; exact hx1, hxn, hxb, hxf⟩
            case measure => simp [intOf]; omega
          · gi_wp2
            rw [noGoto_n]
            go_end0
            exact ⟨⟨_, rfl⟩, .inr ⟨_, trivial, hJx5⟩⟩
        · rw [if_neg (by omega)] at hst
          obtain ⟨fn, tmps, assign, body, hy, hR⟩ := hY _ ((a : Int), (a : Int) + k + 1, c) w4 J4 ⟨by rw [itS_len]; exact hkm, by rw [itS_len]; exact hst⟩
          dsimp only [encS] at hy
          gi_wp2
          refine hR.mono ?_
          rintro e w5 (⟨rfl, hJ5, hk5⟩ | ⟨rfl, hJx5⟩)
          · rw [← hst] at hJ5
            have hx0 := (hk5.2 W.heap.size (blk_lt t0) (Or.inl (Nat.le_refl _))).trans t0
            have hx1 := (hk5.2 (W.heap.size + 1) (blk_lt t1) (Or.inl (Nat.le_succ _))).trans t1
            have hxb := (hk5.2 Bb (blk_lt bb4) (Or.inr (Or.inl rfl))).trans bb4
            have hxf := (hk5.2 Bf (blk_lt bf4) (Or.inr (Or.inr rfl))).trans bf4
            have hxn := hb4n.trans hk5.1
            gi_wp2
            go_roundw
            case rel => exact ⟨k + 1, hkm, (by first | rfl | (congr 1; omega)), hJ5, by rw [EX0.out]; exact hx0, by rw [EX1.out]; exact hx1, hxn, hxb, hxf⟩
            case measure => simp [intOf]; omega
          · gi_wp2
            rw [noGoto_n]
            go_end0
            exact ⟨⟨_, rfl⟩, .inr ⟨_, trivial, hJx5⟩⟩
    · obtain rfl : k = m := by omega
      have hlt2 : ¬ ((a : Int) + k < ws.length) := by omega
      gi_wp2
      go_end0
      exact ⟨⟨_, rfl⟩, .inl ⟨_, rfl, hJs⟩⟩
end Go.Proofs.YtneaoicjbiebkaaDoor.Q
