/- The part from a line up to another one, looked for. -/
import Derived.Test.YtbpcilbplgbonaaDoorParts
import Derived.Maps.OwnIn
namespace Go.Proofs.YtbpcilbplgbonaaDoor.Q
open Go.RowKit Go.Proofs.YtbpcilbplgbonaaDoorW.PrintWords Go.Proofs.YtbpcilbplgbonaaDoorW.PrintLast Go.Shelf
attribute [local go_sem] Oper.semAt_some
set_option linter.unusedVariables false
set_option linter.unusedSimpArgs false
/-- Is there a part from a line up to another one, and which? -/
def findI (hs : List Int) (page gap : Int) (a : Nat) (q : Int) : (Int × Int) × Bool := if (a : Int) < q ∧ q ≤ (a : Int) + mP hs page gap a then ((q, restI hs page gap a q.toNat), true) else ((0, 0), false)
abbrev FindPost (w : World) (r : (Int × Int) × Bool) : Ending → World → Prop := fun e w' => e = .returned (.tuple #[.agg #[.int .i64 r.1.1, .int .i64 r.1.2], .bool r.2]) ∧ Below w.heap.size w w'
theorem ret26D {w X : World} {D n : Nat} {r : (Int × Int) × Bool} (tmps : Array Value) (h6 : tmps[6]?.getD undef = .pointer (some ⟨n + 1 + 1, 0, none⟩)) (h7 : tmps[7]?.getD undef = .pointer (some ⟨n + 1 + 1 + 1, 0, none⟩)) (hD : w.heap.size ≤ D) (hn : n + 3 < D) (hX : X.heap[D]? = some (.deferred (some [])))
    (h2 : X.heap[n + 2]? = some (.cells #[.int .i64 r.1.1, .int .i64 r.1.2] 44 (0, 0))) (h3 : X.heap[n + 3]? = some (.cells #[.bool r.2] 4 (0, 0))) (hB : Below w.heap.size w X) :
    bodyPostM Fence.wide 3 Tryd.prog Tryd.f26 (FindPost w r) .ret { tmps := tmps, defers := [{ target := .collected D, args := #[] }] } X := by
  refine ⟨by simp, .inl ⟨_, _, rfl, run_takeDeferred hX, ?_⟩⟩
  have k2 : (X.putObj D (.deferred none)).heap[n + 2]? = some (.cells #[.int .i64 r.1.1, .int .i64 r.1.2] 44 (0, 0)) := (World.putObj_heap_other (by omega)).trans h2
  have k3 : (X.putObj D (.deferred none)).heap[n + 3]? = some (.cells #[.bool r.2] 4 (0, 0)) := (World.putObj_heap_other (by omega)).trans h3
  refine ⟨.tuple #[.agg #[.int .i64 r.1.1, .int .i64 r.1.2], .bool r.2], ?_, rfl, hB.trans (below_putObj X (.deferred none) hD)⟩
  have c1 : (X.putObj D (.deferred none)).cell? ⟨n + 1 + 1, 0, none⟩ = some (.int .i64 r.1.1) := (blk_cell k2 0).trans rfl
  have c2 : (X.putObj D (.deferred none)).cell? ⟨n + 1 + 1, 1, none⟩ = some (.int .i64 r.1.2) := (blk_cell k2 1).trans rfl
  have hu44 := Tryd.underlying44
  have hu4 := Tryd.underlying4
  have c3 : (X.putObj D (.deferred none)).cell? ⟨n + 1 + 1 + 1, 0, none⟩ = some (.bool r.2) := (blk_cell k3 0).trans rfl
  simp [results, h6, h7, go_sem, asAddr, c1, c2, c3, loadVar, isAgg, underlying, hu4, Result.andThen]
set_option maxHeartbeats 2000000 in
set_option maxRecDepth 100000 in
theorem find_calls (a cA : Nat) (q : Int) (A : Option Addr) (hs : List Int) (page gap : Int) (w : World)
    (hA : Kd.C (Kd.int .i64) w A hs.length hs) (L : Lns hs page gap) (ha : a ≤ hs.length) :
    Calls Tryd.prog 26 #[.agg #[.slice A hs.length cA, .int .i64 page, .int .i64 gap], .int .i64 (a : Int), .int .i64 q] w (FindPost w (findI hs page gap a q)) := by
  have hu42 := Tryd.underlying42
  have hu44 := Tryd.underlying44
  have hu4 := Tryd.underlying4
  have hL5 := L.len
  have hA' := Aside0.mk hA
  clear hA
  refine (callsIn_wide (n := 3)).1 ?_
  refine callsIn_of_wp_marks Tryd.func26 rfl trivial ?_ rfl
  simp only [Tryd.ntmps26, List.size_toArray, List.length_cons, List.length_nil, Nat.reduceAdd, Nat.reduceSub, Array.replicate_succ, Array.replicate_zero, List.push_toArray, List.append_toArray, List.nil_append, List.cons_append]
  gi_wp2_with (gi_at_call 31; (with_reducible refine (callsIn_wide.2 (parts_call _ _ _ _ _)).mono ?_); rintro e w' ⟨rfl, hw2⟩)
  refine ⟨trivial, ?_⟩
  obtain ⟨W0, hW0⟩ : ∃ W0, ((((w.alloc (.cells #[.slice A hs.length cA, .int .i64 page, .int .i64 gap] 42)).alloc (.cells #[.int .i64 q] 3)).alloc (.cells #[.int .i64 0, .int .i64 0] 44)).alloc (.cells #[.bool false] 4)) = W0 := ⟨_, rfl⟩
  have hb0 : Below w.heap.size w W0 := by rw [← hW0]; exact ((((Below.refl _ w).alloc (Nat.le_refl _) _).alloc (by simp) _).alloc (by simp <;> omega) _).alloc (by simp <;> omega) _
  have hz0 : w.heap.size + 4 ≤ W0.heap.size := by rw [← hW0]; simp
  have p1 : W0.heap[w.heap.size + 1]? = some (.cells #[.int .i64 q] 3 (0, 0)) := by
    rw [← hW0]; refine (Below.heap_alloc _ _ _ (by simp <;> omega)).trans ((Below.heap_alloc _ _ _ (by simp)).trans ?_)
    have := World.alloc_heap_new (w.alloc (.cells #[.slice A hs.length cA, .int .i64 page, .int .i64 gap] 42)) (.cells #[.int .i64 q] 3); rwa [World.size_alloc] at this
  have p2 : W0.heap[w.heap.size + 2]? = some (.cells #[.int .i64 0, .int .i64 0] 44 (0, 0)) := by
    rw [← hW0]; refine (Below.heap_alloc _ _ _ (by simp)).trans ?_
    have := World.alloc_heap_new ((w.alloc (.cells #[.slice A hs.length cA, .int .i64 page, .int .i64 gap] 42)).alloc (.cells #[.int .i64 q] 3)) (.cells #[.int .i64 0, .int .i64 0] 44); rwa [World.size_alloc, World.size_alloc] at this
  have p3 : W0.heap[w.heap.size + 3]? = some (.cells #[.bool false] 4 (0, 0)) := by
    rw [← hW0]
    have := World.alloc_heap_new (((w.alloc (.cells #[.slice A hs.length cA, .int .i64 page, .int .i64 gap] 42)).alloc (.cells #[.int .i64 q] 3)).alloc (.cells #[.int .i64 0, .int .i64 0] 44)) (.cells #[.bool false] 4); rwa [World.size_alloc, World.size_alloc, World.size_alloc] at this
  rw [hW0]
  clear hW0
  refine (callsIn_wide.2 (parts_call _ _ _ _ _)).mono ?_
  rintro e w2 ⟨rfl, hw2⟩
  have hb3 : Below W0.heap.size W0 w2 := by rw [hw2]; exact ((Below.refl _ W0).alloc (Nat.le_refl _) _).alloc (by simp) _
  have r4 : w2.heap[W0.heap.size]? = some (.cells #[.slice A hs.length cA, .int .i64 page, .int .i64 gap] 42 (0, 0)) := by
    rw [hw2]; exact (Below.heap_alloc _ _ _ (by simp)).trans (World.alloc_heap_new W0 _)
  have r5 : w2.heap[W0.heap.size + 1]? = some (.cells #[.int .i64 a] 3 (0, 0)) := by
    rw [hw2]; have := World.alloc_heap_new (W0.alloc (.cells #[.slice A hs.length cA, .int .i64 page, .int .i64 gap] 42)) (.cells #[.int .i64 a] 3); rwa [World.size_alloc] at this
  have hz2 : W0.heap.size + 2 ≤ w2.heap.size := by rw [hw2]; simp
  have hbw : Below w.heap.size w w2 := hb0.trans (hb3.mono (by omega))
  have r1 := (hb3.block _ (by omega)).trans p1
  have r2 := (hb3.block _ (by omega)).trans p2
  have r3 := (hb3.block _ (by omega)).trans p3
  clear hw2 p1 p2 p3
  gi_wp2
  refine wpIn_rangeFunc_cells rfl (by omega) (gf := 36) (lb := #[.pointer (some ⟨W0.heap.size, 0, none⟩), .pointer (some ⟨W0.heap.size + 1, 0, none⟩)]) rfl trivial (enters_of Tryd.func36 (by kernel_rfl) rfl)
    (parts_stops (3 - 1) (by omega) (W0.heap.size + 2) W0.heap.size (W0.heap.size + 1) a cA A hs page gap w2 r4 r5 (by omega) (by omega) ?hA' L ha)
    (Below.refl _ _) (fun h k => h.trans k) ?kb (fun _ => rfl)
    (fun pre W => Below w.heap.size w W ∧ W.heap[w.heap.size + 1]? = some (.cells #[.int .i64 q] 3 (0, 0)) ∧ W.heap[w.heap.size + 2]? = some (.cells #[.int .i64 0, .int .i64 0] 44 (0, 0)) ∧ W.heap[w.heap.size + 3]? = some (.cells #[.bool false] 4 (0, 0)) ∧ ∀ x ∈ pre, x.1 ≠ q)
    (fun pre W => Below w.heap.size w W ∧ ∃ x : Int × Int, W.heap[w.heap.size + 2]? = some (.cells #[.int .i64 x.1, .int .i64 x.2] 44 (0, 0)) ∧ W.heap[w.heap.size + 3]? = some (.cells #[.bool true] 4 (0, 0)) ∧ findI hs page gap a q = (x, true)) ?hI ?hIx ⟨hbw, r1, r2, r3, by simp⟩
    (fun x a' W => ∃ bx, w2.heap.size + 2 ≤ bx ∧ W.heap[bx]? = some (.cells #[.int .i64 x.1, .int .i64 x.2] 44 (0, 0)) ∧ a' = { tmps := #[.agg #[.slice A hs.length cA, .int .i64 page, .int .i64 gap], .int .i64 a, .int .i64 q, .pointer (some ⟨w.heap.size, 0, none⟩), undef, .pointer (some ⟨w.heap.size + 1, 0, none⟩), .pointer (some ⟨w.heap.size + 1 + 1, 0, none⟩), .pointer (some ⟨w.heap.size + 1 + 1 + 1, 0, none⟩), .pointer (some ⟨bx, 0, none⟩), .agg #[.slice A hs.length cA, .int .i64 page, .int .i64 gap], .int .i64 a, .func (.func 36) #[] #[.pointer (some ⟨W0.heap.size, 0, none⟩), .pointer (some ⟨W0.heap.size + 1, 0, none⟩)], .agg #[.int .i64 x.1, .int .i64 x.2], undef, undef, undef, undef, undef, undef], defers := [] })
    ?hAx ?assign ?body ?done ?stop
  case hA' =>
    intro B1 w' h
    refine Kd.C_below hA'.out ⟨h.1.trans hbw.os, h.2.1.trans hbw.tape, h.2.2.1.trans hbw.output, Nat.le_trans hbw.size h.2.2.2.1, fun i hi => ?_⟩
    have := hbw.size
    exact (h.2.2.2.2 i (by omega) (by omega) (.inl (by omega))).trans (hbw.block i hi)
  case kb =>
    intro W o hW
    exact ⟨rfl, rfl, rfl, by simp, fun i hi h1 h2 => World.putObj_heap_other (by omega)⟩
  case hI =>
    intro pre W W' h hb
    have := hbw.size
    exact ⟨h.1.trans (hb.mono (by omega)), (hb.block _ (by omega)).trans h.2.1, (hb.block _ (by omega)).trans h.2.2.1, (hb.block _ (by omega)).trans h.2.2.2.1, h.2.2.2.2⟩
  case hIx =>
    rintro pre W W' ⟨h, x, h1, h2, h3⟩ hb
    have := hbw.size
    exact ⟨h.trans (hb.mono (by omega)), x, (hb.block _ (by omega)).trans h1, (hb.block _ (by omega)).trans h2, h3⟩
  case hAx =>
    rintro x a' W o ⟨bx, hx0, hx1, rfl⟩
    exact ⟨bx, hx0, (World.putObj_heap_other (by omega)).trans hx1, rfl⟩
  case assign =>
    rintro l pre x W K0 hWs ⟨i0, i1, i2, i3, i4⟩ hK
    gi_wp2
    have hbl : Below W.heap.size W (W.alloc (.cells #[.int .i64 x.1, .int .i64 x.2] 44)) := (Below.refl _ W).alloc (Nat.le_refl _) _
    have := hbw.size
    have := i0.size
    refine hK _ _ ⟨hbl.block _ (by omega), hbl.block _ (by omega)⟩ ⟨rfl, rfl, rfl, by simp, fun i hi _ _ => hbl.block i hi⟩ ⟨i0.trans (hbl.mono (by omega)), (hbl.block _ (by omega)).trans i1, (hbl.block _ (by omega)).trans i2, (hbl.block _ (by omega)).trans i3, i4⟩ ⟨W.heap.size, by omega, World.alloc_heap_new W _, rfl⟩
  case body =>
    rintro l pre x a' W hWs ⟨i0, i1, i2, i3, i4⟩ ⟨bx, hx0, hx1, rfl⟩ ⟨hlen, hxe, hpre⟩
    have hbs := hbw.size
    have hbs0 := i0.size
    have x0 : W.cell? ⟨bx, 0, none⟩ = some (.int .i64 x.1) := (blk_cell hx1 0).trans rfl
    have x1 : W.cell? ⟨bx, 1, none⟩ = some (.int .i64 x.2) := (blk_cell hx1 1).trans rfl
    have y1 : W.cell? ⟨w.heap.size + 1, 0, none⟩ = some (.int .i64 q) := (blk_cell i1 0).trans rfl
    have y2 : W.cell? ⟨w.heap.size + 1 + 1, 0, none⟩ = some (.int .i64 0) := (blk_cell i2 0).trans rfl
    have y3 : W.cell? ⟨w.heap.size + 1 + 1, 1, none⟩ = some (.int .i64 0) := (blk_cell i2 1).trans rfl
    have y4 : W.cell? ⟨w.heap.size + 1 + 1 + 1, 0, none⟩ = some (.bool false) := (blk_cell i3 0).trans rfl
    have g2 := blk_frozen i2 0
    have g3 := blk_frozen i2 1
    have g4 := blk_frozen i3 0
    have hxq : x = (x.1, x.2) := rfl
    obtain ⟨u, v⟩ := x
    have hF : ∀ h : u = q, findI hs page gap a q = ((u, v), true) := by
      intro h
      subst h
      have e1 : u = (a : Int) + pre.length + 1 := congrArg Prod.fst hxe
      have e2 : v = restI hs page gap a (a + pre.length + 1) := congrArg Prod.snd hxe
      unfold findI
      rw [if_pos (by omega), e2]
      congr 3
      omega
    dsimp only at x0 x1
    clear hxe hpre
    by_cases hq : u = q
    · have hF' := Aside0.mk (hF hq)
      have hqb : (u == q) = true := by rw [beq_iff_eq]; exact hq
      clear hq hF
      gi_wp2
      obtain ⟨W7, hW7⟩ : ∃ W7, (((W.setCell ⟨w.heap.size + 1 + 1, 0, none⟩ (.int .i64 u)).setCell ⟨w.heap.size + 1 + 1, 1, none⟩ (.int .i64 v)).setCell ⟨w.heap.size + 1 + 1 + 1, 0, none⟩ (.bool true)) = W7 := ⟨_, rfl⟩
      have hk7 : ∀ i, i ≠ w.heap.size + 1 + 1 → i ≠ w.heap.size + 1 + 1 + 1 → W7.heap[i]? = W.heap[i]? := by
        intro i h1 h2
        rw [← hW7]
        exact (Below.heap_setCell _ ⟨w.heap.size + 1 + 1 + 1, 0, none⟩ _ i h2).trans ((Below.heap_setCell _ ⟨w.heap.size + 1 + 1, 1, none⟩ _ i h1).trans (Below.heap_setCell _ ⟨w.heap.size + 1 + 1, 0, none⟩ _ i h1))
      have hb7 : Below (w.heap.size + 1 + 1) W W7 := by rw [← hW7]; exact (((Below.refl _ W).setCell (p := ⟨w.heap.size + 1 + 1, 0, none⟩) (Nat.le_refl _) _).setCell (p := ⟨w.heap.size + 1 + 1, 1, none⟩) (Nat.le_refl _) _).setCell (p := ⟨w.heap.size + 1 + 1 + 1, 0, none⟩) (by show w.heap.size + 1 + 1 ≤ w.heap.size + 1 + 1 + 1; omega) _
      have n2 : W7.heap[w.heap.size + 2]? = some (.cells #[.int .i64 u, .int .i64 v] 44 (0, 0)) := by
        rw [← hW7]
        exact (Below.heap_setCell _ ⟨w.heap.size + 1 + 1 + 1, 0, none⟩ _ _ (by show w.heap.size + 2 ≠ w.heap.size + 1 + 1 + 1; omega)).trans (blk_put (blk_put i2 0 _ rfl) 1 _ rfl)
      have n3 : W7.heap[w.heap.size + 3]? = some (.cells #[.bool true] 4 (0, 0)) := by
        rw [← hW7]
        exact blk_put ((Below.heap_setCell _ ⟨w.heap.size + 1 + 1, 1, none⟩ _ _ (by show w.heap.size + 3 ≠ w.heap.size + 1 + 1; omega)).trans ((Below.heap_setCell _ ⟨w.heap.size + 1 + 1, 0, none⟩ _ _ (by show w.heap.size + 3 ≠ w.heap.size + 1 + 1; omega)).trans i3)) 0 _ rfl
      rw [hW7]
      clear hW7
      exact ⟨⟨hk7 _ (by omega) (by omega), hk7 _ (by omega) (by omega)⟩, i0.trans (hb7.mono (by omega)), u, v, n2, n3, hF'.out⟩
    · have hqb : (u == q) = false := beq_eq_false_iff_ne.mpr hq
      clear hF
      gi_wp2
      refine postC_go ⟨rfl, rfl⟩ (KM.refl _) ⟨i0, i1, i2, i3, ?_⟩
      intro y1 y2 hy
      rcases List.mem_append.1 hy with hy | hy
      · exact i4 (y1, y2) hy
      · have := congrArg Prod.fst (List.mem_singleton.1 hy); dsimp only at this; rw [this]; exact hq
  case done =>
    rintro D xs W hD rfl ⟨i0, i1, i2, i3, i4⟩ hK
    have hF : findI hs page gap a q = ((0, 0), false) := by
      unfold findI
      rw [if_neg]
      rintro ⟨h1, h2⟩
      obtain ⟨k, hk⟩ : ∃ k : Nat, q = (a : Int) + k + 1 := ⟨(q - a - 1).toNat, by omega⟩
      refine i4 (itP hs page gap a k) ?_ ?_
      · unfold partsI; exact List.mem_map.2 ⟨k, List.mem_range.2 (by omega), rfl⟩
      · show (a : Int) + k + 1 = q; omega
    have y2 : W.cell? ⟨w.heap.size + 1 + 1, 0, none⟩ = some (.int .i64 0) := (blk_cell i2 0).trans rfl
    have y3 : W.cell? ⟨w.heap.size + 1 + 1, 1, none⟩ = some (.int .i64 0) := (blk_cell i2 1).trans rfl
    have y4 : W.cell? ⟨w.heap.size + 1 + 1 + 1, 0, none⟩ = some (.bool false) := (blk_cell i3 0).trans rfl
    have g2 := blk_frozen i2 0
    have g3 := blk_frozen i2 1
    have g4 := blk_frozen i3 0
    gi_wp2
    obtain ⟨W7, hW7⟩ : ∃ W7, (((W.setCell ⟨w.heap.size + 1 + 1, 0, none⟩ (.int .i64 0)).setCell ⟨w.heap.size + 1 + 1, 1, none⟩ (.int .i64 0)).setCell ⟨w.heap.size + 1 + 1 + 1, 0, none⟩ (.bool false)) = W7 := ⟨_, rfl⟩
    have hs2 := i0.size
    have hlD := blk_lt hK
    have hzw := hbw.size
    have hb7 : Below (w.heap.size + 1 + 1) W W7 := by rw [← hW7]; exact (((Below.refl _ W).setCell (p := ⟨w.heap.size + 1 + 1, 0, none⟩) (Nat.le_refl _) _).setCell (p := ⟨w.heap.size + 1 + 1, 1, none⟩) (Nat.le_refl _) _).setCell (p := ⟨w.heap.size + 1 + 1 + 1, 0, none⟩) (by show w.heap.size + 1 + 1 ≤ w.heap.size + 1 + 1 + 1; omega) _
    have n2 : W7.heap[w.heap.size + 2]? = some (.cells #[.int .i64 0, .int .i64 0] 44 (0, 0)) := by
      rw [← hW7]
      exact (Below.heap_setCell _ ⟨w.heap.size + 1 + 1 + 1, 0, none⟩ _ _ (by show w.heap.size + 2 ≠ w.heap.size + 1 + 1 + 1; omega)).trans (blk_put (blk_put i2 0 _ rfl) 1 _ rfl)
    have n3 : W7.heap[w.heap.size + 3]? = some (.cells #[.bool false] 4 (0, 0)) := by
      rw [← hW7]
      exact blk_put ((Below.heap_setCell _ ⟨w.heap.size + 1 + 1, 1, none⟩ _ _ (by show w.heap.size + 3 ≠ w.heap.size + 1 + 1; omega)).trans ((Below.heap_setCell _ ⟨w.heap.size + 1 + 1, 0, none⟩ _ _ (by show w.heap.size + 3 ≠ w.heap.size + 1 + 1; omega)).trans i3)) 0 _ rfl
    have nD : W7.heap[D]? = some (.deferred (some [])) := by
      rw [← hW7]
      exact (Below.heap_setCell _ ⟨w.heap.size + 1 + 1 + 1, 0, none⟩ _ _ (by show D ≠ w.heap.size + 1 + 1 + 1; omega)).trans ((Below.heap_setCell _ ⟨w.heap.size + 1 + 1, 1, none⟩ _ _ (by show D ≠ w.heap.size + 1 + 1; omega)).trans ((Below.heap_setCell _ ⟨w.heap.size + 1 + 1, 0, none⟩ _ _ (by show D ≠ w.heap.size + 1 + 1; omega)).trans hK))
    rw [hW7]
    clear hW7
    rw [hF]
    exact ret26D (n := w.heap.size) (r := ((0, 0), false)) _ rfl rfl (by omega) (by omega) nD n2 n3 (i0.trans (hb7.mono (by omega)))
  case stop =>
    rintro D pre W hD _ ⟨i0, x, i1, i2, hF⟩ hK
    gi_wp2
    have hzw := hbw.size
    rw [hF]
    exact ret26D (n := w.heap.size) (r := (x, true)) _ rfl rfl (by omega) (by omega) hK i1 i2 i0
end Go.Proofs.YtbpcilbplgbonaaDoor.Q
