import Derived.Test.YtneaoicjbiebkaaDoorFrom
import Derived.RangeFuncLeaves
import Derived.Test.YtneaoicjbiebkaaDoorHeldIn
namespace Go.Proofs.YtneaoicjbiebkaaDoor.Q
open Go.Maps Go.RowKit Go.Proofs.YtneaoicjbiebkaaDoorW.PrintWords Go.Proofs.YtneaoicjbiebkaaDoorW.PrintLast Go.Shelf
attribute [local go_sem] Oper.semAt_some
set_option linter.unusedVariables false
set_option linter.unusedSimpArgs false
/-- The better one of the best way so far and a system with what lies behind it. -/
def stepW (g : Int → Way) (out : Way) (x : Int × Int × Int) : Way :=
  let t := wrap64 (wrap64 (x.2.2 + 10) + (g x.2.1).2.2.2)
  if out.2.1 = 0 ∨ t ≤ out.2.2.2 then (x.1, x.2.1, x.2.2, t) else out
def bestW (g : Int → Way) (l : List (Int × Int × Int)) : Way := l.foldl (stepW g) (0, 0, 0, 0)
theorem itS_snoc {K : Nat} {ws ss : List Int} {line : Int} {a k : Nat} {pre : List (Int × Int × Int)} {x : Int × Int × Int} (h : itS K ws ss line a (k + 1) = pre ++ [x]) : x.2.1 = (a : Int) + k + 1 := by
  unfold itS at h
  rw [List.range_succ, List.map_append] at h
  have := (List.append_inj' h rfl).2
  simp at this
  rw [← this]
theorem bestW_snoc (g : Int → Way) (l : List (Int × Int × Int)) (x : Int × Int × Int) : bestW g (l ++ [x]) = stepW g (bestW g l) x := by unfold bestW; rw [List.foldl_append]; rfl
theorem Ways.ne {W : World} {b n B : Nat} {g : Int → Way} {cs : Array Value} {t : TypeId} (h : Ways W b n g) (hB : W.heap[B]? = some (.cells cs t (0, 0))) : b ≠ B := by
  rintro rfl
  obtain ⟨D, ⟨es, clock, h0, F, hs, rfl⟩, hg⟩ := h
  rw [hB] at h0; cases h0
theorem wrap_w64 (n : Int) : IntKind.i64.wrap n = wrap64 n := by rw [IntKind.wrap_i64]; unfold wrap64; omega
theorem postC_go {α : Type} {B : Nat} {Kp : Nat → World → World → Prop} {I Ix : List α → World → Prop} {xs : List α} {W W' : World} {a : Act} (h : Booked B W W') (h1 : Kp (B + 2) W W') (h2 : I xs W') : postC B Kp I Ix xs W .normal a W' := ⟨h, h1, h2⟩
theorem put4 {W : World} {b : Nat} {t : TypeId} {c0 c1 c2 c3 d0 d1 d2 d3 : Value} (h : W.heap[b]? = some (.cells #[c0, c1, c2, c3] t (0, 0))) :
    ((((W.setCell ⟨b, 0, none⟩ d0).setCell ⟨b, 1, none⟩ d1).setCell ⟨b, 2, none⟩ d2).setCell ⟨b, 3, none⟩ d3).heap[b]? = some (.cells #[d0, d1, d2, d3] t (0, 0)) :=
  blk_put (blk_put (blk_put (blk_put h 0 d0 rfl) 1 d1 rfl) 2 d2 rfl) 3 d3 rfl
theorem put4_below {W : World} {B b : Nat} {d0 d1 d2 d3 : Value} (h : B ≤ b) : Below B W ((((W.setCell ⟨b, 0, none⟩ d0).setCell ⟨b, 1, none⟩ d1).setCell ⟨b, 2, none⟩ d2).setCell ⟨b, 3, none⟩ d3) :=
  ((((Below.refl _ W).setCell (p := ⟨b, 0, none⟩) h _).setCell (p := ⟨b, 1, none⟩) h _).setCell (p := ⟨b, 2, none⟩) h _).setCell (p := ⟨b, 3, none⟩) h _
theorem put4_far {W : World} {i b : Nat} {d0 d1 d2 d3 : Value} (h : i ≠ b) : ((((W.setCell ⟨b, 0, none⟩ d0).setCell ⟨b, 1, none⟩ d1).setCell ⟨b, 2, none⟩ d2).setCell ⟨b, 3, none⟩ d3).heap[i]? = W.heap[i]? :=
  (Below.heap_setCell _ ⟨b, 3, none⟩ _ i h).trans ((Below.heap_setCell _ ⟨b, 2, none⟩ _ i h).trans ((Below.heap_setCell _ ⟨b, 1, none⟩ _ i h).trans (Below.heap_setCell _ ⟨b, 0, none⟩ _ i h)))
set_option maxHeartbeats 2000000 in
set_option maxRecDepth 100000 in
theorem from_calls (Bk bm K a m nn cA cB : Nat) (A B : Option Addr) (ws ss : List Int) (line : Int) (g : Int → Way) (w : World)
    (hk : w.heap[Bk]? = some (.cells #[.slice A ws.length cA, .slice B ss.length cB, .int .i64 line, .map (some bm)] 49 (0, 0))) (hg : Ways w bm nn g) (hnn : nn < 1000)
    (hA : ∀ w', Below w.heap.size w w' → Kd.C (Kd.int .i64) w' A ws.length ws) (hB : ∀ w', Below w.heap.size w w' → Kd.C (Kd.int .i64) w' B ss.length ss) (hl : ss.length = ws.length) (hw : ws.length ≤ 1000) (ha : a + m ≤ ws.length)
    (hc : ∀ b, a < b → b ≤ ws.length → ∃ r, systems_Cost.f K (sumF ws a b) (sumF ss a b) line = some r) (hs : ∀ l, l = ws ∨ l = ss → ∀ b, (sumF l a b).natAbs ≤ 1000000000000)
    (h1 : ∀ k, k < m → (costS K ws ss line a (a + k + 1)).2 = true) (h2 : a + m < ws.length → (costS K ws ss line a (a + m + 1)).2 = false) :
    Calls Tryd.prog 24 #[.pointer (some ⟨Bk, 0, none⟩), .int .i64 a] w fun e w' => (∃ v, e = .returned v) ∧ Ways w' bm (nn + 1) (fun j => if j = a then bestW g (itS K ws ss line a m) else g j) ∧ w.grownBy w' (some bm) := by
  have hu46 := Tryd.underlying46
  have hu49 := Tryd.underlying49
  have hu38 := Tryd.underlying38
  have hu59 := Tryd.underlying59
  have lBk := blk_lt hk
  have hl' := Aside0.mk hl
  clear hl
  have hb2 : Below w.heap.size w ((w.alloc (.cells #[.pointer (some ⟨Bk, 0, none⟩)] 44)).alloc (.cells #[.int .i64 0, .int .i64 0, .int .i64 0, .int .i64 0] 59)) := ((Below.refl _ w).alloc (Nat.le_refl _) _).alloc (by simp) _
  have c0 : ((w.alloc (.cells #[.pointer (some ⟨Bk, 0, none⟩)] 44)).alloc (.cells #[.int .i64 0, .int .i64 0, .int .i64 0, .int .i64 0] 59)).cell? ⟨Bk, 0, none⟩ = some (.slice A ws.length cA) := (blk_cell ((hb2.block Bk lBk).trans hk) 0).trans rfl
  have c1 : ((w.alloc (.cells #[.pointer (some ⟨Bk, 0, none⟩)] 44)).alloc (.cells #[.int .i64 0, .int .i64 0, .int .i64 0, .int .i64 0] 59)).cell? ⟨Bk, 1, none⟩ = some (.slice B ss.length cB) := (blk_cell ((hb2.block Bk lBk).trans hk) 1).trans rfl
  have c2 : ((w.alloc (.cells #[.pointer (some ⟨Bk, 0, none⟩)] 44)).alloc (.cells #[.int .i64 0, .int .i64 0, .int .i64 0, .int .i64 0] 59)).cell? ⟨Bk, 2, none⟩ = some (.int .i64 line) := (blk_cell ((hb2.block Bk lBk).trans hk) 2).trans rfl
  refine (callsIn_wide (n := 3)).1 ?_
  refine callsIn_of_wp_marks Tryd.func24 rfl trivial ?_ rfl
  simp only [Tryd.ntmps24, List.size_toArray, List.length_cons, List.length_nil, Nat.reduceAdd, Nat.reduceSub, Array.replicate_succ, Array.replicate_zero, List.push_toArray, List.append_toArray, List.nil_append, List.cons_append]
  gi_wp2
  refine ⟨trivial, ?_⟩
  refine (callsIn_wide.2 (systems_call _ _ _ _ _)).mono ?_
  rintro e w2 ⟨rfl, hw2⟩
  gi_wp2
  rw [← hw2]
  have p0 : w2.heap[w.heap.size]? = some (.cells #[.pointer (some ⟨Bk, 0, none⟩)] 44 (0, 0)) := by
    rw [hw2]; exact (Below.heap_alloc _ _ _ (by simp <;> omega)).trans ((Below.heap_alloc _ _ _ (by simp <;> omega)).trans ((Below.heap_alloc _ _ _ (by simp)).trans (World.alloc_heap_new w _)))
  have p1 : w2.heap[w.heap.size + 1]? = some (.cells #[.int .i64 0, .int .i64 0, .int .i64 0, .int .i64 0] 59 (0, 0)) := by
    rw [hw2]; refine (Below.heap_alloc _ _ _ (by simp <;> omega)).trans ((Below.heap_alloc _ _ _ (by simp)).trans ?_)
    have := World.alloc_heap_new (w.alloc (.cells #[.pointer (some ⟨Bk, 0, none⟩)] 44)) (.cells #[.int .i64 0, .int .i64 0, .int .i64 0, .int .i64 0] 59); rwa [World.size_alloc] at this
  have p2 : w2.heap[w.heap.size + 1 + 1]? = some (.cells #[.slice A ws.length cA, .slice B ss.length cB, .int .i64 line] 46 (0, 0)) := by
    rw [hw2]; refine (Below.heap_alloc _ _ _ (by simp)).trans ?_
    have := World.alloc_heap_new ((w.alloc (.cells #[.pointer (some ⟨Bk, 0, none⟩)] 44)).alloc (.cells #[.int .i64 0, .int .i64 0, .int .i64 0, .int .i64 0] 59)) (.cells #[.slice A ws.length cA, .slice B ss.length cB, .int .i64 line] 46); rwa [World.size_alloc, World.size_alloc] at this
  have p3 : w2.heap[w.heap.size + 1 + 1 + 1]? = some (.cells #[.int .i64 a] 3 (0, 0)) := by
    rw [hw2]
    have := World.alloc_heap_new (((w.alloc (.cells #[.pointer (some ⟨Bk, 0, none⟩)] 44)).alloc (.cells #[.int .i64 0, .int .i64 0, .int .i64 0, .int .i64 0] 59)).alloc (.cells #[.slice A ws.length cA, .slice B ss.length cB, .int .i64 line] 46)) (.cells #[.int .i64 a] 3); rwa [World.size_alloc, World.size_alloc, World.size_alloc] at this
  have hbw : Below w.heap.size w w2 := by rw [hw2]; exact (hb2.alloc (by simp <;> omega) _).alloc (by simp <;> omega) _
  have hsz : w2.heap.size = w.heap.size + 4 := by rw [hw2]; simp
  clear hw2 c0 c1 c2 hb2
  refine wpIn_rangeFunc_cells rfl (by omega) (gf := 33) (lb := #[.pointer (some ⟨w.heap.size + 1 + 1, 0, none⟩), .pointer (some ⟨w.heap.size + 1 + 1 + 1, 0, none⟩)]) rfl trivial (enters_of Tryd.func33 (by kernel_rfl) rfl)
    (systems_stops (3 - 1) (by omega) w.heap.size (w.heap.size + 1 + 1) (w.heap.size + 1 + 1 + 1) K a m cA cB A B ws ss line w2 p2 p3 (by omega) (fun w' h => hA w' (hbw.trans h)) (fun w' h => hB w' (hbw.trans h)) hl'.out hw ha hc hs h1 h2)
    (Below.refl _ _) (fun h k => h.trans k) ?kb (fun _ => rfl)
    (fun pre W => W.heap[w.heap.size]? = some (.cells #[.pointer (some ⟨Bk, 0, none⟩)] 44 (0, 0)) ∧ W.heap[w.heap.size + 1]? = some (.cells #[.int .i64 (bestW g pre).1, .int .i64 (bestW g pre).2.1, .int .i64 (bestW g pre).2.2.1, .int .i64 (bestW g pre).2.2.2] 59 (0, 0)) ∧ Below w.heap.size w W)
    (fun _ _ => False) ?hI (fun _ _ _ h _ => h.elim) ⟨p0, p1, hbw⟩
    (fun x a' W => ∃ bx, w.heap.size + 6 ≤ bx ∧ W.heap[bx]? = some (.cells #[.int .i64 x.1, .int .i64 x.2.1, .int .i64 x.2.2] 38 (0, 0)) ∧ a' = { tmps := #[.pointer (some ⟨Bk, 0, none⟩), .int .i64 a, .pointer (some ⟨w.heap.size, 0, none⟩), undef, .pointer (some ⟨w.heap.size + 1, 0, none⟩), .pointer (some ⟨bx, 0, none⟩), undef, .pointer (some ⟨Bk, 0, none⟩), .pointer (some ⟨Bk, 0, none⟩), .pointer (some ⟨Bk, 0, none⟩), .agg #[.slice A ws.length cA, .slice B ss.length cB, .int .i64 line], .int .i64 a, .func (.func 33) #[] #[.pointer (some ⟨w.heap.size + 1 + 1, 0, none⟩), .pointer (some ⟨w.heap.size + 1 + 1 + 1, 0, none⟩)], .agg #[.int .i64 x.1, .int .i64 x.2.1, .int .i64 x.2.2], undef, undef, undef, undef, undef, undef, undef, undef, undef, undef, undef, undef, undef, undef, undef, undef, undef, undef, undef, undef, undef, undef, undef, undef, undef, undef, undef, undef, undef, undef, undef, undef], defers := [] })
    ?hAx ?assign ?body ?done ?stop
  case kb =>
    intro W o hW
    exact ⟨below_putObj W o (by omega), fun i hi hc => World.putObj_heap_other (by omega)⟩
  case hI =>
    intro pre W W' h hb
    exact ⟨(hb.block _ (by omega)).trans h.1, (hb.block _ (by omega)).trans h.2.1, h.2.2.trans (hb.mono (by omega))⟩
  case hAx =>
    rintro x a' W o ⟨bx, hx0, hx1, rfl⟩
    exact ⟨bx, hx0, (World.putObj_heap_other (by omega)).trans hx1, rfl⟩
  case assign =>
    rintro l pre x W K0 hWs ⟨i0, i1, i2⟩ hK
    gi_wp2
    have hbl : Below W.heap.size W (W.alloc (.cells #[.int .i64 x.1, .int .i64 x.2.1, .int .i64 x.2.2] 38)) := (Below.refl _ W).alloc (Nat.le_refl _) _
    refine hK _ _ ⟨hbl.block _ (by omega), hbl.block _ (by omega)⟩ ⟨hbl.mono (by omega), fun i hi _ => hbl.block i hi⟩ ⟨(hbl.block _ (by omega)).trans i0, (hbl.block _ (by omega)).trans i1, i2.trans (hbl.mono (by omega))⟩ ⟨W.heap.size, by omega, World.alloc_heap_new W _, rfl⟩
  case body =>
    rintro l pre x a' W hWs ⟨i0, i1, i2⟩ ⟨bx, hx0, hx1, rfl⟩ ⟨hlen, hsn⟩
    have x0 : W.cell? ⟨bx, 0, none⟩ = some (.int .i64 x.1) := (blk_cell hx1 0).trans rfl
    have x1 : W.cell? ⟨bx, 1, none⟩ = some (.int .i64 x.2.1) := (blk_cell hx1 1).trans rfl
    have x2 : W.cell? ⟨bx, 2, none⟩ = some (.int .i64 x.2.2) := (blk_cell hx1 2).trans rfl
    have y0 : W.cell? ⟨w.heap.size, 0, none⟩ = some (.pointer (some ⟨Bk, 0, none⟩)) := (blk_cell i0 0).trans rfl
    have y1 : W.cell? ⟨Bk, 3, none⟩ = some (.map (some bm)) := (blk_cell ((i2.block Bk lBk).trans hk) 3).trans rfl
    have hwx : (Lit.int .i64 x.2.1).wf = true := by rw [itS_snoc hsn]; rw [show (Lit.int .i64 ((a : Int) + pre.length + 1)).wf = true ↔ IntKind.i64.min ≤ (a : Int) + pre.length + 1 ∧ (a : Int) + pre.length + 1 ≤ IntKind.i64.max by simp [Lit.wf]]; exact ⟨by show -9223372036854775808 ≤ _; omega, by show _ ≤ (9223372036854775807 : Int); omega⟩
    have hfd := fun W' => field59_1 (g x.2.1).1 (g x.2.1).2.1 (g x.2.1).2.2.1 (g x.2.1).2.2.2 W'
    have hlx := blk_lt hx1
    obtain ⟨S, hSd⟩ : ∃ S : World → Prop, Aside0 (S = fun W' => W'.cell? ⟨bx, 0, none⟩ = some (.int .i64 x.1) ∧ W'.cell? ⟨bx, 1, none⟩ = some (.int .i64 x.2.1) ∧ W'.cell? ⟨bx, 2, none⟩ = some (.int .i64 x.2.2) ∧
        W'.cell? ⟨w.heap.size, 0, none⟩ = some (.pointer (some ⟨Bk, 0, none⟩)) ∧ W'.cell? ⟨Bk, 3, none⟩ = some (.map (some bm)) ∧ (Instr.lookup 47 (.map (some bm)) (.int .i64 x.2.1) false).run Tryd.prog W' = .ok (.agg #[.int .i64 (g x.2.1).1, .int .i64 (g x.2.1).2.1, .int .i64 (g x.2.1).2.2.1, .int .i64 (g x.2.1).2.2.2]) W') := ⟨_, ⟨rfl⟩⟩
    have lBk2 : Bk < W.heap.size := by omega
    have hS : ∀ W', Below W.heap.size W W' → S W' := by
      intro W' hb
      rw [hSd.out]
      refine ⟨(hb.cell (p := ⟨bx, 0, none⟩) hlx).trans x0, (hb.cell (p := ⟨bx, 1, none⟩) hlx).trans x1, (hb.cell (p := ⟨bx, 2, none⟩) hlx).trans x2, (hb.cell (p := ⟨w.heap.size, 0, none⟩) (by show w.heap.size < W.heap.size; omega)).trans y0, (hb.cell (p := ⟨Bk, 3, none⟩) lBk2).trans y1, ?_⟩
      exact (hg.below (i2.trans (hb.mono (by omega))) hg.lt).run hwx
    gi_wp2
    refine wpIn_region_S S (by kernel_rfl) (hS _ (Below.refl _ W).drew) ?_
    have s0 := hS _ (Below.refl _ W).drew
    refine wpAnyS_take 0 (v := ?v0) rfl (by kernel_rfl) (by kernel_rfl) (by kernel_rfl) (fun _ _ _ h => h) s0 (by kernel_rfl) (fun _ => rfl) ?hy0 ?rest0
    case hy0 =>
      intro W' h
      rw [hSd.out] at h
      obtain ⟨z0, z1, z2, z3, z4, z5⟩ := h
      go_simp
      first | done | with_reducible rfl | trace_state
    refine wpAnyS_take 1 (v := ?v1) rfl (by kernel_rfl) (by kernel_rfl) (by kernel_rfl) (fun _ _ _ h => h) s0 (by kernel_rfl) (fun _ => rfl) ?hy1 ?rest1
    case hy1 =>
      intro W' h
      rw [hSd.out] at h
      obtain ⟨z0, z1, z2, z3, z4, z5⟩ := h
      go_simp
      first | done | with_reducible rfl | trace_state
    refine wpAnyS_take 2 (v := ?v2) rfl (by kernel_rfl) (by kernel_rfl) (by kernel_rfl) (fun _ _ _ h => h) s0 (by kernel_rfl) (fun _ => rfl) ?hy2 ?rest2
    case hy2 =>
      intro W' h
      rw [hSd.out] at h
      obtain ⟨z0, z1, z2, z3, z4, z5⟩ := h
      go_simp
      first | done | with_reducible rfl | trace_state
    refine wpAnyS_take 3 (v := ?v3) rfl (by kernel_rfl) (by kernel_rfl) (by kernel_rfl) (fun _ _ _ h => h) s0 (by kernel_rfl) (fun _ => rfl) ?hy3 ?rest3
    case hy3 =>
      intro W' h
      rw [hSd.out] at h
      obtain ⟨z0, z1, z2, z3, z4, z5⟩ := h
      go_simp
      first | done | with_reducible rfl | trace_state
    refine wpAnyS_take 4 (v := ?v4) rfl (by kernel_rfl) (by kernel_rfl) (by kernel_rfl) (fun _ _ _ h => h) s0 (by kernel_rfl) (fun _ => rfl) ?hy4 ?rest4
    case hy4 =>
      intro W' h
      rw [hSd.out] at h
      obtain ⟨z0, z1, z2, z3, z4, z5⟩ := h
      go_simp
      first | done | with_reducible rfl | trace_state
    refine wpAnyS_take 5 (v := ?v5) rfl (by kernel_rfl) (by kernel_rfl) (by kernel_rfl) (fun _ _ _ h => h) s0 (by kernel_rfl) (fun _ => rfl) ?hy5 ?rest5
    case hy5 =>
      intro W' h
      rw [hSd.out] at h
      obtain ⟨z0, z1, z2, z3, z4, z5⟩ := h
      go_simp
      first | done | with_reducible rfl | trace_state
    refine wpAnyS_take 6 (v := ?v6) rfl (by kernel_rfl) (by kernel_rfl) (by kernel_rfl) (fun _ _ _ h => h) s0 (by kernel_rfl) (fun _ => rfl) ?hy6 ?rest6
    case hy6 =>
      intro W' h
      rw [hSd.out] at h
      obtain ⟨z0, z1, z2, z3, z4, z5⟩ := h
      go_simp
      first | done | with_reducible rfl | trace_state
    refine wpAnyS_take 7 (v := ?v7) rfl (by kernel_rfl) (by kernel_rfl) (by kernel_rfl) (fun _ _ _ h => h) s0 (by kernel_rfl) (fun _ => rfl) ?hy7 ?rest7
    case hy7 =>
      intro W' h
      rw [hSd.out] at h
      obtain ⟨z0, z1, z2, z3, z4, z5⟩ := h
      go_simp
      first | done | with_reducible rfl | trace_state
    refine wpAnyS_take 8 (v := ?v8) rfl (by kernel_rfl) (by kernel_rfl) (by kernel_rfl) (fun _ _ _ h => h) s0 (by kernel_rfl) (fun _ => rfl) ?hy8 ?rest8
    case hy8 =>
      intro W' h
      rw [hSd.out] at h
      obtain ⟨z0, z1, z2, z3, z4, z5⟩ := h
      go_simp
      first | done | with_reducible rfl | trace_state
    refine wpAnyS_take 9 (v := ?v9) rfl (by kernel_rfl) (by kernel_rfl) (by kernel_rfl) (fun _ _ _ h => h) s0 (by kernel_rfl) (fun _ => rfl) ?hy9 ?rest9
    case hy9 =>
      intro W' h
      rw [hSd.out] at h
      obtain ⟨z0, z1, z2, z3, z4, z5⟩ := h
      go_simp
      first | done | with_reducible rfl | trace_state
    refine wpAnyS_take 10 (v := ?v10) rfl (by kernel_rfl) (by kernel_rfl) (by kernel_rfl) (fun _ _ _ h => h) s0 (by kernel_rfl) (fun _ => rfl) ?hy10 ?rest10
    case hy10 =>
      intro W' h
      rw [hSd.out] at h
      obtain ⟨z0, z1, z2, z3, z4, z5⟩ := h
      go_simp
      first | done | with_reducible rfl | trace_state
    refine wpAnyS_take 11 (v := ?v11) rfl (by kernel_rfl) (by kernel_rfl) (by kernel_rfl) (fun _ _ _ h => h) s0 (by kernel_rfl) (fun _ => rfl) ?hy11 ?rest11
    case hy11 =>
      intro W' h
      rw [hSd.out] at h
      obtain ⟨z0, z1, z2, z3, z4, z5⟩ := h
      go_simp
      first | done | with_reducible rfl | trace_state
    refine wpAnyS_take 12 (v := ?v12) rfl (by kernel_rfl) (by kernel_rfl) (by kernel_rfl) (fun _ _ _ h => h) s0 (by kernel_rfl) (fun _ => rfl) ?hy12 ?rest12
    case hy12 =>
      intro W' h
      rw [hSd.out] at h
      obtain ⟨z0, z1, z2, z3, z4, z5⟩ := h
      go_simp
      first | done | with_reducible rfl | trace_state
    refine wpAnyS_take 13 (v := ?v13) rfl (by kernel_rfl) (by kernel_rfl) (by kernel_rfl) (fun _ _ _ h => h) s0 (by kernel_rfl) (fun _ => rfl) ?hy13 ?rest13
    case hy13 =>
      intro W' h
      rw [hSd.out] at h
      obtain ⟨z0, z1, z2, z3, z4, z5⟩ := h
      go_simp
      first | done | with_reducible rfl | trace_state
    refine wpAnyS_one 14 (by kernel_rfl) rfl (by kernel_rfl) ?_
    go_simp
    have hbA : Below W.heap.size W (W.alloc (.cells #[.int .i64 0, .int .i64 0, .int .i64 0, .int .i64 0] 59)).drew := ((Below.refl _ W).alloc (Nat.le_refl _) _).drew
    refine ⟨hS _ hbA, ?_⟩
    have hbB : ∀ v, Below W.heap.size W (W.alloc (.cells v 59)).drew := fun v => ((Below.refl _ W).alloc (Nat.le_refl _) _).drew
    refine wpAnyS_one 15 (by kernel_rfl) rfl (by kernel_rfl) ?_
    go_simp
    refine ⟨hS _ (hbB _), ?_⟩
    refine wpAnyS_done (by kernel_rfl) ?_ 0
    obtain ⟨T, hT⟩ : ∃ T, IntKind.i64.wrap (IntKind.i64.wrap (x.2.2 + 10) + (g x.2.1).2.2.2) = T := ⟨_, rfl⟩
    rw [hT]
    obtain ⟨W3, hW3⟩ : ∃ W3, (W.alloc (.cells #[.int .i64 x.1, .int .i64 x.2.1, .int .i64 x.2.2, .int .i64 T] 59)).drew = W3 := ⟨_, rfl⟩
    have hb3 : Below W.heap.size W W3 := by rw [← hW3]; exact hbB _
    have n0 : W3.heap[W.heap.size]? = some (.cells #[.int .i64 x.1, .int .i64 x.2.1, .int .i64 x.2.2, .int .i64 T] 59 (0, 0)) := by rw [← hW3]; exact World.alloc_heap_new W _
    rw [hW3]
    clear hW3 x0 x1 x2 y0 y1 hfd s0 hbA hbB
    have o1 := (hb3.block _ (by omega)).trans i1
    have hstep := bestW_snoc g pre x
    obtain ⟨O, hO⟩ : ∃ O, bestW g pre = O := ⟨_, rfl⟩
    rw [hO] at o1 hstep
    obtain ⟨u0, u1, u2, u3⟩ := O
    have hstep2 : stepW g (u0, u1, u2, u3) x = if u1 = 0 ∨ T ≤ u3 then (x.1, x.2.1, x.2.2, T) else (u0, u1, u2, u3) := by
      unfold stepW; rw [← hT]; simp only [wrap_w64]
    have e0 : W3.cell? ⟨W.heap.size, 0, none⟩ = some (.int .i64 x.1) := (blk_cell n0 0).trans rfl
    have e1 : W3.cell? ⟨W.heap.size, 1, none⟩ = some (.int .i64 x.2.1) := (blk_cell n0 1).trans rfl
    have e2 : W3.cell? ⟨W.heap.size, 2, none⟩ = some (.int .i64 x.2.2) := (blk_cell n0 2).trans rfl
    have e3 : W3.cell? ⟨W.heap.size, 3, none⟩ = some (.int .i64 T) := (blk_cell n0 3).trans rfl
    have f0 : W3.cell? ⟨w.heap.size + 1, 1, none⟩ = some (.int .i64 u1) := (blk_cell o1 1).trans rfl
    have f1 : W3.cell? ⟨w.heap.size + 1, 3, none⟩ = some (.int .i64 u3) := (blk_cell o1 3).trans rfl
    have f2 : W3.cell? ⟨w.heap.size + 1, 0, none⟩ = some (.int .i64 u0) := (blk_cell o1 0).trans rfl
    have f3 : W3.cell? ⟨w.heap.size + 1, 2, none⟩ = some (.int .i64 u2) := (blk_cell o1 2).trans rfl
    have g0 := blk_frozen o1 0
    have g1 := blk_frozen o1 1
    have g2 := blk_frozen o1 2
    have g3 := blk_frozen o1 3
    have i0' := (hb3.block _ (by omega)).trans i0
    have hstp := Aside0.mk (hstep.trans hstep2)
    clear hstep hstep2 hT hO
    gi_wp2
    · refine postC_go ⟨(put4_far (by omega)).trans (hb3.block _ (by omega)), (put4_far (by omega)).trans (hb3.block _ (by omega))⟩ ⟨(hb3.mono (by omega)).trans (put4_below (by omega)), fun i hi hc => (put4_far (by omega)).trans (hb3.block _ hi)⟩ ⟨(put4_far (by omega)).trans i0', ?_, i2.trans ((hb3.mono (by omega)).trans (put4_below (by omega)))⟩
      rw [hstp.out, if_pos (by first | omega | (rename_i h; simpa using h))]
      exact put4 o1
    · refine postC_go ⟨(put4_far (by omega)).trans (hb3.block _ (by omega)), (put4_far (by omega)).trans (hb3.block _ (by omega))⟩ ⟨(hb3.mono (by omega)).trans (put4_below (by omega)), fun i hi hc => (put4_far (by omega)).trans (hb3.block _ hi)⟩ ⟨(put4_far (by omega)).trans i0', ?_, i2.trans ((hb3.mono (by omega)).trans (put4_below (by omega)))⟩
      rw [hstp.out, if_pos (by first | omega | (rename_i h; simpa using h))]
      exact put4 o1
    · refine postC_go ⟨(hb3.block _ (by omega)), (hb3.block _ (by omega))⟩ ⟨(hb3.mono (by omega)), fun i hi hc => (hb3.block _ hi)⟩ ⟨i0', ?_, i2.trans (hb3.mono (by omega))⟩
      rw [hstp.out, if_neg (by omega)]
      exact o1
  case done =>
    rintro D xs W hD rfl ⟨i0, i1, i2⟩ hK
    have hgl := hg.lt
    have hne := hg.ne hk
    obtain ⟨S, hSd⟩ : ∃ S : World → Prop, Aside0 (S = fun W' => W'.cell? ⟨w.heap.size, 0, none⟩ = some (.pointer (some ⟨Bk, 0, none⟩)) ∧ W'.cell? ⟨Bk, 3, none⟩ = some (.map (some bm)) ∧
        W'.cell? ⟨w.heap.size + 1, 0, none⟩ = some (.int .i64 (bestW g (itS K ws ss line a m)).1) ∧ W'.cell? ⟨w.heap.size + 1, 1, none⟩ = some (.int .i64 (bestW g (itS K ws ss line a m)).2.1) ∧ W'.cell? ⟨w.heap.size + 1, 2, none⟩ = some (.int .i64 (bestW g (itS K ws ss line a m)).2.2.1) ∧ W'.cell? ⟨w.heap.size + 1, 3, none⟩ = some (.int .i64 (bestW g (itS K ws ss line a m)).2.2.2)) := ⟨_, ⟨rfl⟩⟩
    have hS : ∀ W', (∀ i, i < W.heap.size → i ≠ bm → W'.heap[i]? = W.heap[i]?) → S W' := by
      intro W' hb
      have l0 := blk_lt i0
      have l1 := blk_lt i1
      have q0 := (hb _ l0 (by omega)).trans i0
      have q1 := (hb _ l1 (by omega)).trans i1
      have q2 := (hb Bk (by omega) (Ne.symm hne)).trans ((i2.block Bk lBk).trans hk)
      rw [hSd.out]
      exact ⟨(blk_cell q0 0).trans rfl, (blk_cell q2 3).trans rfl, (blk_cell q1 0).trans rfl, (blk_cell q1 1).trans rfl, (blk_cell q1 2).trans rfl, (blk_cell q1 3).trans rfl⟩
    have hgW := hg.below i2.drew hg.lt
    obtain ⟨z0, z1, z2, z3, z4, z5⟩ : _ ∧ _ ∧ _ ∧ _ ∧ _ ∧ _ := by have := hS W (fun _ _ _ => rfl); rw [hSd.out] at this; exact this
    obtain ⟨BW, hBW⟩ : ∃ BW, Aside0 (bestW g (itS K ws ss line a m) = BW) := ⟨_, ⟨rfl⟩⟩
    rw [hBW.out] at hSd z2 z3 z4 z5 i1
    obtain ⟨b0, b1, b2, b3⟩ := BW
    obtain ⟨DD, hown, hat⟩ := hgW
    obtain ⟨w4, hrun, hown4, hgrow⟩ := hown.update (Maps.int_keyed Tryd.underlying3) Tryd.underlying47 (by unfold maxLen; omega) (Maps.keyOf_int_mk (a := (a : Int)) Tryd.underlying3 (by rw [show (Lit.int .i64 (a : Int)).wf = true ↔ IntKind.i64.min ≤ (a : Int) ∧ (a : Int) ≤ IntKind.i64.max by simp [Lit.wf]]; exact ⟨by show -9223372036854775808 ≤ _; omega, by show _ ≤ (9223372036854775807 : Int); omega⟩)) (wayR_mk (b0, b1, b2, b3))
    unfold wayV at hrun
    gi_wp2
    refine wpIn_region_N S (by kernel_rfl) (hS _ (fun _ _ _ => rfl)) ?_
    have s0 := hS W.drew (fun _ _ _ => rfl)
    refine wpAnyS_take 0 (v := ?w0) rfl (by kernel_rfl) (by kernel_rfl) (by kernel_rfl) (fun _ _ _ h => h) s0 (by kernel_rfl) (fun _ => rfl) ?hz0 ?tail0
    case hz0 =>
      intro W' h
      rw [hSd.out] at h
      obtain ⟨z0, z1, z2, z3, z4, z5⟩ := h
      go_simp
      first | done | with_reducible rfl | trace_state
    refine wpAnyS_take 1 (v := ?w1) rfl (by kernel_rfl) (by kernel_rfl) (by kernel_rfl) (fun _ _ _ h => h) s0 (by kernel_rfl) (fun _ => rfl) ?hz1 ?tail1
    case hz1 =>
      intro W' h
      rw [hSd.out] at h
      obtain ⟨z0, z1, z2, z3, z4, z5⟩ := h
      go_simp
      first | done | with_reducible rfl | trace_state
    refine wpAnyS_take 2 (v := ?w2) rfl (by kernel_rfl) (by kernel_rfl) (by kernel_rfl) (fun _ _ _ h => h) s0 (by kernel_rfl) (fun _ => rfl) ?hz2 ?tail2
    case hz2 =>
      intro W' h
      rw [hSd.out] at h
      obtain ⟨z0, z1, z2, z3, z4, z5⟩ := h
      go_simp
      first | done | with_reducible rfl | trace_state
    refine wpAnyS_take 3 (v := ?w3) rfl (by kernel_rfl) (by kernel_rfl) (by kernel_rfl) (fun _ _ _ h => h) s0 (by kernel_rfl) (fun _ => rfl) ?hz3 ?tail3
    case hz3 =>
      intro W' h
      rw [hSd.out] at h
      obtain ⟨z0, z1, z2, z3, z4, z5⟩ := h
      go_simp
      first | done | with_reducible rfl | trace_state
    refine wpAnyS_take 4 (v := ?w4) rfl (by kernel_rfl) (by kernel_rfl) (by kernel_rfl) (fun _ _ _ h => h) s0 (by kernel_rfl) (fun _ => rfl) ?hz4 ?tail4
    case hz4 =>
      intro W' h
      rw [hSd.out] at h
      obtain ⟨z0, z1, z2, z3, z4, z5⟩ := h
      go_simp
      first | done | with_reducible rfl | trace_state
    refine wpAnyS_take 5 (v := ?w5) rfl (by kernel_rfl) (by kernel_rfl) (by kernel_rfl) (fun _ _ _ h => h) s0 (by kernel_rfl) (fun _ => rfl) ?hz5 ?tail5
    case hz5 =>
      intro W' h
      rw [hSd.out] at h
      obtain ⟨z0, z1, z2, z3, z4, z5⟩ := h
      go_simp
      first | done | with_reducible rfl | trace_state
    refine wpAnyS_one 6 (by kernel_rfl) rfl (by kernel_rfl) ?_
    go_simp
    refine ⟨hS _ ?_, ?_⟩
    · intro i hi hib
      exact hgrow.block i hi (by intro e; exact hib (Option.some.inj e))
    refine wpAnyS_done (by kernel_rfl) (normalOnly_go ?_) 0
    have hD4 : w4.heap[D]? = some (.deferred (some [])) := (hgrow.block D (blk_lt hK) (by intro e; have := Option.some.inj e; omega)).trans hK
    refine ⟨by simp, .inl ⟨_, _, rfl, run_takeDeferred hD4, ?_⟩⟩
    have hz := Ways.put (W := w4) a (b0, b1, b2, b3) (by obtain ⟨es, clock, _, _, _, rfl⟩ := hown; exact ⟨_, rfl⟩) hat hown4
    refine ⟨.tuple #[], by simp [results, go_sem], ⟨_, rfl⟩, ?_, ?_⟩
    · have := hz.below (B := D) (below_putObj w4 (.deferred none) (Nat.le_refl _)) (by omega)
      simpa only [hBW.out] using this
    · refine ⟨hgrow.os.trans i2.os, hgrow.tape.trans i2.tape, hgrow.output.trans i2.output, ?_, ?_⟩
      · have := i2.size; have := hgrow.size; simp at *; omega
      · intro k hk1 hk2
        exact (World.putObj_heap_other (by omega)).trans ((hgrow.block k (by have := i2.size; show k < W.heap.size; omega) hk2).trans (i2.block k hk1))
  case stop =>
    rintro D pre W hD _ h _
    exact h.elim
end Go.Proofs.YtneaoicjbiebkaaDoor.Q
