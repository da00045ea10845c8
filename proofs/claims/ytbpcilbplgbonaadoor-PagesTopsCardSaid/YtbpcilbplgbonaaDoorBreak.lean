/- The best pages. -/
import Derived.Test.YtbpcilbplgbonaaDoorPg2
import Derived.Test.YtbpcilbplgbonaaDoorBack
import Derived.Test.YtbpcilbplgbonaaDoorFrom
import Derived.Test.YtbpcilbplgbonaaDoorTold
import Derived.Test.YtbpcilbplgbonaaDoorWApart
import Derived.RangeFuncLeaves
namespace Go.Proofs.YtbpcilbplgbonaaDoor.Q
open Go.RowKit Go.Proofs.YtbpcilbplgbonaaDoorW.PrintWords Go.Proofs.YtbpcilbplgbonaaDoorW.PrintLast Go.Proofs.YtbpcilbplgbonaaDoorW.PrintMore Go.Shelf
attribute [local go_sem] Oper.semAt_some
set_option linter.unusedVariables false
set_option linter.unusedSimpArgs false
abbrev BreakPost (w : World) (r1 : List S37) (r2 : Int) : Ending → World → Prop := fun e w' => ∃ v0_ : Value, e = .returned (.tuple #[v0_, .int .i64 r2]) ∧ Kd.S k37 37 w' w.heap.size (fun _ => True) v0_ r1 ∧ Below w.heap.size w w'
/-- append(v, x) within a fence, x's inner rows of its own. -/
theorem opIn_append_S {α : Type} {F : Fence} {n : Nat} {P : Program} {o : Oper} {a : Act} {K : Act → World → Prop} {Q : Exit → Act → World → Prop} (d : Kd α) {w0 W : World} (base : Nat) (s x : Operand) (t e : TypeId) (z : Value) (bytes : Nat)
    (ho : o.op = .call { callee := .builtin .append, args := #[s, x], argTypes := #[t, t] })
    (ht : P.underlying t = some (.slice e)) (hinfo : (P.info? e).map (fun i => (i.zero, i.size, i.bytes)) = some (some z, d.sz, bytes)) (hz : z.cells.size = d.sz) (hs0 : 0 < d.sz) (hb0 : 0 < bytes)
    (v : Value) (xs : List α) (p : α) (cs : List Value) (ok okp : Nat → Prop) (hs : a.eval s = v) (hx : a.eval x = .slice (some ⟨W.heap.size, 0, none⟩) 1 1) (hp : d.M W base okp p cs) (hokp : ∀ k, okp k → ok k ∧ some k ≠ v.ownBlock) (hfresh : ∀ k, W.heap.size ≤ k → ok k)
    (HO : Kd.S d e W base (fun k => ok k ∧ ¬ okp k) v xs) (HB : Below base w0 W) (hbase : base ≤ W.heap.size) (hl : (xs.length + 1) * bytes ≤ 140737488355328)
    (h : ∀ v1 w1, Kd.S d e w1 base ok v1 (xs ++ [p]) → Below base w0 w1 → W.grownBy w1 v.ownBlock → K (a.put o.dst v1) w1) :
    o.wpIn F n P a (W.alloc (.cells cs.toArray e)) K Q := by
  obtain ⟨f, hf, hR⟩ := Kd.S_tag HO xs.length okp (fun _ hk h2 => h2.2 hk)
  have hR' := Kd.R_mono (ok' := ok) hR (fun _ hk => hk.1)
  obtain ⟨h0, inner, hown, hr⟩ := hR'
  rw [List.length_zipIdx] at hown
  obtain ⟨i0, hi, hzz⟩ := Option.map_eq_some_iff.1 hinfo
  simp only [Prod.mk.injEq] at hzz
  obtain ⟨hz0, hz1, hz2⟩ := hzz
  have hpl := d.K_len (d.K_of_M hp)
  have hlen : xs.length + 1 ≤ 140737488355328 := Nat.le_trans (Nat.le_mul_of_pos_right _ hb0) hl
  obtain ⟨v1, w1, hrun, hown1, hg, -, hat⟩ := run_append_own_at (P := P) (W.alloc (.cells cs.toArray e)) base t o.type e i0 z d.sz bytes ht hi hz0 hz1 hz2 hz hs0 v xs.length inner (hown.alloc _) ⟨W.heap.size, 0, none⟩ 1 1 cs
    (by rw [hpl]; simp) (by simpa using World.news_of_block (cs := cs.toArray) (t := e) (fr := (0, 0)) (heap_alloc_new W (.cells cs.toArray e))) (d.K_one (d.K_of_M hp)) (by simp only [maxLen]; omega) hl (by simp; omega)
  have hg1 : W.grownBy w1 v.ownBlock := World.grownBy.trans (World.grownBy_alloc W _ _) hg
  have hat1 : v1.ownBlock = v.ownBlock ∨ ∃ b, v1.ownBlock = some b ∧ W.heap.size ≤ b := by
    rcases hat with hat | hat
    · exact .inl hat
    · exact .inr ⟨_, hat, by simp⟩
  have hS : Kd.S d e w1 base ok v1 (xs ++ [p]) := by
    refine ⟨f, ?_⟩
    rw [Kd.zip_snoc]
    refine Kd.R_appended (d := Kd.tag f d) (p := (p, xs.length)) h0 hr (d.M_mono (fun k hk => ⟨hk, hf k hk⟩) hp) hokp hfresh ?_ hg1 hat1
    rw [List.length_zipIdx]; exact hown1
  have hB1 : Below base w0 w1 := (HB.alloc hbase _).grown hg (by simp; omega) (own_base hown)
  unfold Oper.wpIn
  refine ⟨?_, ?_⟩
  · simp [Oper.about, ho, resolve, Target.leads, Sem.run_pure]
  · rw [Oper.semAt_plain F _ _ (by rw [ho]; intro c hc'; cases hc')]
    simp [execOp, ho, resolve, invoke, builtin, hs, hx, hrun, Result.andThen]
    exact h v1 w1 hS hB1 hg1
theorem uponIn_eq {F : Fence} {n : Nat} {P : Program} {o : Oper} {a : Act} {K : Act → World → Prop} {Q : Exit → Act → World → Prop} {r r' : Result Next} (h : r = r') (H : o.uponIn F n P a K Q r') : o.uponIn F n P a K Q r := h ▸ H
theorem ret12 {w X : World} {r1 : List S37} {r2 : Int} {u : Value} (tmps : Array Value) (h6 : tmps[6]?.getD undef = u) (h7 : tmps[7]?.getD undef = .int .i64 r2) (hR : Kd.S k37 37 X w.heap.size (fun _ => True) u r1) (hB : Below w.heap.size w X) :
    bodyPostM Fence.wide 6 Tryd.prog Tryd.f12 (BreakPost w r1 r2) .ret { tmps := tmps, defers := [] } X := by
  show LeavesIn Fence.wide 6 Tryd.prog Tryd.f12 tmps _ [] .returning _
  refine ⟨.tuple #[u, .int .i64 r2], ?_, _, rfl, hR, hB⟩
  simp [results, h6, h7, go_sem]
theorem ret12D {w X : World} {D : Nat} {r1 : List S37} {r2 : Int} {u : Value} (tmps : Array Value) (h6 : tmps[6]?.getD undef = u) (h7 : tmps[7]?.getD undef = .int .i64 r2) (hD : w.heap.size ≤ D) (hX : X.heap[D]? = some (.deferred (some []))) (hR : Kd.S k37 37 X w.heap.size (fun k => k ≠ D) u r1) (hB : Below w.heap.size w X) :
    bodyPostM Fence.wide 6 Tryd.prog Tryd.f12 (BreakPost w r1 r2) .ret { tmps := tmps, defers := [{ target := .collected D, args := #[] }] } X := by
  refine ⟨by simp, .inl ⟨_, _, rfl, run_takeDeferred hX, ?_⟩⟩
  refine ⟨.tuple #[u, .int .i64 r2], ?_, _, rfl, Kd.S_mono (Kd.S_move hR (fun k hk => World.putObj_heap_other hk)) (fun _ _ => trivial), hB.trans (below_putObj X (.deferred none) hD)⟩
  simp [results, h6, h7, go_sem]
set_option maxHeartbeats 4000000 in
set_option maxRecDepth 100000 in
theorem break_calls (A : Option Addr) (cA : Nat) (hs : List Int) (page gap : Int) (r1 : List S37) (r2 : Int) (w : World) (hA : Kd.C (Kd.int .i64) w A hs.length hs) (hcA : hs.length ≤ cA) (hS : SentsE w) (h : breakP hs page gap = (r1, r2)) :
    Calls Tryd.prog 12 #[.slice A hs.length cA, .int .i64 page, .int .i64 gap] w (BreakPost w r1 r2) := by
  have hu42 := Tryd.underlying42
  have hu44 := Tryd.underlying44
  have hu46 := Tryd.underlying46
  have hu47 := Tryd.underlying47
  have hu49 := Tryd.underlying49
  obtain ⟨BV, hBV⟩ : ∃ BV, Aside0 (blkW (.slice A hs.length cA) (.int .i64 page) (.int .i64 gap) (fun _ => (0, 0, 0)) 101 = BV) := ⟨_, ⟨rfl⟩⟩
  have hA' := Aside0.mk hA
  clear hA
  refine (callsIn_wide (n := 6)).1 ?_
  refine callsIn_of_wp_marks Tryd.func12 rfl trivial ?_ rfl
  simp only [Tryd.ntmps12, List.size_toArray, List.length_cons, List.length_nil, Nat.reduceAdd, Nat.reduceSub, Array.replicate_succ, Array.replicate_zero, List.push_toArray, List.append_toArray, List.nil_append, List.cons_append]
  gi_wp2
  refine uponIn_eq (r' := .ok (.value (.agg BV)) w) (by rw [← hBV.out]; kernel_rfl) ?_
  rw [Oper.uponIn_value]
  have hk0 : ((w.alloc (.cells BV 49)).alloc (.cells #[.pointer (some ⟨w.heap.size, 0, none⟩)] 40)).heap[w.heap.size]? = some (.cells BV 49 (0, 0)) := (Below.heap_alloc _ _ _ (by simp)).trans (World.alloc_heap_new w _)
  have hk1 : ((w.alloc (.cells BV 49)).alloc (.cells #[.pointer (some ⟨w.heap.size, 0, none⟩)] 40)).heap[w.heap.size + 1]? = some (.cells #[.pointer (some ⟨w.heap.size, 0, none⟩)] 40 (0, 0)) := by
    have := World.alloc_heap_new (w.alloc (.cells BV 49)) (.cells #[.pointer (some ⟨w.heap.size, 0, none⟩)] 40); rwa [World.size_alloc] at this
  have j0 : ((w.alloc (.cells BV 49)).alloc (.cells #[.pointer (some ⟨w.heap.size, 0, none⟩)] 40)).cell? ⟨w.heap.size, 0, none⟩ = some (.slice A hs.length cA) := (blk_cell hk0 0).trans (by rw [← hBV.out]; rfl)
  have j1 : ((w.alloc (.cells BV 49)).alloc (.cells #[.pointer (some ⟨w.heap.size, 0, none⟩)] 40)).cell? ⟨w.heap.size, 1, none⟩ = some (.int .i64 page) := (blk_cell hk0 1).trans (by rw [← hBV.out]; rfl)
  have j2 : ((w.alloc (.cells BV 49)).alloc (.cells #[.pointer (some ⟨w.heap.size, 0, none⟩)] 40)).cell? ⟨w.heap.size, 2, none⟩ = some (.int .i64 gap) := (blk_cell hk0 2).trans (by rw [← hBV.out]; rfl)
  gi_wp2
  refine ⟨trivial, ?_⟩
  obtain ⟨W0, hW0⟩ : ∃ W0, ((w.alloc (.cells BV 49)).alloc (.cells #[.pointer (some ⟨w.heap.size, 0, none⟩)] 40)) = W0 := ⟨_, rfl⟩
  have hb0 : Below w.heap.size w W0 := by rw [← hW0]; exact ((Below.refl _ w).alloc (Nat.le_refl _) _).alloc (by simp) _
  have hz0 : w.heap.size + 2 ≤ W0.heap.size := by rw [← hW0]; simp
  rw [hW0] at hk0 hk1
  rw [hW0]
  clear j0 j1 j2 hW0
  have p1 : W0.heap[w.heap.size]? = some (.cells (blkW (.slice A hs.length cA) (.int .i64 page) (.int .i64 gap) (tabP hs page gap 0) 101) 49 (0, 0)) := by rw [show tabP hs page gap 0 = (fun _ => (0, 0, 0)) from rfl, hBV.out]; exact hk0
  clear hk0
  refine (callsIn_wide.2 (pages_lines_check.calls 200 A cA hs page gap (chkP hs page gap) W0 (Kd.C_below hA'.out hb0) hcA (check_f hs page gap 200 (by omega)))).mono ?_
  rintro e w2 ⟨rfl, hb2⟩
  have hb2w : Below w.heap.size w w2 := hb0.trans (hb2.mono hb0.size)
  have q1 := (hb2.block _ (by omega)).trans p1
  have q2 := (hb2.block _ (by omega)).trans hk1
  have hS2 := hS.below hb2w
  unfold breakP at h
  rcases hcp : chkP hs page gap with _ | c
  · rw [hcp] at h
    obtain ⟨L, F⟩ := fit_of hcp
    have hlen := L.len
    obtain ⟨h1, h2⟩ := Prod.mk.inj h
    subst h2
    rw [errW_none]
    have g2 : w2.cell? ⟨w.heap.size + 1, 0, none⟩ = some (.pointer (some ⟨w.heap.size, 0, none⟩)) := (blk_cell q2 0).trans rfl
    clear hcp h
    gi_wp2
    refine ⟨trivial, ?_⟩
    refine (callsIn_wide.2 (backward_call A hs.length cA w2)).mono ?_
    rintro e w3 ⟨rfl, hw3⟩
    gi_wp2
    rw [← hw3]
    have hb3 : Below w2.heap.size w2 w3 := by rw [hw3]; exact (Below.refl _ w2).alloc (Nat.le_refl _) _
    have hz3 : w2.heap.size + 1 ≤ w3.heap.size := by rw [hw3]; simp
    have sB : w3.heap[w2.heap.size]? = some (.cells #[.slice A hs.length cA] 22 (0, 0)) := by rw [hw3]; exact World.alloc_heap_new w2 _
    have l2 := blk_lt q1
    have l3 := blk_lt q2
    have s1 := (hb3.block _ l2).trans q1
    have s2 := (hb3.block _ l3).trans q2
    have hb3w : Below w.heap.size w w3 := hb2w.trans (hb3.mono (by omega))
    clear hw3 g2
    refine wpIn_rangeFunc_cells rfl (by omega) (gf := 30) (lb := #[.pointer (some ⟨w2.heap.size, 0, none⟩)]) rfl trivial (enters_of Tryd.func30 (by kernel_rfl) rfl)
      (backward_stops (6 - 1) (by omega) w.heap.size w2.heap.size cA A hs w3 sB (by omega) (by omega) ?hA)
      (Below.refl _ _) (fun h k => h.trans k) ?kb (fun _ => rfl)
      (fun pre W => Below w.heap.size w W ∧ W.heap[w.heap.size]? = some (.cells (blkW (.slice A hs.length cA) (.int .i64 page) (.int .i64 gap) (tabP hs page gap pre.length) 101) 49 (0, 0)) ∧ W.heap[w.heap.size + 1]? = some (.cells #[.pointer (some ⟨w.heap.size, 0, none⟩)] 40 (0, 0)))
      (fun _ _ => False) ?hI (fun _ _ _ h _ => h.elim) ⟨hb3w, s1, s2⟩
      (fun x a' W => a' = { tmps := #[.slice A hs.length cA, .int .i64 page, .int .i64 gap, undef, undef, undef, .slice none 0 0, .int .i64 0, .pointer (some ⟨w.heap.size + 1, 0, none⟩), .nilIface, .int .i64 x.1, undef, undef, .slice A hs.length cA, .int .i64 page, .int .i64 gap, .agg #[.slice A hs.length cA, .int .i64 page, .int .i64 gap], .agg BV, .pointer (some ⟨w.heap.size, 0, none⟩), .pointer (some ⟨w.heap.size, 0, none⟩), .pointer (some ⟨w.heap.size, 0, none⟩), .pointer (some ⟨w.heap.size, 0, none⟩), .agg #[.slice A hs.length cA, .int .i64 page, .int .i64 gap], .nilIface, .nilIface, .bool false, undef, undef, .slice A hs.length cA, .func (.func 30) #[] #[.pointer (some ⟨w2.heap.size, 0, none⟩)], .int .i64 x.1, .int .i64 x.2, undef, undef, undef, undef, undef, undef, undef, undef, undef, undef, undef, undef, undef, undef, undef, undef, undef, undef, undef, undef, undef, undef, undef, undef, undef, undef, undef, undef, undef], defers := [] })
      (fun _ _ _ _ h => h) ?assign ?body ?done ?stop
    case hA =>
      intro B1 W' hk
      refine Kd.C_below hA'.out ⟨hk.1.trans hb3w.os, hk.2.1.trans hb3w.tape, hk.2.2.1.trans hb3w.output, Nat.le_trans hb3w.size hk.2.2.2.1, fun k hk1 => ?_⟩
      have := hb3w.size
      exact (hk.2.2.2.2 k (by omega) (by omega) (.inl (by omega))).trans (hb3w.block k hk1)
    case kb =>
      intro W o hW
      exact ⟨rfl, rfl, rfl, by simp, fun i hi h1 h2 => World.putObj_heap_other (by omega)⟩
    case hI =>
      intro pre W W' h hb
      exact ⟨h.1.trans (hb.mono (by omega)), (hb.block _ (by omega)).trans h.2.1, (hb.block _ (by omega)).trans h.2.2⟩
    case assign =>
      rintro l pre x W K0 hWs hi hK
      gi_wp2
      exact hK _ _ ⟨rfl, rfl⟩ (KM.refl W) hi rfl
    case body =>
      rintro l pre x a' W hWs ⟨i0, i1, i2⟩ rfl ⟨hlen2, hx⟩
      have y0 : W.cell? ⟨w.heap.size + 1, 0, none⟩ = some (.pointer (some ⟨w.heap.size, 0, none⟩)) := (blk_cell i2 0).trans rfl
      obtain ⟨xa, xb⟩ := x
      obtain rfl : xa = ((hs.length - 1 - pre.length : Nat) : Int) := by have : xa = (hs.length : Int) - 1 - pre.length := hx; omega
      have hF := from_calls w.heap.size (hs.length - 1 - pre.length) cA A hs page gap (tabP hs page gap pre.length) W i1
        (fun W' hg => Kd.C_below hA'.out ⟨hg.os.trans i0.os, hg.tape.trans i0.tape, hg.output.trans i0.output, Nat.le_trans i0.size hg.size, fun k hk => (hg.block k (by have := i0.size; omega) (by intro e; have := Option.some.inj e; omega)).trans (i0.block k hk)⟩) hcA L (by omega)
        (tabP_zero hs page gap pre.length _ (by omega))
      have hF' := Aside0.mk hF
      clear hF hx
      gi_wp2
      refine ⟨trivial, ?_⟩
      refine (callsIn_wide.2 hF'.out).mono ?_
      rintro e W5 ⟨⟨v, rfl⟩, hw5, hgrow⟩
      gi_wp2
      have kb : ∀ i, i < W.heap.size → i ≠ w.heap.size → W5.heap[i]? = W.heap[i]? := fun i hi h1 => hgrow.block i hi (by intro e; exact h1 (Option.some.inj e))
      have z1 := i0.size
      have z2 := hb3w.size
      refine postC_go ⟨kb _ (by omega) (by omega), kb _ (by omega) (by omega)⟩ ⟨hgrow.os, hgrow.tape, hgrow.output, hgrow.size, fun i hi h1 _ => kb i hi h1⟩ ⟨⟨hgrow.os.trans i0.os, hgrow.tape.trans i0.tape, hgrow.output.trans i0.output, Nat.le_trans z1 hgrow.size, fun k hk => (kb k (by omega) (by omega)).trans (i0.block k hk)⟩, ?_, (kb _ (by omega) (by omega)).trans i2⟩
      rw [List.length_append]
      exact hw5
    case done =>
      rintro D xs W hD rfl ⟨i0, i1, i2⟩ hK
      rw [itB_len] at i1
      obtain ⟨g, hg⟩ : ∃ g, tabP hs page gap hs.length = g := ⟨_, rfl⟩
      have hto : ∀ a, a < hs.length → ∃ b : Nat, (g a).1 = b ∧ a < b ∧ b ≤ hs.length ∧ 0 ≤ (g a).2.1 ∧ (g a).2.1 ≤ 200000 := fun a ha => by rw [← hg]; exact tabP_to L F ha
      rw [hg] at i1 h1
      have hWw := i0.size
      have hw3s := hb3w.size
      clear q1 q2 p1 s1 s2 sB hk1
      gi_wp2
      gi_loopw [11, 12] (fun out at_ wr => ∃ (b d : Nat) (l : List S37), at_ = .int .i64 (b : Int) ∧ b ≤ hs.length ∧ hs.length ≤ b + d ∧ r1 = l ++ outP hs gap g d b ∧ l.length ≤ b ∧ Kd.S k37 37 wr w.heap.size (fun k => k ≠ D) out l ∧ Below w.heap.size w wr ∧
        wr.heap[w.heap.size]? = some (.cells (blkW (.slice A hs.length cA) (.int .i64 page) (.int .i64 gap) g 101) 49 (0, 0)) ∧ wr.heap[w.heap.size + 1]? = some (.cells #[.pointer (some ⟨w.heap.size, 0, none⟩)] 40 (0, 0)) ∧ wr.heap[D]? = some (.deferred (some []))) (fun _ at_ _ => hs.length - (intOf at_).toNat)
      case atStart => exact ⟨0, hs.length, [], rfl, by omega, by omega, h1.symm, Nat.le_refl _, Kd.S_nil _ _ _ _ _, i0, i1, i2, hK⟩
      case round =>
        obtain ⟨b, d, l, rfl, hb, hd, hr, hlb, hrow, hB, k1, k2, kD⟩ := hrel
        by_cases hlt : b < hs.length
        · obtain ⟨d, rfl⟩ : ∃ d', d = d' + 1 := ⟨d - 1, by omega⟩
          obtain ⟨b', e', hb1, hb2, hr1, hr2⟩ := hto b hlt
          have hout : outP hs gap g (d + 1) b = pageP hs gap g b :: outP hs gap g d b' := by
            show (if b < hs.length then _ else _) = _
            rw [if_pos hlt, e', Int.toNat_natCast]
          have hpage : pageP hs gap g b = ⟨(b : Int), (b' : Int), topsI hs gap b (lrest hs b' (g b).2.1) ((b' : Int) - b - 1) (b' - b)⟩ := by unfold pageP; rw [e', Int.toNat_natCast]
          rw [hout, hpage] at hr
          obtain ⟨RS, hRS⟩ : ∃ R, (g b).2.1 = R := ⟨_, rfl⟩
          rw [hRS] at hr hr1 hr2
          have hblk := blkW_get (.slice A hs.length cA) (.int .i64 page) (.int .i64 gap) g 101 b (by omega)
          rw [e', hRS] at hblk
          obtain ⟨TL, hTL⟩ : ∃ TL, topsI hs gap b (lrest hs b' RS) ((b' : Int) - b - 1) (b' - b) = TL := ⟨_, rfl⟩
          have hTL' := Aside0.mk hTL
          rw [hTL] at hr
          have hr' := Aside0.mk hr
          have hlt' : (b : Int) < (hs.length : Int) := by omega
          have har := fun W' => arrAt w.heap.size b (by omega) W'
          clear hr hTL hout hpage hRS e'
          obtain ⟨S, hSd⟩ : ∃ S : World → Prop, Aside0 (S = fun W' => W'.cell? ⟨w.heap.size + 1, 0, none⟩ = some (.pointer (some ⟨w.heap.size, 0, none⟩)) ∧ W'.cell? ⟨w.heap.size, 3 + 3 * b, none⟩ = some (.int .i64 (b' : Int)) ∧ W'.cell? ⟨w.heap.size, 3 + 3 * b + 1, none⟩ = some (.int .i64 RS)) := ⟨_, ⟨rfl⟩⟩
          have hSS : ∀ W' : World, W'.heap[w.heap.size]? = some (.cells (blkW (.slice A hs.length cA) (.int .i64 page) (.int .i64 gap) g 101) 49 (0, 0)) → W'.heap[w.heap.size + 1]? = some (.cells #[.pointer (some ⟨w.heap.size, 0, none⟩)] 40 (0, 0)) → S W' := by
            intro W' h1 h2
            rw [hSd.out]
            exact ⟨(blk_cell h2 0).trans rfl, (blk_cell h1 _).trans hblk.1, (blk_cell h1 _).trans hblk.2.1⟩
          gi_wp2
          refine wpIn_region_N S (by kernel_rfl) (hSS _ k1 k2) ?_
          have s0 := hSS wr.drew k1 k2
          refine wpAnyS_takeN 0 (some 47) (a' := ?rna0) (v := ?rv0) rfl rfl (by kernel_rfl) (by kernel_rfl) (by kernel_rfl) (fun _ _ _ h => h) s0 (by kernel_rfl) (fun _ => rfl) ?rhy0 ?rnh0 ?rrest0
          case rhy0 =>
            intro W' h
            rw [hSd.out] at h
            obtain ⟨z0, z1, z2⟩ := h
            go_simp
            first | done | with_reducible rfl | trace_state
          case rnh0 => (simp only [Act.put, List.setIfInBounds_toArray, List.set_cons_zero, List.set_cons_succ]; rfl)
          refine wpAnyS_takeN 1 (some 48) (a' := ?rna1) (v := ?rv1) rfl rfl (by kernel_rfl) (by kernel_rfl) (by kernel_rfl) (fun _ _ _ h => h) s0 (by kernel_rfl) (fun _ => rfl) ?rhy1 ?rnh1 ?rrest1
          case rhy1 =>
            intro W' h
            rw [hSd.out] at h
            obtain ⟨z0, z1, z2⟩ := h
            go_simp
            first | done | with_reducible rfl | trace_state
          case rnh1 => (simp only [Act.put, List.setIfInBounds_toArray, List.set_cons_zero, List.set_cons_succ]; rfl)
          refine wpAnyS_takeN 2 (some 49) (a' := ?rna2) (v := ?rv2) rfl rfl (by kernel_rfl) (by kernel_rfl) (by kernel_rfl) (fun _ _ _ h => h) s0 (by kernel_rfl) (fun _ => rfl) ?rhy2 ?rnh2 ?rrest2
          case rhy2 =>
            intro W' h
            rw [hSd.out] at h
            obtain ⟨z0, z1, z2⟩ := h
            go_simp
            first | done | with_reducible rfl | trace_state
          case rnh2 => (simp only [Act.put, List.setIfInBounds_toArray, List.set_cons_zero, List.set_cons_succ]; rfl)
          refine wpAnyS_takeN 3 (some 50) (a' := ?rna3) (v := ?rv3) rfl rfl (by kernel_rfl) (by kernel_rfl) (by kernel_rfl) (fun _ _ _ h => h) s0 (by kernel_rfl) (fun _ => rfl) ?rhy3 ?rnh3 ?rrest3
          case rhy3 =>
            intro W' h
            rw [hSd.out] at h
            obtain ⟨z0, z1, z2⟩ := h
            go_simp
            first | done | with_reducible rfl | trace_state
          case rnh3 => (simp only [Act.put, List.setIfInBounds_toArray, List.set_cons_zero, List.set_cons_succ]; rfl)
          refine wpAnyS_takeN 4 (some 51) (a' := ?rna4) (v := ?rv4) rfl rfl (by kernel_rfl) (by kernel_rfl) (by kernel_rfl) (fun _ _ _ h => h) s0 (by kernel_rfl) (fun _ => rfl) ?rhy4 ?rnh4 ?rrest4
          case rhy4 =>
            intro W' h
            rw [hSd.out] at h
            obtain ⟨z0, z1, z2⟩ := h
            go_simp
            first | done | with_reducible rfl | trace_state
          case rnh4 => (simp only [Act.put, List.setIfInBounds_toArray, List.set_cons_zero, List.set_cons_succ]; rfl)
          refine wpAnyS_takeN 5 (some 52) (a' := ?rna5) (v := ?rv5) rfl rfl (by kernel_rfl) (by kernel_rfl) (by kernel_rfl) (fun _ _ _ h => h) s0 (by kernel_rfl) (fun _ => rfl) ?rhy5 ?rnh5 ?rrest5
          case rhy5 =>
            intro W' h
            rw [hSd.out] at h
            obtain ⟨z0, z1, z2⟩ := h
            go_simp
            first | done | with_reducible rfl | trace_state
          case rnh5 => (simp only [Act.put, List.setIfInBounds_toArray, List.set_cons_zero, List.set_cons_succ]; rfl)
          refine wpAnyS_takeN 6 (some 53) (a' := ?rna6) (v := ?rv6) rfl rfl (by kernel_rfl) (by kernel_rfl) (by kernel_rfl) (fun _ _ _ h => h) s0 (by kernel_rfl) (fun _ => rfl) ?rhy6 ?rnh6 ?rrest6
          case rhy6 =>
            intro W' h
            rw [hSd.out] at h
            obtain ⟨z0, z1, z2⟩ := h
            go_simp
            first | done | with_reducible rfl | trace_state
          case rnh6 => (simp only [Act.put, List.setIfInBounds_toArray, List.set_cons_zero, List.set_cons_succ]; rfl)
          refine wpAnyS_takeN 7 (some 54) (a' := ?rna7) (v := ?rv7) rfl rfl (by kernel_rfl) (by kernel_rfl) (by kernel_rfl) (fun _ _ _ h => h) s0 (by kernel_rfl) (fun _ => rfl) ?rhy7 ?rnh7 ?rrest7
          case rhy7 =>
            intro W' h
            rw [hSd.out] at h
            obtain ⟨z0, z1, z2⟩ := h
            go_simp
            first | done | with_reducible rfl | trace_state
          case rnh7 => (simp only [Act.put, List.setIfInBounds_toArray, List.set_cons_zero, List.set_cons_succ]; rfl)
          refine wpAnyS_takeN 8 (some 55) (a' := ?rna8) (v := ?rv8) rfl rfl (by kernel_rfl) (by kernel_rfl) (by kernel_rfl) (fun _ _ _ h => h) s0 (by kernel_rfl) (fun _ => rfl) ?rhy8 ?rnh8 ?rrest8
          case rhy8 =>
            intro W' h
            rw [hSd.out] at h
            obtain ⟨z0, z1, z2⟩ := h
            go_simp
            first | done | with_reducible rfl | trace_state
          case rnh8 => (simp only [Act.put, List.setIfInBounds_toArray, List.set_cons_zero, List.set_cons_succ]; rfl)
          refine wpAnyS_takeN 9 (some 56) (a' := ?rna9) (v := ?rv9) rfl rfl (by kernel_rfl) (by kernel_rfl) (by kernel_rfl) (fun _ _ _ h => h) s0 (by kernel_rfl) (fun _ => rfl) ?rhy9 ?rnh9 ?rrest9
          case rhy9 =>
            intro W' h
            rw [hSd.out] at h
            obtain ⟨z0, z1, z2⟩ := h
            go_simp
            first | done | with_reducible rfl | trace_state
          case rnh9 => (simp only [Act.put, List.setIfInBounds_toArray, List.set_cons_zero, List.set_cons_succ]; rfl)
          refine wpAnyS_one 10 (by kernel_rfl) rfl (by kernel_rfl) ?_
          go_simp
          refine ⟨trivial, ?_⟩
          refine (callsIn_wide.2 (laid_calls w.heap.size b b' cA RS A hs page gap g wr.drew k1 (Kd.C_below hA'.out hB.drew) hcA L (by omega) hb2 ⟨hr1, hr2⟩ ((b' : Int) - b - 1) (lrest hs b' RS) rfl ⟨rfl⟩)).mono ?_
          rintro e w4 ⟨v, rfl, hRv, hb4⟩
          rw [hTL'.out] at hRv
          have hsz4 : wr.heap.size ≤ w4.heap.size := hb4.size
          have k14 := (hb4.block _ (blk_lt k1)).trans k1
          have k24 := (hb4.block _ (blk_lt k2)).trans k2
          have kD4 := (hb4.block _ (blk_lt kD)).trans kD
          have hB4 : Below w.heap.size w w4 := hB.drew.trans (hb4.mono (by have := hB.size; exact this))
          have hrow4 : Kd.S k37 37 w4 w.heap.size (fun k => k ≠ D ∧ some k ≠ v.ownBlock) (u11) l := Kd.S_elder' (Kd.S_drew hrow) (Kd.R_base hRv) hb4
          obtain ⟨A4, c4, rfl⟩ := Kd.R_slice hRv
          refine ⟨hSS _ k14 k24, ?_⟩
          refine wpAnyS_one 11 (by kernel_rfl) rfl (by kernel_rfl) ?_
          go_simp
          have hal : Below w4.heap.size w4 (w4.alloc (.cells #[.int .i64 (b : Int), .int .i64 (b' : Int), .slice A4 TL.length c4] 37)) := (Below.refl _ w4).alloc (Nat.le_refl _) _
          refine ⟨hSS _ ((hal.block _ (blk_lt k14)).trans k14) ((hal.block _ (blk_lt k24)).trans k24), ?_⟩
          refine wpAnyS_one 12 (by kernel_rfl) rfl (by kernel_rfl) ?_
          have hwrz : w.heap.size ≤ wr.heap.size := hB.size
          refine opIn_append_S k37 (w0 := w) w.heap.size (.tmp 47) (.tmp 58) 23 37 (.agg #[(.int .i64 0), (.int .i64 0), (.slice none 0 0)]) 40 rfl Tryd.underlying23 info37 rfl (by decide) (by omega) u11 l (⟨(b : Int), (b' : Int), TL⟩ : S37) [.int .i64 (b : Int), .int .i64 (b' : Int), .slice A4 TL.length c4] (fun k => k ≠ D) (fun k => some k = (.slice A4 TL.length c4 : Value).ownBlock) rfl rfl ?aP ?aK ?aF ?aO hB4 hB4.size (by omega) ?_
          case aP => exact k37_mkM _ _ _ (⟨(b : Int), (b' : Int), TL⟩ : S37) (Kd.R_tight rfl (Kd.R_lower hRv hwrz))
          case aK =>
            intro k hk
            have h1 : wr.heap.size ≤ k := Kd.R_base hRv k hk.symm
            refine ⟨by have := blk_lt kD; omega, fun e => ?_⟩
            have := Kd.S_lt hrow k e.symm
            omega
          case aF => intro k hk; have := blk_lt kD; omega
          case aO => exact Kd.S_mono hrow4 (fun k hk => ⟨hk.1, fun e => hk.2 e⟩)
          intro v1 w5 hS5 hB5 hg5
          have k15 := blk_grown k14 hg5 (Kd.S_ne hrow4 k14 (by decide))
          have k25 := blk_grown k24 hg5 (Kd.S_ne hrow4 k24 (by decide))
          have kD5 := blk_grown kD4 hg5 (Kd.S_away hrow4 (fun k hk => hk.1))
          refine ⟨hSS _ k15 k25, ?_⟩
          have s0 := hSS w5 k15 k25
          go_simp
          refine wpAnyS_takeN 13 (some 11) (a' := ?qna13) (v := ?qv13) rfl rfl (by kernel_rfl) (by kernel_rfl) (by kernel_rfl) (fun _ _ _ h => h) s0 (by kernel_rfl) (fun _ => rfl) ?qhy13 ?qnh13 ?qrest13
          case qhy13 =>
            intro W' h
            rw [hSd.out] at h
            obtain ⟨z0, z1, z2⟩ := h
            go_simp
            first | done | with_reducible rfl | trace_state
          case qnh13 => (simp only [Act.put, List.setIfInBounds_toArray, List.set_cons_zero, List.set_cons_succ]; rfl)
          refine wpAnyS_done (by kernel_rfl) (normalOnly_go ?_) 0
          have z0 : w5.cell? ⟨w.heap.size + 1, 0, none⟩ = some (.pointer (some ⟨w.heap.size, 0, none⟩)) := (blk_cell k25 0).trans rfl
          have z1 : w5.cell? ⟨w.heap.size, 3 + 3 * b, none⟩ = some (.int .i64 (b' : Int)) := (blk_cell k15 _).trans hblk.1
          have hS5' := Aside0.mk hS5
          clear hS5 s0 hSd hSS hrow hrow4 hRv hblk
          gi_wp2
          go_roundw
          case rel => exact ⟨b', d, l ++ [⟨(b : Int), (b' : Int), TL⟩], rfl, hb2, by omega, by rw [hr'.out]; simp, by rw [List.length_append, List.length_singleton]; omega, hS5'.out, hB5, k15, k25, kD5⟩
          case measure => simp [intOf]; omega
        · have hout : outP hs gap g d b = [] := by
            cases d with
            | zero => rfl
            | succ d => show (if b < hs.length then _ else _) = _; rw [if_neg hlt]
          rw [hout, List.append_nil] at hr
          have hnl : ¬ ((b : Int) < hs.length) := by omega
          gi_wp2
          subst hr
          exact ret12D _ (by rfl) (by rfl) (by omega) kD hrow hB
    case stop =>
      rintro D pre W hD _ h _
      exact h.elim
  · rw [hcp] at h
    obtain ⟨rfl, rfl⟩ := Prod.mk.inj h
    rw [errW_some]
    have hT := told_some c w2 hS2
    rw [errW_some] at hT
    have hT' := Aside0.mk hT
    clear hcp h hT
    gi_wp2
    refine ⟨trivial, ?_⟩
    refine (callsIn_wide.2 hT'.out).mono ?_
    rintro e w3 ⟨rfl, hb3⟩
    gi_wp2
    exact ret12 _ (by rfl) (by rfl) (Kd.S_nil _ _ _ _ _) (hb2w.trans (hb3.mono hb2w.size))
end Go.Proofs.YtbpcilbplgbonaaDoor.Q
