import Derived.Test.YtneaoicjbiebkaaDoorSys
import Derived.Test.YtneaoicjbiebkaaDoorBack
import Derived.RangeFuncLeaves
namespace Go.Proofs.YtneaoicjbiebkaaDoor.Q
open Go.Maps Go.RowKit Go.Proofs.YtneaoicjbiebkaaDoorW.PrintWords Go.Proofs.YtneaoicjbiebkaaDoorW.PrintLast Go.Proofs.YtneaoicjbiebkaaDoorW.PrintMore Go.Shelf
attribute [local go_sem] Oper.semAt_some
set_option linter.unusedVariables false
set_option linter.unusedSimpArgs false
theorem errV_2 (a0 a1 : Addr) : errV a0 a1 2 = .iface 84 (.pointer (some a0)) := rfl
theorem errV_250 (a0 a1 : Addr) : errV a0 a1 250 = .iface 84 (.pointer (some a1)) := rfl
theorem errV_0 (a0 a1 : Addr) : errV a0 a1 0 = .nilIface := rfl
abbrev BreakPost (w : World) (r1 : List S38) (r2 : Int) : Ending → World → Prop := fun e w' => ∃ v0_ : Value, e = .returned (.tuple #[v0_, .int .i64 r2]) ∧ Kd.R k38 38 w' w.heap.size (fun _ => True) v0_ r1 ∧ Below w.heap.size w w'
def flatS (l : List S38) : List Value := l.flatMap fun x => [.int .i64 x.f0, .int .i64 x.f1, .int .i64 x.f2]
theorem flatS_snoc (l : List S38) (x : S38) : flatS (l ++ [x]) = flatS l ++ [.int .i64 x.f0, .int .i64 x.f1, .int .i64 x.f2] := by unfold flatS; rw [List.flatMap_append]; simp
theorem rowsS_R {w : World} {base n : Nat} {v : Value} {l : List S38} (h : w.ownsRow base 38 3 v n (flatS l)) (hn : l.length = n) : Kd.R k38 38 w base (fun _ => True) v l := by
  refine ⟨fun _ _ => trivial, flatS l, (by rw [hn]; exact h), ?_⟩
  clear h hn
  induction l with
  | nil => exact Reps.none _ _
  | cons p t ih => exact Reps.c3 (k38_mkM _ _ _ p) ih
theorem blk_new (w : World) (o : Obj) : (w.alloc o).heap[w.heap.size]? = some o := World.alloc_heap_new w o
theorem cells_new3 (w : World) (x y z : Value) (t : TypeId) : ∀ j u, [x, y, z][j]? = some u → (w.alloc (.cells #[x, y, z] t)).cell? ((⟨w.heap.size, 0, none⟩ : Addr).add j) = some u := by
  intro j u hj
  match j, hj with
  | 0, hj => simp at hj; subst hj; exact (blk_cell (blk_new w (.cells #[x, y, z] t)) 0).trans rfl
  | 1, hj => simp at hj; subst hj; exact (blk_cell (blk_new w (.cells #[x, y, z] t)) 1).trans rfl
  | 2, hj => simp at hj; subst hj; exact (blk_cell (blk_new w (.cells #[x, y, z] t)) 2).trans rfl
theorem field38_1 (a b c : Int) (W : World) : (Instr.field 38 (.agg #[.int .i64 a, .int .i64 b, .int .i64 c]) 1).run Tryd.prog W = .ok (.int .i64 b) W := by kernel_rfl
theorem own_base {w : World} {base n size : Nat} {e : TypeId} {v : Value} {xs : List Value} (h : w.ownsRow base e size v n xs) {k : Nat} (hk : v.ownBlock = some k) : base ≤ k := by
  rcases h.2 with ⟨rfl, _⟩ | ⟨g, cap, cur, rfl, hg, hh, r⟩
  · simp [Value.ownBlock] at hk
  · have : g = k := by simpa [Value.ownBlock] using hk
    omega
theorem own_low {w : World} {base base' n size : Nat} {e : TypeId} {v : Value} {xs : List Value} (h : w.ownsRow base e size v n xs) (hb : base' ≤ base) : w.ownsRow base' e size v n xs := by
  obtain ⟨h1, h2⟩ := h
  refine ⟨h1, ?_⟩
  rcases h2 with h2 | ⟨g, cap, cur, e, hg, r⟩
  · exact .inl h2
  · exact .inr ⟨g, cap, cur, e, Nat.le_trans hb hg, r⟩
theorem ret14 {w X : World} {r1 : List S38} {r2 : Int} {u : Value} (tmps : Array Value) (h6 : tmps[6]?.getD undef = u) (h7 : tmps[7]?.getD undef = .int .i64 r2) (hR : Kd.R k38 38 X w.heap.size (fun _ => True) u r1) (hB : Below w.heap.size w X) :
    bodyPostM Fence.wide 6 Tryd.prog Tryd.f14 (BreakPost w r1 r2) .ret { tmps := tmps, defers := [] } X := by
  show LeavesIn Fence.wide 6 Tryd.prog Tryd.f14 tmps _ [] .returning _
  refine ⟨.tuple #[u, .int .i64 r2], ?_, _, rfl, hR, hB⟩
  simp [results, h6, h7, go_sem]
theorem ret14D {w X : World} {D : Nat} {r1 : List S38} {r2 : Int} {u : Value} (tmps : Array Value) (h6 : tmps[6]?.getD undef = u) (h7 : tmps[7]?.getD undef = .int .i64 r2) (hD : w.heap.size ≤ D) (hX : X.heap[D]? = some (.deferred (some []))) (hR : X.ownsRow w.heap.size 38 3 u r1.length (flatS r1)) (hB : Below w.heap.size w X) :
    bodyPostM Fence.wide 6 Tryd.prog Tryd.f14 (BreakPost w r1 r2) .ret { tmps := tmps, defers := [{ target := .collected D, args := #[] }] } X := by
  refine ⟨by simp, .inl ⟨_, _, rfl, run_takeDeferred hX, ?_⟩⟩
  refine ⟨.tuple #[u, .int .i64 r2], ?_, _, rfl, rowsS_R (ownsRow_putObj hR _ hX rfl) rfl, hB.trans (belowK_b (w := w) (Nat.le_refl _) _ D _ _ hD hX rfl rfl)⟩
  simp [results, h6, h7, go_sem]
set_option maxHeartbeats 4000000 in
set_option maxRecDepth 100000 in
theorem systems_Break.calls_ (a0 a1 : Addr) (A B : Option Addr) (cA cB : Nat) (ws ss : List Int) (line : Int) (r1 : List (S38)) (r2 : Int) (w : World) (hr0 : Kd.C (Kd.int .i64) w A ws.length ws) (hc0 : ws.length ≤ cA) (hr1 : Kd.C (Kd.int .i64) w B ss.length ss) (hc1 : ss.length ≤ cB) (hS : Sents w a0 a1) (h : breakI ws ss line = (r1, r2)) :
    Calls Tryd.prog 14 #[.slice A ws.length cA, .slice B ss.length cB, .int .i64 line] w (BreakPost w r1 r2) := by
  have hu46 := Tryd.underlying46
  have hu49 := Tryd.underlying49
  have hu38 := Tryd.underlying38
  have hu59 := Tryd.underlying59
  refine (callsIn_wide (n := 6)).1 ?_
  refine callsIn_of_wp_marks Tryd.func14 rfl trivial ?_ rfl
  simp only [Tryd.ntmps14, List.size_toArray, List.length_cons, List.length_nil, Nat.reduceAdd, Nat.reduceSub, Array.replicate_succ, Array.replicate_zero, List.push_toArray, List.append_toArray, List.nil_append, List.cons_append]
  have hmm := @run_makeMap Tryd.prog
  gi_wp2
  refine ⟨trivial, ?_⟩
  obtain ⟨W0, hW0⟩ : ∃ W0, ((w.alloc (.map #[] 0)).alloc (.cells #[.slice A ws.length cA, .slice B ss.length cB, .int .i64 line, .map (some w.heap.size)] 49)).alloc (.cells #[.pointer (some ⟨w.heap.size + 1, 0, none⟩)] 44) = W0 := ⟨_, rfl⟩
  have hb0 : Below w.heap.size w W0 := by rw [← hW0]; exact (((Below.refl _ w).alloc (Nat.le_refl _) _).alloc (by simp) _).alloc (by simp <;> omega) _
  have hz0 : W0.heap.size = w.heap.size + 3 := by rw [← hW0]; simp
  have p1 : W0.heap[w.heap.size + 1]? = some (.cells #[.slice A ws.length cA, .slice B ss.length cB, .int .i64 line, .map (some w.heap.size)] 49 (0, 0)) := by
    rw [← hW0]; refine (Below.heap_alloc _ _ _ (by simp)).trans ?_
    have := World.alloc_heap_new (w.alloc (.map #[] 0)) (.cells #[.slice A ws.length cA, .slice B ss.length cB, .int .i64 line, .map (some w.heap.size)] 49); rwa [World.size_alloc] at this
  have p2 : W0.heap[w.heap.size + 1 + 1]? = some (.cells #[.pointer (some ⟨w.heap.size + 1, 0, none⟩)] 44 (0, 0)) := by
    rw [← hW0]
    have := World.alloc_heap_new ((w.alloc (.map #[] 0)).alloc (.cells #[.slice A ws.length cA, .slice B ss.length cB, .int .i64 line, .map (some w.heap.size)] 49)) (.cells #[.pointer (some ⟨w.heap.size + 1, 0, none⟩)] 44); rwa [World.size_alloc, World.size_alloc] at this
  have hways : Ways W0 w.heap.size 0 (tabI ws ss line 0) := by
    refine ⟨.map [], ?_, fun i => rfl⟩
    obtain ⟨es, clock, q, F, hs, hD⟩ := World.ownsMap_made w Tryd.prog 3 wayR
    refine ⟨es, clock, ?_, F, hs, hD⟩
    rw [← hW0]
    exact (Below.heap_alloc _ _ _ (by simp <;> omega)).trans ((Below.heap_alloc _ _ _ (by simp)).trans q)
  try rw [hW0]
  clear hW0
  refine (callsIn_wide.2 (check_calls a0 a1 A B cA cB ws ss line W0 (hS.below hb0) (Kd.C_below hr0 hb0) hc0 (Kd.C_below hr1 hb0) hc1)).mono ?_
  rintro e w2 ⟨rfl, hb2⟩
  have hb2w : Below w.heap.size w w2 := hb0.trans (hb2.mono hb0.size)
  have q1 := (hb2.block _ (by omega)).trans p1
  have q2 := (hb2.block _ (by omega)).trans p2
  have hw2 := hways.below hb2 (by omega)
  have hS2 := hS.below hb2w
  unfold breakI at h
  by_cases c : chkI ws ss line = 0
  · rw [if_pos c] at h
    have R := right_of c
    rw [c, errV_0]
    have g2 : w2.cell? ⟨w.heap.size + 1 + 1, 0, none⟩ = some (.pointer (some ⟨w.heap.size + 1, 0, none⟩)) := (blk_cell q2 0).trans rfl
    gi_wp2
    refine ⟨trivial, ?_⟩
    refine (callsIn_wide.2 (backward_call A ws.length cA w2)).mono ?_
    rintro e w3 ⟨rfl, hw3⟩
    gi_wp2
    rw [← hw3]
    have hb3 : Below w2.heap.size w2 w3 := by rw [hw3]; exact (Below.refl _ w2).alloc (Nat.le_refl _) _
    have hz3 : w3.heap.size = w2.heap.size + 1 := by rw [hw3]; simp
    have sB : w3.heap[w2.heap.size]? = some (.cells #[.slice A ws.length cA] 22 (0, 0)) := by rw [hw3]; exact World.alloc_heap_new w2 _
    have l2 := blk_lt q1
    have l3 := blk_lt q2
    have s1 := (hb3.block _ l2).trans q1
    have s2 := (hb3.block _ l3).trans q2
    have hw3w := hw2.below hb3 (by omega)
    have hb3w : Below w.heap.size w w3 := hb2w.trans (hb3.mono (by omega))
    clear hw3 g2
    have hC : ∀ (X : World) (C : Option Addr) (l : List Int), Kd.C (Kd.int .i64) w C l.length l → Below w.heap.size w X → Kd.C (Kd.int .i64) X C l.length l := fun X C l h hb => Kd.C_below h hb
    refine wpIn_rangeFunc_cells rfl (by omega) (gf := 29) (lb := #[.pointer (some ⟨w2.heap.size, 0, none⟩)]) rfl trivial (enters_of Tryd.func29 (by kernel_rfl) rfl)
      (backward_stops (6 - 1) (by omega) w.heap.size w2.heap.size cA A ws w3 sB (by omega) (by have := R.len; omega) ?hA)
      (Below.refl _ _) (fun h k => h.trans k) ?kb (fun _ => rfl)
      (fun pre W => Below w.heap.size w W ∧ W.heap[w.heap.size + 1]? = some (.cells #[.slice A ws.length cA, .slice B ss.length cB, .int .i64 line, .map (some w.heap.size)] 49 (0, 0)) ∧ W.heap[w.heap.size + 1 + 1]? = some (.cells #[.pointer (some ⟨w.heap.size + 1, 0, none⟩)] 44 (0, 0)) ∧ Ways W w.heap.size pre.length (tabI ws ss line pre.length))
      (fun _ _ => False) ?hI (fun _ _ _ h _ => h.elim) ⟨hb3w, s1, s2, hw3w⟩
      (fun x a' W => a' = { tmps := #[.slice A ws.length cA, .slice B ss.length cB, .int .i64 line, undef, undef, undef, .slice none 0 0, .int .i64 0, .pointer (some ⟨w.heap.size + 1 + 1, 0, none⟩), .nilIface, .int .i64 x.1, undef, undef, .slice A ws.length cA, .slice B ss.length cB, .int .i64 line, .agg #[.slice A ws.length cA, .slice B ss.length cB, .int .i64 line], .map (some w.heap.size), .agg #[.slice A ws.length cA, .slice B ss.length cB, .int .i64 line, .map (some w.heap.size)], .pointer (some ⟨w.heap.size + 1, 0, none⟩), .pointer (some ⟨w.heap.size + 1, 0, none⟩), .pointer (some ⟨w.heap.size + 1, 0, none⟩), .pointer (some ⟨w.heap.size + 1, 0, none⟩), .agg #[.slice A ws.length cA, .slice B ss.length cB, .int .i64 line], .nilIface, .nilIface, .bool false, undef, undef, .slice A ws.length cA, .func (.func 29) #[] #[.pointer (some ⟨w2.heap.size, 0, none⟩)], .int .i64 x.1, .int .i64 x.2, undef, undef, undef, undef, undef, undef, undef, undef, undef, undef, undef, undef, undef, undef, undef, undef, undef, undef, undef, undef, undef, undef, undef, undef, undef, undef], defers := [] })
      (fun _ _ _ _ h => h) ?assign ?body ?done ?stop
    case hA =>
      intro B1 W' hk
      refine hC W' A ws hr0 ⟨hk.1.trans hb3w.os, hk.2.1.trans hb3w.tape, hk.2.2.1.trans hb3w.output, Nat.le_trans hb3w.size hk.2.2.2.1, fun k hk1 => ?_⟩
      have := hb3w.size
      exact (hk.2.2.2.2 k (by omega) (by omega) (.inl (by omega))).trans (hb3w.block k hk1)
    case kb =>
      intro W o hW
      exact ⟨rfl, rfl, rfl, by simp, fun i hi h1 h2 => World.putObj_heap_other (by omega)⟩
    case hI =>
      intro pre W W' h hb
      exact ⟨h.1.trans (hb.mono (by omega)), (hb.block _ (by omega)).trans h.2.1, (hb.block _ (by omega)).trans h.2.2.1, h.2.2.2.below hb (by omega)⟩
    case assign =>
      rintro l pre x W K0 hWs hi hK
      gi_wp2
      exact hK _ _ ⟨rfl, rfl⟩ (KM.refl W) hi rfl
    case body =>
      rintro l pre x a' W hWs ⟨i0, i1, i2, i3⟩ rfl ⟨hlen, hx⟩
      have y0 : W.cell? ⟨w.heap.size + 1 + 1, 0, none⟩ = some (.pointer (some ⟨w.heap.size + 1, 0, none⟩)) := (blk_cell i2 0).trans rfl
      obtain ⟨xa, xb⟩ := x
      obtain rfl : xa = ((ws.length - 1 - pre.length : Nat) : Int) := by have : xa = (ws.length : Int) - 1 - pre.length := hx; omega
      have hM := mFrom_spec ws ss line (ws.length - 1 - pre.length)
      have hl1 := R.len
      have hl2 := R.eq
      have bW : ∀ x ∈ ws, 0 ≤ x ∧ x ≤ 100000 := fun x hx => by have := R.w1 x hx; have := R.line2; omega
      have hF := from_calls (w.heap.size + 1) w.heap.size 9 (ws.length - 1 - pre.length) (mFrom ws ss line (ws.length - 1 - pre.length)) pre.length cA cB A B ws ss line (tabI ws ss line pre.length) W i1 i3 (by omega)
        (fun W' hb => hC W' A ws hr0 (i0.trans (hb.mono i0.size))) (fun W' hb => hC W' B ss hr1 (i0.trans (hb.mono i0.size))) hl2 (by omega) (by have := hM.1; omega) (fun b _ _ => ⟨_, Cost_f 9 (by omega) _ _ _⟩)
        (fun l hl b => by rcases hl with rfl | rfl
                          · have := sumF_le (by omega) bW (l.length - 1 - pre.length) b; omega
                          · have := sumF_le (by omega) R.s1 (ws.length - 1 - pre.length) b; omega)
        (fun k hk => by rw [costS_eq]; exact hM.2.1 k hk) (fun h => by rw [costS_eq]; exact hM.2.2 (by omega))
      rw [itS_itI] at hF
      have hF' := Aside0.mk hF
      clear hF hM bW hl1 hl2 hx
      gi_wp2
      refine ⟨trivial, ?_⟩
      refine (callsIn_wide.2 hF'.out).mono ?_
      rintro e W5 ⟨⟨v, rfl⟩, hw5, hgrow⟩
      gi_wp2
      have kb : ∀ i, i < W.heap.size → i ≠ w.heap.size → W5.heap[i]? = W.heap[i]? := fun i hi h1 => hgrow.block i hi (by intro e; exact h1 (Option.some.inj e))
      have z1 := i0.size
      have z2 := hb3w.size
      refine postC_go ⟨kb _ (by omega) (by omega), kb _ (by omega) (by omega)⟩ ⟨hgrow.os, hgrow.tape, hgrow.output, hgrow.size, fun i hi h1 _ => kb i hi h1⟩ ⟨⟨hgrow.os.trans i0.os, hgrow.tape.trans i0.tape, hgrow.output.trans i0.output, Nat.le_trans z1 hgrow.size, fun k hk => (kb k (by omega) (by omega)).trans (i0.block k hk)⟩, (kb _ (by omega) (by omega)).trans i1, (kb _ (by omega) (by omega)).trans i2, ?_⟩
      rw [List.length_append]
      exact hw5
    case done =>
      rintro D xs W hD rfl ⟨i0, i1, i2, i3⟩ hK
      rw [itB_len] at i3
      obtain ⟨g, hg⟩ : ∃ g, tabI ws ss line ws.length = g := ⟨_, rfl⟩
      have hto : ∀ a, a < ws.length → ∃ b : Nat, (g a).2.1 = b ∧ a < b ∧ b ≤ ws.length := fun a ha => by rw [← hg]; exact tabI_to R ha
      rw [hg] at i3 h
      obtain ⟨h1, h2⟩ := Prod.mk.inj h
      subst h2
      have hl1 := R.len
      have hf : ∀ X, Below W.heap.size W X → X.cell? ⟨w.heap.size + 1 + 1, 0, none⟩ = some (.pointer (some ⟨w.heap.size + 1, 0, none⟩)) ∧ X.cell? ⟨w.heap.size + 1, 3, none⟩ = some (.map (some w.heap.size)) ∧ ∀ a : Nat, a < ws.length → (Instr.lookup 47 (.map (some w.heap.size)) (.int .i64 a) false).run Tryd.prog X = .ok (wayV (g a)) X := by
        intro X hb
        have z1 := blk_lt i1
        have z2 := blk_lt i2
        refine ⟨(blk_cell ((hb.block _ z2).trans i2) 0).trans rfl, (blk_cell ((hb.block _ z1).trans i1) 3).trans rfl, fun a ha => ?_⟩
        refine (i3.below hb (by omega)).run ?_
        rw [show (Lit.int .i64 (a : Int)).wf = true ↔ IntKind.i64.min ≤ (a : Int) ∧ (a : Int) ≤ IntKind.i64.max by simp [Lit.wf]]; exact ⟨by show -9223372036854775808 ≤ _; omega, by show _ ≤ (9223372036854775807 : Int); omega⟩
      have hf0 := fun a b c d W' => field59_0 a b c d W'
      have hf1 := fun a b c W' => field38_1 a b c W'
      obtain ⟨i0_, hi, hz0, hz1, hz2⟩ := info_parts info38
      clear hw2 hways hw3w s1 s2 q1 q2 p1 p2 sB
      gi_wp2
      gi_loopw [11, 12] (fun out at_ wr => ∃ (b d : Nat) (l : List S38), at_ = .int .i64 (b : Int) ∧ b ≤ ws.length ∧ ws.length ≤ b + d ∧ r1 = l ++ outI g ws.length d b ∧ l.length ≤ b ∧ wr.ownsRow W.heap.size 38 3 out l.length (flatS l) ∧ Below W.heap.size W wr) (fun _ at_ _ => ws.length - (intOf at_).toNat)
      case atStart => exact ⟨0, ws.length, [], rfl, by omega, by omega, h1.symm, Nat.le_refl _, own_nil _ _ _ _, Below.refl _ _⟩
      case round =>
        obtain ⟨b, d, l, rfl, hb, hd, hr, hlb, hrow, hB⟩ := hrel
        have hfr := hf wr hB
        obtain ⟨y0, y1, y2⟩ := hfr
        have hsz := hB.size
        have hbr := hb0.size
        by_cases hlt : b < ws.length
        · obtain ⟨d, rfl⟩ : ∃ d', d = d' + 1 := ⟨d - 1, by omega⟩
          have hlk := y2 b hlt
          obtain ⟨b', e', hb1, hb2⟩ := hto b hlt
          have hout : outI g ws.length (d + 1) b = ⟨(g b).1, (g b).2.1, (g b).2.2.1⟩ :: outI g ws.length d (g b).2.1 := by
            show (if (b : Int) < ws.length then _ else _) = _
            rw [if_pos (by omega)]
          rw [hout] at hr
          obtain ⟨GB, hGB⟩ : ∃ GB, g b = GB := ⟨_, rfl⟩
          rw [hGB] at hlk e' hr
          obtain ⟨v0, v1, v2, v3⟩ := GB
          unfold wayV at hlk
          dsimp only at hlk e' hr
          subst e'
          have hX : ∀ X, Below W.heap.size W X → X.cell? ⟨w.heap.size + 1 + 1, 0, none⟩ = some (.pointer (some ⟨w.heap.size + 1, 0, none⟩)) ∧ X.cell? ⟨w.heap.size + 1, 3, none⟩ = some (.map (some w.heap.size)) ∧ (Instr.lookup 47 (.map (some w.heap.size)) (.int .i64 b) false).run Tryd.prog X = .ok (.agg #[.int .i64 v0, .int .i64 b', .int .i64 v2, .int .i64 v3]) X := by
            intro X hb
            have := hf X hb
            refine ⟨this.1, this.2.1, ?_⟩
            have h3 := this.2.2 b hlt
            rw [hGB] at h3
            exact h3
          have hf' := Aside0.mk hf
          have hX' := Aside0.mk hX
          clear hf hX y2
          gi_wp2_with (first
            | (gi_at_builtin; refine wpListIn_append_own _ rfl _ _ 27 rfl W.heap.size 38 i0_ _ 3 24 Tryd.underlying27 hi hz0 hz1 hz2 rfl (by decide) _ _ _ rfl (hrow.alloc _) ⟨wr.heap.size, 0, none⟩ 1 1 [.int .i64 v0, .int .i64 b', .int .i64 v2] rfl rfl (cells_new3 _ _ _ _ _) (by simp [Value.oneCell']) (by simp [maxLen]; omega) (by omega) (by simp; omega) ?_; intro v' w1 hown' hgrow _; have hB1 : Below W.heap.size W w1 := (hB.alloc (by omega) _).grown hgrow (by simp; omega) (fun k hk => own_base hrow hk); obtain ⟨x0, x1, x2⟩ := hX'.out w1 hB1))
          exact ⟨⟨b', d, l ++ [⟨v0, b', v2⟩], rfl, hb2, by omega, by rw [hr]; simp, by rw [List.length_append, List.length_singleton]; omega, by rw [flatS_snoc, List.length_append, List.length_singleton]; exact hown', hB1⟩, by simp [intOf]; omega⟩
        · have hout : outI g ws.length d b = [] := by
            cases d with
            | zero => rfl
            | succ d => show (if (b : Int) < ws.length then _ else _) = _; rw [if_neg (by omega)]
          rw [hout, List.append_nil] at hr
          have hnl : ¬ ((b : Int) < ws.length) := by omega
          gi_wp2
          subst hr
          exact ret14D _ (by rfl) (by rfl) (by have := hb3w.size; omega) ((hB.block D (blk_lt hK)).trans hK) (own_low hrow (by have := i0.size; omega)) (i0.trans (hB.mono i0.size))
    case stop =>
      rintro D pre W hD _ h _
      exact h.elim
  · rw [if_neg c] at h
    obtain ⟨rfl, rfl⟩ := Prod.mk.inj h
    have hk : chkI ws ss line = 2 ∨ chkI ws ss line = 250 := by
      unfold chkI at c ⊢
      repeat' split
      all_goals first | exact .inl rfl | exact .inr rfl | (exfalso; revert c; simp [*])
    rcases hk with hk | hk
    · rw [hk, errV_2]
      gi_wp2
      refine ⟨trivial, ?_⟩
      refine (callsIn_wide.2 (told_arg a0 a1 w2 hS2)).mono ?_
      rintro e w3 ⟨rfl, rfl⟩
      gi_wp2
      exact ret14 (u := .slice none 0 0) _ (by rfl) (by rw [hk]; rfl) (Kd.R_nil _ _ _ _ _) hb2w
    · rw [hk, errV_250]
      gi_wp2
      refine ⟨trivial, ?_⟩
      refine (callsIn_wide.2 (told_break a0 a1 w2 hS2)).mono ?_
      rintro e w3 ⟨rfl, rfl⟩
      gi_wp2
      exact ret14 (u := .slice none 0 0) _ (by rfl) (by rw [hk]; rfl) (Kd.R_nil _ _ _ _ _) hb2w
end Go.Proofs.YtneaoicjbiebkaaDoor.Q
