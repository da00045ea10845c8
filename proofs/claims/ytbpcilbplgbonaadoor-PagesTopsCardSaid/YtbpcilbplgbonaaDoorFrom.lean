/- The best way from a line on is found in place. -/
import Derived.Test.YtbpcilbplgbonaaDoorParts
import Derived.Test.YtbpcilbplgbonaaDoorQ5
import Derived.Test.YtbpcilbplgbonaaDoorHeldIn
import Derived.Maps.OwnIn
import Derived.Laws.StructEq
namespace Go.Proofs.YtbpcilbplgbonaaDoor.Q
open Go.RowKit Go.Proofs.YtbpcilbplgbonaaDoorW.PrintWords Go.Proofs.YtbpcilbplgbonaaDoorW.PrintLast Go.Shelf
attribute [local go_sem] Oper.semAt_some
set_option linter.unusedVariables false
set_option linter.unusedSimpArgs false
theorem wrap_w64 (n : Int) : IntKind.i64.wrap n = wrap64 n := by rw [IntKind.wrap_i64]; unfold wrap64; omega
theorem arrAt (b i : Nat) (h : i < 101) (W : World) : (Instr.indexAt 47 (.pointer (some ⟨b, 3, none⟩)) (.int .i64 (i : Int))).run Tryd.prog W = .ok (.pointer (some ⟨b, 3 + 3 * i, none⟩)) W := by
  have hu := Tryd.underlying47
  have h1 : (i : Int) < 101 := by omega
  have hz : (sizeOf 46).run Tryd.prog W = .ok 3 W := by kernel_rfl
  have ha : (⟨b, 3, none⟩ : Addr).add (i * 3) = ⟨b, 3 + 3 * i, none⟩ := by
    unfold Addr.add; split <;> simp_all
    all_goals omega
  simp [Instr.indexAt, asIntOf, underlying, hu, Instr.sureAddr, Result.andThen, h1, hz, ha]
  omega
set_option maxHeartbeats 2000000 in
set_option maxRecDepth 100000 in
theorem from_calls (Bk a cA : Nat) (A : Option Addr) (hs : List Int) (page gap : Int) (g : Nat → W3) (w : World)
    (hk : w.heap[Bk]? = some (.cells (blkW (.slice A hs.length cA) (.int .i64 page) (.int .i64 gap) g 101) 49 (0, 0)))
    (hA : ∀ w', w.grownBy w' (some Bk) → Kd.C (Kd.int .i64) w' A hs.length hs) (hcA : hs.length ≤ cA) (L : Lns hs page gap) (ha : a < hs.length) (hg0 : g a = (0, 0, 0)) :
    Calls Tryd.prog 21 #[.pointer (some ⟨Bk, 0, none⟩), .int .i64 a] w fun e w' => (∃ v, e = .returned v) ∧ w'.heap[Bk]? = some (.cells (blkW (.slice A hs.length cA) (.int .i64 page) (.int .i64 gap) (updW g a (bestP hs.length g (partsI hs page gap a))) 101) 49 (0, 0)) ∧ w.grownBy w' (some Bk) := by
  have hu42 := Tryd.underlying42
  have hu44 := Tryd.underlying44
  have hu46 := Tryd.underlying46
  have hu47 := Tryd.underlying47
  have hu49 := Tryd.underlying49
  have lBk := blk_lt hk
  have hL5 := L.len
  have hb2 : Below w.heap.size w ((w.alloc (.cells #[.pointer (some ⟨Bk, 0, none⟩)] 40)).alloc (.cells #[.int .i64 a] 3)) := ((Below.refl _ w).alloc (Nat.le_refl _) _).alloc (by simp) _
  have c0 : ((w.alloc (.cells #[.pointer (some ⟨Bk, 0, none⟩)] 40)).alloc (.cells #[.int .i64 a] 3)).cell? ⟨Bk, 0, none⟩ = some (.slice A hs.length cA) := (blk_cell ((hb2.block Bk lBk).trans hk) 0).trans rfl
  have c1 : ((w.alloc (.cells #[.pointer (some ⟨Bk, 0, none⟩)] 40)).alloc (.cells #[.int .i64 a] 3)).cell? ⟨Bk, 1, none⟩ = some (.int .i64 page) := (blk_cell ((hb2.block Bk lBk).trans hk) 1).trans rfl
  have c2 : ((w.alloc (.cells #[.pointer (some ⟨Bk, 0, none⟩)] 40)).alloc (.cells #[.int .i64 a] 3)).cell? ⟨Bk, 2, none⟩ = some (.int .i64 gap) := (blk_cell ((hb2.block Bk lBk).trans hk) 2).trans rfl
  refine (callsIn_wide (n := 3)).1 ?_
  refine callsIn_of_wp_marks Tryd.func21 rfl trivial ?_ rfl
  simp only [Tryd.ntmps21, List.size_toArray, List.length_cons, List.length_nil, Nat.reduceAdd, Nat.reduceSub, Array.replicate_succ, Array.replicate_zero, List.push_toArray, List.append_toArray, List.nil_append, List.cons_append]
  gi_wp2
  obtain ⟨W0, hW0⟩ : ∃ W0, (w.alloc (.cells #[.pointer (some ⟨Bk, 0, none⟩)] 40)).alloc (.cells #[.int .i64 a] 3) = W0 := ⟨_, rfl⟩
  rw [hW0] at hb2 c0 c1 c2
  rw [hW0]
  have z0' : w.heap.size + 2 ≤ W0.heap.size := by rw [← hW0]; simp
  have p0 : W0.heap[w.heap.size]? = some (.cells #[.pointer (some ⟨Bk, 0, none⟩)] 40 (0, 0)) := by
    rw [← hW0]; exact (Below.heap_alloc _ _ _ (by simp)).trans (World.alloc_heap_new w _)
  have p1 : W0.heap[w.heap.size + 1]? = some (.cells #[.int .i64 a] 3 (0, 0)) := by
    rw [← hW0]; have := World.alloc_heap_new (w.alloc (.cells #[.pointer (some ⟨Bk, 0, none⟩)] 40)) (.cells #[.int .i64 a] 3); rwa [World.size_alloc] at this
  clear hW0 c0 c1 c2
  obtain ⟨S, hSd⟩ : ∃ S : World → Prop, Aside0 (S = fun W' => W'.cell? ⟨w.heap.size, 0, none⟩ = some (.pointer (some ⟨Bk, 0, none⟩)) ∧ W'.cell? ⟨w.heap.size + 1, 0, none⟩ = some (.int .i64 a) ∧ W'.cell? ⟨Bk, 0, none⟩ = some (.slice A hs.length cA) ∧ W'.cell? ⟨Bk, 1, none⟩ = some (.int .i64 page) ∧ W'.cell? ⟨Bk, 2, none⟩ = some (.int .i64 gap)) := ⟨_, ⟨rfl⟩⟩
  have hS : ∀ W', Below W0.heap.size W0 W' → S W' := by
    intro W' hb
    rw [hSd.out]
    have q0 := (hb.block _ (by omega)).trans p0
    have q1 := (hb.block _ (by omega)).trans p1
    have q2 := (hb.block Bk (by omega)).trans ((hb2.block Bk lBk).trans hk)
    exact ⟨(blk_cell q0 0).trans rfl, (blk_cell q1 0).trans rfl, (blk_cell q2 0).trans rfl, (blk_cell q2 1).trans rfl, (blk_cell q2 2).trans rfl⟩
  refine wpIn_region_N S (by kernel_rfl) (hS _ (Below.refl _ W0).drew) ?_
  have s0 := hS _ (Below.refl _ W0).drew
  refine wpAnyS_takeN 0 (some 6) (a' := ?ana0) (v := ?av0) rfl rfl (by kernel_rfl) (by kernel_rfl) (by kernel_rfl) (fun _ _ _ h => h) s0 (by kernel_rfl) (fun _ => rfl) ?ahy0 ?anh0 ?arest0
  case ahy0 =>
    intro W' h
    rw [hSd.out] at h
    obtain ⟨z0, z1, z2, z3, z4⟩ := h
    go_simp
    first | done | with_reducible rfl | trace_state
  case anh0 => (simp only [Act.put, List.setIfInBounds_toArray, List.set_cons_zero, List.set_cons_succ]; rfl)
  refine wpAnyS_takeN 1 (some 7) (a' := ?ana1) (v := ?av1) rfl rfl (by kernel_rfl) (by kernel_rfl) (by kernel_rfl) (fun _ _ _ h => h) s0 (by kernel_rfl) (fun _ => rfl) ?ahy1 ?anh1 ?arest1
  case ahy1 =>
    intro W' h
    rw [hSd.out] at h
    obtain ⟨z0, z1, z2, z3, z4⟩ := h
    go_simp
    first | done | with_reducible rfl | trace_state
  case anh1 => (simp only [Act.put, List.setIfInBounds_toArray, List.set_cons_zero, List.set_cons_succ]; rfl)
  refine wpAnyS_takeN 2 (some 8) (a' := ?ana2) (v := ?av2) rfl rfl (by kernel_rfl) (by kernel_rfl) (by kernel_rfl) (fun _ _ _ h => h) s0 (by kernel_rfl) (fun _ => rfl) ?ahy2 ?anh2 ?arest2
  case ahy2 =>
    intro W' h
    rw [hSd.out] at h
    obtain ⟨z0, z1, z2, z3, z4⟩ := h
    go_simp
    first | done | with_reducible rfl | trace_state
  case anh2 => (simp only [Act.put, List.setIfInBounds_toArray, List.set_cons_zero, List.set_cons_succ]; rfl)
  refine wpAnyS_takeN 3 (some 9) (a' := ?ana3) (v := ?av3) rfl rfl (by kernel_rfl) (by kernel_rfl) (by kernel_rfl) (fun _ _ _ h => h) s0 (by kernel_rfl) (fun _ => rfl) ?ahy3 ?anh3 ?arest3
  case ahy3 =>
    intro W' h
    rw [hSd.out] at h
    obtain ⟨z0, z1, z2, z3, z4⟩ := h
    go_simp
    first | done | with_reducible rfl | trace_state
  case anh3 => (simp only [Act.put, List.setIfInBounds_toArray, List.set_cons_zero, List.set_cons_succ]; rfl)
  refine wpAnyS_takeN 4 (some 10) (a' := ?ana4) (v := ?av4) rfl rfl (by kernel_rfl) (by kernel_rfl) (by kernel_rfl) (fun _ _ _ h => h) s0 (by kernel_rfl) (fun _ => rfl) ?ahy4 ?anh4 ?arest4
  case ahy4 =>
    intro W' h
    rw [hSd.out] at h
    obtain ⟨z0, z1, z2, z3, z4⟩ := h
    go_simp
    first | done | with_reducible rfl | trace_state
  case anh4 => (simp only [Act.put, List.setIfInBounds_toArray, List.set_cons_zero, List.set_cons_succ]; rfl)
  refine wpAnyS_one 5 (by kernel_rfl) rfl (by kernel_rfl) ?_
  go_simp
  refine ⟨trivial, ?_⟩
  refine (callsIn_wide.2 (parts_call _ _ _ _ _)).mono ?_
  rintro e w2 ⟨rfl, hw2⟩
  have hb3 : Below W0.heap.size W0 w2 := by rw [hw2]; exact ((Below.refl _ W0).drew.alloc (Nat.le_refl _) _).alloc (by simp) _
  refine ⟨hS _ hb3, ?_⟩
  refine wpAnyS_done (by kernel_rfl) (normalOnly_go ?_) 0
  have p2 : w2.heap[W0.heap.size]? = some (.cells #[.slice A hs.length cA, .int .i64 page, .int .i64 gap] 42 (0, 0)) := by
    rw [hw2]; exact (Below.heap_alloc _ _ _ (by simp)).trans (World.alloc_heap_new W0.drew _)
  have p3 : w2.heap[W0.heap.size + 1]? = some (.cells #[.int .i64 a] 3 (0, 0)) := by
    rw [hw2]; have := World.alloc_heap_new (W0.drew.alloc (.cells #[.slice A hs.length cA, .int .i64 page, .int .i64 gap] 42)) (.cells #[.int .i64 a] 3); rwa [World.size_alloc] at this
  have hz2 : W0.heap.size + 2 ≤ w2.heap.size := by rw [hw2]; simp
  have hbw : Below w.heap.size w w2 := hb2.trans (hb3.mono (by omega))
  have r0 := (hb3.block _ (by omega)).trans p0
  have r1 := (hb3.block _ (by omega)).trans p1
  have r2 := (hbw.block Bk lBk).trans hk
  clear hw2 s0 hS hSd p0 p1
  have hup0 : updW g a (bestP hs.length g []) = g := by
    funext i; unfold updW; split
    · rename_i h; rw [h, hg0]; rfl
    · rfl
  gi_wp2
  refine wpIn_rangeFunc_cells rfl (by omega) (gf := 36) (lb := #[.pointer (some ⟨W0.heap.size, 0, none⟩), .pointer (some ⟨W0.heap.size + 1, 0, none⟩)]) rfl trivial (enters_of Tryd.func36 (by kernel_rfl) rfl)
    (parts_stops (3 - 1) (by omega) Bk W0.heap.size (W0.heap.size + 1) a cA A hs page gap w2 p2 p3 (by omega) (by omega) ?hA' L (by omega))
    (Below.refl _ _) (fun h k => h.trans k) ?kb (fun _ => rfl)
    (fun pre W => W.heap[w.heap.size]? = some (.cells #[.pointer (some ⟨Bk, 0, none⟩)] 40 (0, 0)) ∧ W.heap[w.heap.size + 1]? = some (.cells #[.int .i64 a] 3 (0, 0)) ∧ W.heap[Bk]? = some (.cells (blkW (.slice A hs.length cA) (.int .i64 page) (.int .i64 gap) (updW g a (bestP hs.length g pre)) 101) 49 (0, 0)) ∧ w.grownBy W (some Bk))
    (fun _ _ => False) ?hI (fun _ _ _ h _ => h.elim) ⟨r0, r1, by rw [hup0]; exact r2, grown_of_below hbw _⟩
    (fun x a' W => ∃ bx, w2.heap.size + 2 ≤ bx ∧ W.heap[bx]? = some (.cells #[.int .i64 x.1, .int .i64 x.2] 44 (0, 0)) ∧ a' = { tmps := #[.pointer (some ⟨Bk, 0, none⟩), .int .i64 a, .pointer (some ⟨w.heap.size, 0, none⟩), .pointer (some ⟨w.heap.size + 1, 0, none⟩), .pointer (some ⟨bx, 0, none⟩), undef, .pointer (some ⟨Bk, 0, none⟩), .pointer (some ⟨Bk, 0, none⟩), .pointer (some ⟨Bk, 0, none⟩), .agg #[.slice A hs.length cA, .int .i64 page, .int .i64 gap], .int .i64 a, .func (.func 36) #[] #[.pointer (some ⟨W0.heap.size, 0, none⟩), .pointer (some ⟨W0.heap.size + 1, 0, none⟩)], .agg #[.int .i64 x.1, .int .i64 x.2], undef, undef, undef, undef, undef, undef, undef, undef, undef, undef, undef, undef, undef, undef, undef, undef, undef, undef, undef, undef, undef, undef, undef, undef, undef, undef, undef, undef, undef, undef, undef, undef, undef, undef, undef, undef, undef, undef, undef, undef, undef, undef, undef], defers := [] })
    ?hAx ?assign ?body ?done ?stop
  case hA' =>
    intro B1 w' h
    refine hA w' ⟨h.1.trans hbw.os, h.2.1.trans hbw.tape, h.2.2.1.trans hbw.output, Nat.le_trans hbw.size h.2.2.2.1, fun i hi hn => ?_⟩
    have := hbw.size
    exact (h.2.2.2.2 i (by omega) (fun e => hn (by rw [e])) (.inl (by omega))).trans (hbw.block i hi)
  case kb =>
    intro W o hW
    exact ⟨rfl, rfl, rfl, by simp, fun i hi h1 h2 => World.putObj_heap_other (by omega)⟩
  case hI =>
    intro pre W W' h hb
    have := hbw.size
    refine ⟨(hb.block _ (by omega)).trans h.1, (hb.block _ (by omega)).trans h.2.1, (hb.block _ (by omega)).trans h.2.2.1, ⟨hb.os.trans h.2.2.2.os, hb.tape.trans h.2.2.2.tape, hb.output.trans h.2.2.2.output, Nat.le_trans h.2.2.2.size hb.size, fun i hi hn => (hb.block i (by omega)).trans (h.2.2.2.block i hi hn)⟩⟩
  case hAx =>
    rintro x a' W o ⟨bx, hx0, hx1, rfl⟩
    exact ⟨bx, hx0, (World.putObj_heap_other (by omega)).trans hx1, rfl⟩
  case assign =>
    rintro l pre x W K0 hWs ⟨i0, i1, i2, i3⟩ hK
    gi_wp2
    have hbl : Below W.heap.size W (W.alloc (.cells #[.int .i64 x.1, .int .i64 x.2] 44)) := (Below.refl _ W).alloc (Nat.le_refl _) _
    have := hbw.size
    refine hK _ _ ⟨hbl.block _ (by omega), hbl.block _ (by omega)⟩ ⟨rfl, rfl, rfl, by simp, fun i hi _ _ => hbl.block i hi⟩ ⟨(hbl.block _ (by omega)).trans i0, (hbl.block _ (by omega)).trans i1, (hbl.block _ (by omega)).trans i2, ⟨i3.os, i3.tape, i3.output, Nat.le_trans i3.size (by simp), fun i hi hn => (hbl.block i (by omega)).trans (i3.block i hi hn)⟩⟩ ⟨W.heap.size, by omega, World.alloc_heap_new W _, rfl⟩
  case body =>
    rintro l pre x a' W hWs ⟨i0, i1, i2, i3⟩ ⟨bx, hx0, hx1, rfl⟩ ⟨hlen, hxe, hpre⟩
    have hM := (mP_spec hs page gap a).1
    have hbs := hbw.size
    have hWs3 := i3.size
    obtain ⟨x1, x2⟩ := x
    obtain ⟨rfl, rfl⟩ := Prod.mk.inj hxe
    obtain ⟨j, hj⟩ : ∃ j, Aside0 (j = a + pre.length + 1) := ⟨_, ⟨rfl⟩⟩
    have hjn := hj.out
    have hj1 : a < j := by omega
    have hj2 : j ≤ hs.length := by omega
    have hxj : (a : Int) + pre.length + 1 = (j : Int) := by omega
    obtain ⟨R, hR⟩ : ∃ R, restI hs page gap a (a + pre.length + 1) = R := ⟨_, rfl⟩
    rw [hR] at hx1
    dsimp only at hx1
    rw [hxj] at hx1
    rw [hR, hxj]
    obtain ⟨O, hO⟩ : ∃ O, bestP hs.length g pre = O := ⟨_, rfl⟩
    have hsn : bestP hs.length g (pre ++ [((j : Int), R)]) = stepP hs.length g O ((j : Int), R) := by rw [bestP_snoc, hO]
    have hsn' := Aside0.mk hsn
    rw [hO] at i2
    obtain ⟨u0, u1, u2⟩ := O
    obtain ⟨V, hV⟩ : ∃ V, (g j).2.2 = V := ⟨_, rfl⟩
    have hblk := blkW_get (.slice A hs.length cA) (.int .i64 page) (.int .i64 gap) (updW g a (u0, u1, u2)) 101 j (by omega)
    have hupj : updW g a (u0, u1, u2) j = g j := by unfold updW; rw [if_neg (by omega)]
    rw [hupj, hV] at hblk
    have hblka := blkW_get (.slice A hs.length cA) (.int .i64 page) (.int .i64 gap) (updW g a (u0, u1, u2)) 101 a (by omega)
    have hupa : updW g a (u0, u1, u2) a = (u0, u1, u2) := by unfold updW; rw [if_pos rfl]
    rw [hupa] at hblka
    have hlx := blk_lt hx1
    have hCW := hA W i3
    have hdrop : Aside0 (j = a + pre.length + 1) := hj
    clear hjn hxj hR hj hxe hpre hsn hO hupj hupa hM hlen
    have har := fun W' => arrAt Bk j (by omega) W'
    have hara := fun W' => arrAt Bk a (by omega) W'
    obtain ⟨S, hSd⟩ : ∃ S : World → Prop, Aside0 (S = fun W' => W'.cell? ⟨bx, 0, none⟩ = some (.int .i64 j) ∧ W'.cell? ⟨bx, 1, none⟩ = some (.int .i64 R) ∧ W'.cell? ⟨w.heap.size, 0, none⟩ = some (.pointer (some ⟨Bk, 0, none⟩)) ∧ W'.cell? ⟨Bk, 0, none⟩ = some (.slice A hs.length cA) ∧ W'.cell? ⟨Bk, 1, none⟩ = some (.int .i64 page) ∧ W'.cell? ⟨Bk, 2, none⟩ = some (.int .i64 gap) ∧ W'.cell? ⟨Bk, 3 + 3 * j + 2, none⟩ = some (.int .i64 V)) := ⟨_, ⟨rfl⟩⟩
    have hS : ∀ W', Below W.heap.size W W' → S W' := by
      intro W' hb
      rw [hSd.out]
      have q0 := (hb.block _ hlx).trans hx1
      have q1 := (hb.block _ (by omega)).trans i0
      have q2 := (hb.block Bk (by omega)).trans i2
      exact ⟨(blk_cell q0 0).trans rfl, (blk_cell q0 1).trans rfl, (blk_cell q1 0).trans rfl, (blk_cell q2 0).trans rfl, (blk_cell q2 1).trans rfl, (blk_cell q2 2).trans rfl, (blk_cell q2 _).trans hblk.2.2⟩
    gi_wp2
    refine wpIn_region_S S (by kernel_rfl) (hS _ (Below.refl _ W).drew) ?_
    have s0 := hS _ (Below.refl _ W).drew
    refine wpAnyS_takeN 0 (some 13) (a' := ?bna0) (v := ?bv0) rfl rfl (by kernel_rfl) (by kernel_rfl) (by kernel_rfl) (fun _ _ _ h => h) s0 (by kernel_rfl) (fun _ => rfl) ?bhy0 ?bnh0 ?brest0
    case bhy0 =>
      intro W' h
      rw [hSd.out] at h
      obtain ⟨z0, z1, z2, z3, z4, z5, z6⟩ := h
      go_simp
      first | done | with_reducible rfl | trace_state
    case bnh0 => (simp only [Act.put, List.setIfInBounds_toArray, List.set_cons_zero, List.set_cons_succ]; rfl)
    refine wpAnyS_takeN 1 (some 14) (a' := ?bna1) (v := ?bv1) rfl rfl (by kernel_rfl) (by kernel_rfl) (by kernel_rfl) (fun _ _ _ h => h) s0 (by kernel_rfl) (fun _ => rfl) ?bhy1 ?bnh1 ?brest1
    case bhy1 =>
      intro W' h
      rw [hSd.out] at h
      obtain ⟨z0, z1, z2, z3, z4, z5, z6⟩ := h
      go_simp
      first | done | with_reducible rfl | trace_state
    case bnh1 => (simp only [Act.put, List.setIfInBounds_toArray, List.set_cons_zero, List.set_cons_succ]; rfl)
    refine wpAnyS_takeN 2 (some 15) (a' := ?bna2) (v := ?bv2) rfl rfl (by kernel_rfl) (by kernel_rfl) (by kernel_rfl) (fun _ _ _ h => h) s0 (by kernel_rfl) (fun _ => rfl) ?bhy2 ?bnh2 ?brest2
    case bhy2 =>
      intro W' h
      rw [hSd.out] at h
      obtain ⟨z0, z1, z2, z3, z4, z5, z6⟩ := h
      go_simp
      first | done | with_reducible rfl | trace_state
    case bnh2 => (simp only [Act.put, List.setIfInBounds_toArray, List.set_cons_zero, List.set_cons_succ]; rfl)
    refine wpAnyS_takeN 3 (some 16) (a' := ?bna3) (v := ?bv3) rfl rfl (by kernel_rfl) (by kernel_rfl) (by kernel_rfl) (fun _ _ _ h => h) s0 (by kernel_rfl) (fun _ => rfl) ?bhy3 ?bnh3 ?brest3
    case bhy3 =>
      intro W' h
      rw [hSd.out] at h
      obtain ⟨z0, z1, z2, z3, z4, z5, z6⟩ := h
      go_simp
      first | done | with_reducible rfl | trace_state
    case bnh3 => (simp only [Act.put, List.setIfInBounds_toArray, List.set_cons_zero, List.set_cons_succ]; rfl)
    refine wpAnyS_takeN 4 (some 17) (a' := ?bna4) (v := ?bv4) rfl rfl (by kernel_rfl) (by kernel_rfl) (by kernel_rfl) (fun _ _ _ h => h) s0 (by kernel_rfl) (fun _ => rfl) ?bhy4 ?bnh4 ?brest4
    case bhy4 =>
      intro W' h
      rw [hSd.out] at h
      obtain ⟨z0, z1, z2, z3, z4, z5, z6⟩ := h
      go_simp
      first | done | with_reducible rfl | trace_state
    case bnh4 => (simp only [Act.put, List.setIfInBounds_toArray, List.set_cons_zero, List.set_cons_succ]; rfl)
    refine wpAnyS_takeN 5 (some 18) (a' := ?bna5) (v := ?bv5) rfl rfl (by kernel_rfl) (by kernel_rfl) (by kernel_rfl) (fun _ _ _ h => h) s0 (by kernel_rfl) (fun _ => rfl) ?bhy5 ?bnh5 ?brest5
    case bhy5 =>
      intro W' h
      rw [hSd.out] at h
      obtain ⟨z0, z1, z2, z3, z4, z5, z6⟩ := h
      go_simp
      first | done | with_reducible rfl | trace_state
    case bnh5 => (simp only [Act.put, List.setIfInBounds_toArray, List.set_cons_zero, List.set_cons_succ]; rfl)
    refine wpAnyS_takeN 7 (some 20) (a' := ?bna7) (v := ?bv7) rfl rfl (by kernel_rfl) (by kernel_rfl) (by kernel_rfl) (fun _ _ _ h => h) s0 (by kernel_rfl) (fun _ => rfl) ?bhy7 ?bnh7 ?brest7
    case bhy7 =>
      intro W' h
      rw [hSd.out] at h
      obtain ⟨z0, z1, z2, z3, z4, z5, z6⟩ := h
      go_simp
      first | done | with_reducible rfl | trace_state
    case bnh7 => (simp only [Act.put, List.setIfInBounds_toArray, List.set_cons_zero, List.set_cons_succ]; rfl)
    refine wpAnyS_takeN 8 (some 21) (a' := ?bna8) (v := ?bv8) rfl rfl (by kernel_rfl) (by kernel_rfl) (by kernel_rfl) (fun _ _ _ h => h) s0 (by kernel_rfl) (fun _ => rfl) ?bhy8 ?bnh8 ?brest8
    case bhy8 =>
      intro W' h
      rw [hSd.out] at h
      obtain ⟨z0, z1, z2, z3, z4, z5, z6⟩ := h
      go_simp
      first | done | with_reducible rfl | trace_state
    case bnh8 => (simp only [Act.put, List.setIfInBounds_toArray, List.set_cons_zero, List.set_cons_succ]; rfl)
    refine wpAnyS_takeN 9 (some 22) (a' := ?bna9) (v := ?bv9) rfl rfl (by kernel_rfl) (by kernel_rfl) (by kernel_rfl) (fun _ _ _ h => h) s0 (by kernel_rfl) (fun _ => rfl) ?bhy9 ?bnh9 ?brest9
    case bhy9 =>
      intro W' h
      rw [hSd.out] at h
      obtain ⟨z0, z1, z2, z3, z4, z5, z6⟩ := h
      go_simp
      first | done | with_reducible rfl | trace_state
    case bnh9 => (simp only [Act.put, List.setIfInBounds_toArray, List.set_cons_zero, List.set_cons_succ]; rfl)
    refine wpAnyS_takeN 10 (some 23) (a' := ?bna10) (v := ?bv10) rfl rfl (by kernel_rfl) (by kernel_rfl) (by kernel_rfl) (fun _ _ _ h => h) s0 (by kernel_rfl) (fun _ => rfl) ?bhy10 ?bnh10 ?brest10
    case bhy10 =>
      intro W' h
      rw [hSd.out] at h
      obtain ⟨z0, z1, z2, z3, z4, z5, z6⟩ := h
      go_simp
      first | done | with_reducible rfl | trace_state
    case bnh10 => (simp only [Act.put, List.setIfInBounds_toArray, List.set_cons_zero, List.set_cons_succ]; rfl)
    refine wpAnyS_takeN 11 (some 24) (a' := ?bna11) (v := ?bv11) rfl rfl (by kernel_rfl) (by kernel_rfl) (by kernel_rfl) (fun _ _ _ h => h) s0 (by kernel_rfl) (fun _ => rfl) ?bhy11 ?bnh11 ?brest11
    case bhy11 =>
      intro W' h
      rw [hSd.out] at h
      obtain ⟨z0, z1, z2, z3, z4, z5, z6⟩ := h
      go_simp
      first | done | with_reducible rfl | trace_state
    case bnh11 => (simp only [Act.put, List.setIfInBounds_toArray, List.set_cons_zero, List.set_cons_succ]; rfl)
    refine wpAnyS_takeN 12 (some 25) (a' := ?bna12) (v := ?bv12) rfl rfl (by kernel_rfl) (by kernel_rfl) (by kernel_rfl) (fun _ _ _ h => h) s0 (by kernel_rfl) (fun _ => rfl) ?bhy12 ?bnh12 ?brest12
    case bhy12 =>
      intro W' h
      rw [hSd.out] at h
      obtain ⟨z0, z1, z2, z3, z4, z5, z6⟩ := h
      go_simp
      first | done | with_reducible rfl | trace_state
    case bnh12 => (simp only [Act.put, List.setIfInBounds_toArray, List.set_cons_zero, List.set_cons_succ]; rfl)
    refine wpAnyS_takeN 13 (some 26) (a' := ?bna13) (v := ?bv13) rfl rfl (by kernel_rfl) (by kernel_rfl) (by kernel_rfl) (fun _ _ _ h => h) s0 (by kernel_rfl) (fun _ => rfl) ?bhy13 ?bnh13 ?brest13
    case bhy13 =>
      intro W' h
      rw [hSd.out] at h
      obtain ⟨z0, z1, z2, z3, z4, z5, z6⟩ := h
      go_simp
      first | done | with_reducible rfl | trace_state
    case bnh13 => (simp only [Act.put, List.setIfInBounds_toArray, List.set_cons_zero, List.set_cons_succ]; rfl)
    refine wpAnyS_takeN 14 (some 27) (a' := ?bna14) (v := ?bv14) rfl rfl (by kernel_rfl) (by kernel_rfl) (by kernel_rfl) (fun _ _ _ h => h) s0 (by kernel_rfl) (fun _ => rfl) ?bhy14 ?bnh14 ?brest14
    case bhy14 =>
      intro W' h
      rw [hSd.out] at h
      obtain ⟨z0, z1, z2, z3, z4, z5, z6⟩ := h
      go_simp
      first | done | with_reducible rfl | trace_state
    case bnh14 => (simp only [Act.put, List.setIfInBounds_toArray, List.set_cons_zero, List.set_cons_succ]; rfl)
    obtain ⟨CO, hCO⟩ : ∃ CO, costP hs.length ((j : Int), R) = CO := ⟨_, rfl⟩
    obtain ⟨T, hT⟩ : ∃ T, IntKind.i64.wrap (CO + V) = T := ⟨_, rfl⟩
    have hcost : ∀ W', Below W.heap.size W W' → Calls Tryd.prog 27 #[.agg #[.slice A hs.length cA, .int .i64 page, .int .i64 gap], .agg #[.int .i64 (j : Int), .int .i64 R]] W' fun e w'' => e = .returned (.int .i64 CO) ∧ Below W'.heap.size W' w'' := fun W' hb =>
      pages_lines_cost.calls A cA hs page gap j R CO W' (Kd.C_below hCW hb) hcA (by unfold pages_lines_cost.f; rw [← hCO]; unfold costP; dsimp only; split <;> rfl)
    have hcost' := Aside0.mk hcost
    have hstp : Aside0 (bestP hs.length g (pre ++ [((j : Int), R)]) = if (u0, u1, u2) = ((0, 0, 0) : W3) ∨ T ≤ u2 then ((j : Int), R, T) else (u0, u1, u2)) := ⟨by
      rw [hsn'.out]; unfold stepP; dsimp only; rw [Int.toNat_natCast, hV, hCO, ← hT, wrap_w64]⟩
    clear hcost hCO hCW hV hsn'
    refine wpAnyS_two 6 17 (by kernel_rfl) rfl rfl (by kernel_rfl) (by kernel_rfl) ?callfirst ?allocfirst
    case callfirst =>
      go_simp
      refine ⟨trivial, ?_⟩
      refine (callsIn_wide.2 (hcost'.out _ (Below.refl _ W).drew)).mono ?_
      rintro e w3 ⟨rfl, hb3⟩
      have hb3' : Below W.heap.size W w3 := (Below.refl _ W).drew.trans hb3
      refine ⟨hS _ hb3', ?_⟩
      have s0 := hS _ hb3'
      refine wpAnyS_takeN 15 (some 28) (a' := ?cna15) (v := ?cv15) rfl rfl (by kernel_rfl) (by kernel_rfl) (by kernel_rfl) (fun _ _ _ h => h) s0 (by kernel_rfl) (fun _ => rfl) ?chy15 ?cnh15 ?crest15
      case chy15 =>
        intro W' h
        rw [hSd.out] at h
        obtain ⟨z0, z1, z2, z3, z4, z5, z6⟩ := h
        go_simp
        first | done | with_reducible rfl | trace_state
      case cnh15 => (simp only [Act.put, List.setIfInBounds_toArray, List.set_cons_zero, List.set_cons_succ]; rfl)
      refine wpAnyS_takeN 16 (some 29) (a' := ?cna16) (v := ?cv16) rfl rfl (by kernel_rfl) (by kernel_rfl) (by kernel_rfl) (fun _ _ _ h => h) s0 (by kernel_rfl) (fun _ => rfl) ?chy16 ?cnh16 ?crest16
      case chy16 =>
        intro W' h
        rw [hSd.out] at h
        obtain ⟨z0, z1, z2, z3, z4, z5, z6⟩ := h
        go_simp
        first | done | with_reducible rfl | trace_state
      case cnh16 => (simp only [Act.put, List.setIfInBounds_toArray, List.set_cons_zero, List.set_cons_succ]; rfl)
      refine wpAnyS_one 17 (by kernel_rfl) rfl (by kernel_rfl) ?_
      go_simp
      refine ⟨hS _ (hb3'.alloc hb3'.size _), ?_⟩
      refine wpAnyS_one 18 (by kernel_rfl) rfl (by kernel_rfl) ?_
      go_simp
      refine ⟨hS _ (hb3'.alloc hb3'.size _), ?_⟩
      refine wpAnyS_done (by kernel_rfl) ?_ 0
      obtain ⟨W5, hW5⟩ : ∃ W5, w3.alloc (.cells #[.int .i64 j, .int .i64 R, .int .i64 T] 46) = W5 := ⟨_, rfl⟩
      have n0 : W5.heap[w3.heap.size]? = some (.cells #[.int .i64 j, .int .i64 R, .int .i64 T] 46 (0, 0)) := by rw [← hW5]; exact World.alloc_heap_new w3 _
      have hb5 : Below W.heap.size W W5 := by rw [← hW5]; exact hb3'.alloc hb3'.size _
      have hbwl : W.heap.size ≤ w3.heap.size := hb3'.size
      rw [hW5]
      clear hW5
      obtain ⟨bw, hbwe⟩ : ∃ bw, w3.heap.size = bw := ⟨_, rfl⟩
      rw [hbwe] at n0 hbwl
      rw [hbwe]
      clear hbwe
      clear s0 hSd hS
      have o0 := (hb5.block _ (by omega)).trans i0
      have o1 := (hb5.block _ (by omega)).trans i1
      have o2 := (hb5.block Bk (by omega)).trans i2
      obtain ⟨S, hSd⟩ : ∃ S : World → Prop, Aside0 (S = fun W' => W'.cell? ⟨w.heap.size, 0, none⟩ = some (.pointer (some ⟨Bk, 0, none⟩)) ∧ W'.cell? ⟨w.heap.size + 1, 0, none⟩ = some (.int .i64 a) ∧ W'.cell? ⟨Bk, 3 + 3 * a, none⟩ = some (.int .i64 u0) ∧ W'.cell? ⟨Bk, 3 + 3 * a + 1, none⟩ = some (.int .i64 u1) ∧ W'.cell? ⟨Bk, 3 + 3 * a + 2, none⟩ = some (.int .i64 u2) ∧ W'.cell? ⟨bw, 0, none⟩ = some (.int .i64 j) ∧ W'.cell? ⟨bw, 1, none⟩ = some (.int .i64 R) ∧ W'.cell? ⟨bw, 2, none⟩ = some (.int .i64 T)) := ⟨_, ⟨rfl⟩⟩
      have hS : ∀ W', Below W5.heap.size W5 W' → S W' := by
        intro W' hb
        rw [hSd.out]
        have q0 := (hb.block _ (blk_lt o0)).trans o0
        have q1 := (hb.block _ (blk_lt o1)).trans o1
        have q2 := (hb.block Bk (blk_lt o2)).trans o2
        have q3 := (hb.block bw (blk_lt n0)).trans n0
        exact ⟨(blk_cell q0 0).trans rfl, (blk_cell q1 0).trans rfl, (blk_cell q2 _).trans hblka.1, (blk_cell q2 _).trans hblka.2.1, (blk_cell q2 _).trans hblka.2.2, (blk_cell q3 0).trans rfl, (blk_cell q3 1).trans rfl, (blk_cell q3 2).trans rfl⟩
      gi_wp2
      refine wpIn_region_S S (by kernel_rfl) (hS _ (Below.refl _ W5).drew) ?_
      have s0 := hS _ (Below.refl _ W5).drew
      by_cases hzero : u0 = 0 ∧ u1 = 0 ∧ u2 = 0
      · obtain ⟨rfl, rfl, rfl⟩ := hzero
        refine wpAnyS_takeN 0 (some 30) (a' := ?eana0) (v := ?eav0) rfl rfl (by kernel_rfl) (by kernel_rfl) (by kernel_rfl) (fun _ _ _ h => h) s0 (by kernel_rfl) (fun _ => rfl) ?eahy0 ?eanh0 ?earest0
        case eahy0 =>
          intro W' h
          rw [hSd.out] at h
          obtain ⟨z0, z1, z2, z3, z4, z5, z6, z7⟩ := h
          go_simp
          first | done | with_reducible rfl | trace_state
        case eanh0 => (simp only [Act.put, List.setIfInBounds_toArray, List.set_cons_zero, List.set_cons_succ]; rfl)
        refine wpAnyS_takeN 1 (some 31) (a' := ?eana1) (v := ?eav1) rfl rfl (by kernel_rfl) (by kernel_rfl) (by kernel_rfl) (fun _ _ _ h => h) s0 (by kernel_rfl) (fun _ => rfl) ?eahy1 ?eanh1 ?earest1
        case eahy1 =>
          intro W' h
          rw [hSd.out] at h
          obtain ⟨z0, z1, z2, z3, z4, z5, z6, z7⟩ := h
          go_simp
          first | done | with_reducible rfl | trace_state
        case eanh1 => (simp only [Act.put, List.setIfInBounds_toArray, List.set_cons_zero, List.set_cons_succ]; rfl)
        refine wpAnyS_takeN 2 (some 32) (a' := ?eana2) (v := ?eav2) rfl rfl (by kernel_rfl) (by kernel_rfl) (by kernel_rfl) (fun _ _ _ h => h) s0 (by kernel_rfl) (fun _ => rfl) ?eahy2 ?eanh2 ?earest2
        case eahy2 =>
          intro W' h
          rw [hSd.out] at h
          obtain ⟨z0, z1, z2, z3, z4, z5, z6, z7⟩ := h
          go_simp
          first | done | with_reducible rfl | trace_state
        case eanh2 => (simp only [Act.put, List.setIfInBounds_toArray, List.set_cons_zero, List.set_cons_succ]; rfl)
        refine wpAnyS_takeN 3 (some 33) (a' := ?eana3) (v := ?eav3) rfl rfl (by kernel_rfl) (by kernel_rfl) (by kernel_rfl) (fun _ _ _ h => h) s0 (by kernel_rfl) (fun _ => rfl) ?eahy3 ?eanh3 ?earest3
        case eahy3 =>
          intro W' h
          rw [hSd.out] at h
          obtain ⟨z0, z1, z2, z3, z4, z5, z6, z7⟩ := h
          go_simp
          first | done | with_reducible rfl | trace_state
        case eanh3 => (simp only [Act.put, List.setIfInBounds_toArray, List.set_cons_zero, List.set_cons_succ]; rfl)
        refine wpAnyS_takeN 4 (some 34) (a' := ?eana4) (v := ?eav4) rfl rfl (by kernel_rfl) (by kernel_rfl) (by kernel_rfl) (fun _ _ _ h => h) s0 (by kernel_rfl) (fun _ => rfl) ?eahy4 ?eanh4 ?earest4
        case eahy4 =>
          intro W' h
          rw [hSd.out] at h
          obtain ⟨z0, z1, z2, z3, z4, z5, z6, z7⟩ := h
          go_simp
          first | done | with_reducible rfl | trace_state
        case eanh4 => (simp only [Act.put, List.setIfInBounds_toArray, List.set_cons_zero, List.set_cons_succ]; rfl)
        refine wpAnyS_takeN 5 (some 35) (a' := ?eana5) (v := ?eav5) rfl rfl (by kernel_rfl) (by kernel_rfl) (by kernel_rfl) (fun _ _ _ h => h) s0 (by kernel_rfl) (fun _ => rfl) ?eahy5 ?eanh5 ?earest5
        case eahy5 =>
          intro W' h
          rw [hSd.out] at h
          obtain ⟨z0, z1, z2, z3, z4, z5, z6, z7⟩ := h
          go_simp
          first | done | with_reducible rfl | trace_state
        case eanh5 => (simp only [Act.put, List.setIfInBounds_toArray, List.set_cons_zero, List.set_cons_succ]; rfl)
        refine wpAnyS_takeN 6 (some 36) (a' := ?eana6) (v := ?eav6) rfl rfl (by kernel_rfl) (by kernel_rfl) (by kernel_rfl) (fun _ _ _ h => h) s0 (by kernel_rfl) (fun _ => rfl) ?eahy6 ?eanh6 ?earest6
        case eahy6 =>
          intro W' h
          rw [hSd.out] at h
          obtain ⟨z0, z1, z2, z3, z4, z5, z6, z7⟩ := h
          go_simp
          first | done | with_reducible rfl | trace_state
        case eanh6 => (simp only [Act.put, List.setIfInBounds_toArray, List.set_cons_zero, List.set_cons_succ]; rfl)
        refine wpAnyS_takeN 7 (some 37) (a' := ?eana7) (v := ?eav7) rfl rfl (by kernel_rfl) (by kernel_rfl) (by kernel_rfl) (fun _ _ _ h => h) s0 (by kernel_rfl) (fun _ => rfl) ?eahy7 ?eanh7 ?earest7
        case eahy7 =>
          intro W' h
          rw [hSd.out] at h
          obtain ⟨z0, z1, z2, z3, z4, z5, z6, z7⟩ := h
          go_simp
          first | done | with_reducible rfl | trace_state
        case eanh7 => (simp only [Act.put, List.setIfInBounds_toArray, List.set_cons_zero, List.set_cons_succ]; rfl)
        refine wpAnyS_takeN 8 (some 38) (a' := ?eana8) (v := ?eav8) rfl rfl (by kernel_rfl) (by kernel_rfl) (by kernel_rfl) (fun _ _ _ h => h) s0 (by kernel_rfl) (fun _ => rfl) ?eahy8 ?eanh8 ?earest8
        case eahy8 =>
          intro W' h
          rw [hSd.out] at h
          obtain ⟨z0, z1, z2, z3, z4, z5, z6, z7⟩ := h
          go_simp
          first | done | with_reducible rfl | trace_state
        case eanh8 => (simp only [Act.put, List.setIfInBounds_toArray, List.set_cons_zero, List.set_cons_succ]; rfl)
        refine wpAnyS_skipN 9 (some 39) (a' := ?eana9) rfl rfl (by kernel_rfl) (by kernel_rfl) (by kernel_rfl) (fun _ _ _ h => h) s0 (by kernel_rfl) (fun _ => rfl) ?eanh9 ?earest9
        case eanh9 => (simp only [Act.put, List.setIfInBounds_toArray, List.set_cons_zero, List.set_cons_succ]; rfl)
        refine wpAnyS_skipN 10 (some 40) (a' := ?eana10) rfl rfl (by kernel_rfl) (by kernel_rfl) (by kernel_rfl) (fun _ _ _ h => h) s0 (by kernel_rfl) (fun _ => rfl) ?eanh10 ?earest10
        case eanh10 => (simp only [Act.put, List.setIfInBounds_toArray, List.set_cons_zero, List.set_cons_succ]; rfl)
        refine wpAnyS_skipN 11 (some 41) (a' := ?eana11) rfl rfl (by kernel_rfl) (by kernel_rfl) (by kernel_rfl) (fun _ _ _ h => h) s0 (by kernel_rfl) (fun _ => rfl) ?eanh11 ?earest11
        case eanh11 => (simp only [Act.put, List.setIfInBounds_toArray, List.set_cons_zero, List.set_cons_succ]; rfl)
        refine wpAnyS_skipN 12 (some 42) (a' := ?eana12) rfl rfl (by kernel_rfl) (by kernel_rfl) (by kernel_rfl) (fun _ _ _ h => h) s0 (by kernel_rfl) (fun _ => rfl) ?eanh12 ?earest12
        case eanh12 => (simp only [Act.put, List.setIfInBounds_toArray, List.set_cons_zero, List.set_cons_succ]; rfl)
        refine wpAnyS_skipN 13 (some 43) (a' := ?eana13) rfl rfl (by kernel_rfl) (by kernel_rfl) (by kernel_rfl) (fun _ _ _ h => h) s0 (by kernel_rfl) (fun _ => rfl) ?eanh13 ?earest13
        case eanh13 => (simp only [Act.put, List.setIfInBounds_toArray, List.set_cons_zero, List.set_cons_succ]; rfl)
        refine wpAnyS_skipN 14 (some 44) (a' := ?eana14) rfl rfl (by kernel_rfl) (by kernel_rfl) (by kernel_rfl) (fun _ _ _ h => h) s0 (by kernel_rfl) (fun _ => rfl) ?eanh14 ?earest14
        case eanh14 => (simp only [Act.put, List.setIfInBounds_toArray, List.set_cons_zero, List.set_cons_succ]; rfl)
        refine wpAnyS_skipN 15 (some 45) (a' := ?eana15) rfl rfl (by kernel_rfl) (by kernel_rfl) (by kernel_rfl) (fun _ _ _ h => h) s0 (by kernel_rfl) (fun _ => rfl) ?eanh15 ?earest15
        case eanh15 => (simp only [Act.put, List.setIfInBounds_toArray, List.set_cons_zero, List.set_cons_succ]; rfl)
        refine wpAnyS_skipN 16 (some 46) (a' := ?eana16) rfl rfl (by kernel_rfl) (by kernel_rfl) (by kernel_rfl) (fun _ _ _ h => h) s0 (by kernel_rfl) (fun _ => rfl) ?eanh16 ?earest16
        case eanh16 => (simp only [Act.put, List.setIfInBounds_toArray, List.set_cons_zero, List.set_cons_succ]; rfl)
        refine wpAnyS_skipN 17 (some 47) (a' := ?eana17) rfl rfl (by kernel_rfl) (by kernel_rfl) (by kernel_rfl) (fun _ _ _ h => h) s0 (by kernel_rfl) (fun _ => rfl) ?eanh17 ?earest17
        case eanh17 => (simp only [Act.put, List.setIfInBounds_toArray, List.set_cons_zero, List.set_cons_succ]; rfl)
        refine wpAnyS_skipN 18 (some 48) (a' := ?eana18) rfl rfl (by kernel_rfl) (by kernel_rfl) (by kernel_rfl) (fun _ _ _ h => h) s0 (by kernel_rfl) (fun _ => rfl) ?eanh18 ?earest18
        case eanh18 => (simp only [Act.put, List.setIfInBounds_toArray, List.set_cons_zero, List.set_cons_succ]; rfl)
        refine wpAnyS_takeN 19 (some 49) (a' := ?eana19) (v := ?eav19) rfl rfl (by kernel_rfl) (by kernel_rfl) (by kernel_rfl) (fun _ _ _ h => h) s0 (by kernel_rfl) (fun _ => rfl) ?eahy19 ?eanh19 ?earest19
        case eahy19 =>
          intro W' h
          rw [hSd.out] at h
          obtain ⟨z0, z1, z2, z3, z4, z5, z6, z7⟩ := h
          go_simp
          first | done | with_reducible rfl | trace_state
        case eanh19 => (simp only [Act.put, List.setIfInBounds_toArray, List.set_cons_zero, List.set_cons_succ]; rfl)
        refine wpAnyS_done (by kernel_rfl) ?_ 0
        gi_wp2
        obtain ⟨S5, hSd⟩ : ∃ S5 : World → Prop, Aside0 (S5 = fun W' => W'.cell? ⟨w.heap.size, 0, none⟩ = some (.pointer (some ⟨Bk, 0, none⟩)) ∧ W'.cell? ⟨w.heap.size + 1, 0, none⟩ = some (.int .i64 a) ∧ W'.cell? ⟨bw, 0, none⟩ = some (.int .i64 j) ∧ W'.cell? ⟨bw, 1, none⟩ = some (.int .i64 R) ∧ W'.cell? ⟨bw, 2, none⟩ = some (.int .i64 T)) := ⟨_, ⟨rfl⟩⟩
        have hS5 : ∀ W' : World, (∀ i, i ≠ Bk → i < W5.heap.size → W'.heap[i]? = W5.heap[i]?) → S5 W' := by
          intro W' hb
          rw [hSd.out]
          have q0 := (hb _ (by omega) (blk_lt o0)).trans o0
          have q1 := (hb _ (by omega) (blk_lt o1)).trans o1
          have q3 := (hb bw (by omega) (blk_lt n0)).trans n0
          exact ⟨(blk_cell q0 0).trans rfl, (blk_cell q1 0).trans rfl, (blk_cell q3 0).trans rfl, (blk_cell q3 1).trans rfl, (blk_cell q3 2).trans rfl⟩
        have s5 := hS5 W5.drew.drew (fun _ _ _ => rfl)
        have k0 : W5.drew.drew.cell? ⟨Bk, 3 + 3 * a, none⟩ = some (.int .i64 0) := (blk_cell (w := W5) o2 _).trans hblka.1
        have k1 : W5.drew.drew.cell? ⟨Bk, 3 + 3 * a + 1, none⟩ = some (.int .i64 0) := (blk_cell (w := W5) o2 _).trans hblka.2.1
        have k2 : W5.drew.drew.cell? ⟨Bk, 3 + 3 * a + 2, none⟩ = some (.int .i64 0) := (blk_cell (w := W5) o2 _).trans hblka.2.2
        have g0 : W5.drew.drew.frozen? ⟨Bk, 3 + 3 * a, none⟩ = false := blk_frozen (w := W5) o2 _
        have g1 : W5.drew.drew.frozen? ⟨Bk, 3 + 3 * a + 1, none⟩ = false := blk_frozen (w := W5) o2 _
        have g2 : W5.drew.drew.frozen? ⟨Bk, 3 + 3 * a + 2, none⟩ = false := blk_frozen (w := W5) o2 _
        have q1' := blk_set (w := W5) o2 (3 + 3 * a) (.int .i64 (j : Int))
        have q2' := blk_set q1' (3 + 3 * a + 1) (.int .i64 R)
        have e1 : (W5.setCell ⟨Bk, 3 + 3 * a, none⟩ (.int .i64 (j : Int))).cell? ⟨Bk, 3 + 3 * a + 1, none⟩ = some (.int .i64 0) := by
          rw [blk_cell q1' _, Array.getElem?_setIfInBounds_ne (by omega)]; exact hblka.2.1
        have e2 : ((W5.setCell ⟨Bk, 3 + 3 * a, none⟩ (.int .i64 (j : Int))).setCell ⟨Bk, 3 + 3 * a + 1, none⟩ (.int .i64 R)).cell? ⟨Bk, 3 + 3 * a + 2, none⟩ = some (.int .i64 0) := by
          rw [blk_cell q2' _, Array.getElem?_setIfInBounds_ne (by omega), Array.getElem?_setIfInBounds_ne (by omega)]; exact hblka.2.2
        have f1' := blk_frozen q1' (3 + 3 * a + 1)
        have f2' := blk_frozen q2' (3 + 3 * a + 2)
        have e1d : (W5.setCell ⟨Bk, 3 + 3 * a, none⟩ (.int .i64 (j : Int))).drew.drew.cell? ⟨Bk, 3 + 3 * a + 1, none⟩ = some (.int .i64 0) := e1
        have e2d : ((W5.setCell ⟨Bk, 3 + 3 * a, none⟩ (.int .i64 (j : Int))).setCell ⟨Bk, 3 + 3 * a + 1, none⟩ (.int .i64 R)).drew.drew.cell? ⟨Bk, 3 + 3 * a + 2, none⟩ = some (.int .i64 0) := e2
        have f1d : (W5.setCell ⟨Bk, 3 + 3 * a, none⟩ (.int .i64 (j : Int))).drew.drew.frozen? ⟨Bk, 3 + 3 * a + 1, none⟩ = false := f1'
        have f2d : ((W5.setCell ⟨Bk, 3 + 3 * a, none⟩ (.int .i64 (j : Int))).setCell ⟨Bk, 3 + 3 * a + 1, none⟩ (.int .i64 R)).drew.drew.frozen? ⟨Bk, 3 + 3 * a + 2, none⟩ = false := f2'
        clear q1' q2'
        refine wpIn_region_S S5 (by kernel_rfl) s5 ?_
        refine wpAnyS_takeN 0 (some 50) (a' := ?easna0) (v := ?easv0) rfl rfl (by kernel_rfl) (by kernel_rfl) (by kernel_rfl) (fun _ _ _ h => h) s5 (by kernel_rfl) (fun _ => rfl) ?eashy0 ?easnh0 ?easrest0
        case eashy0 =>
          intro W' h
          rw [hSd.out] at h
          obtain ⟨z0, z1, z2, z3, z4⟩ := h
          go_simp
          first | done | with_reducible rfl | trace_state
        case easnh0 => (simp only [Act.put, List.setIfInBounds_toArray, List.set_cons_zero, List.set_cons_succ]; rfl)
        refine wpAnyS_takeN 1 (some 51) (a' := ?easna1) (v := ?easv1) rfl rfl (by kernel_rfl) (by kernel_rfl) (by kernel_rfl) (fun _ _ _ h => h) s5 (by kernel_rfl) (fun _ => rfl) ?eashy1 ?easnh1 ?easrest1
        case eashy1 =>
          intro W' h
          rw [hSd.out] at h
          obtain ⟨z0, z1, z2, z3, z4⟩ := h
          go_simp
          first | done | with_reducible rfl | trace_state
        case easnh1 => (simp only [Act.put, List.setIfInBounds_toArray, List.set_cons_zero, List.set_cons_succ]; rfl)
        refine wpAnyS_takeN 2 (some 52) (a' := ?easna2) (v := ?easv2) rfl rfl (by kernel_rfl) (by kernel_rfl) (by kernel_rfl) (fun _ _ _ h => h) s5 (by kernel_rfl) (fun _ => rfl) ?eashy2 ?easnh2 ?easrest2
        case eashy2 =>
          intro W' h
          rw [hSd.out] at h
          obtain ⟨z0, z1, z2, z3, z4⟩ := h
          go_simp
          first | done | with_reducible rfl | trace_state
        case easnh2 => (simp only [Act.put, List.setIfInBounds_toArray, List.set_cons_zero, List.set_cons_succ]; rfl)
        refine wpAnyS_takeN 3 (some 53) (a' := ?easna3) (v := ?easv3) rfl rfl (by kernel_rfl) (by kernel_rfl) (by kernel_rfl) (fun _ _ _ h => h) s5 (by kernel_rfl) (fun _ => rfl) ?eashy3 ?easnh3 ?easrest3
        case eashy3 =>
          intro W' h
          rw [hSd.out] at h
          obtain ⟨z0, z1, z2, z3, z4⟩ := h
          go_simp
          first | done | with_reducible rfl | trace_state
        case easnh3 => (simp only [Act.put, List.setIfInBounds_toArray, List.set_cons_zero, List.set_cons_succ]; rfl)
        refine wpAnyS_takeN 4 (some 54) (a' := ?easna4) (v := ?easv4) rfl rfl (by kernel_rfl) (by kernel_rfl) (by kernel_rfl) (fun _ _ _ h => h) s5 (by kernel_rfl) (fun _ => rfl) ?eashy4 ?easnh4 ?easrest4
        case eashy4 =>
          intro W' h
          rw [hSd.out] at h
          obtain ⟨z0, z1, z2, z3, z4⟩ := h
          go_simp
          first | done | with_reducible rfl | trace_state
        case easnh4 => (simp only [Act.put, List.setIfInBounds_toArray, List.set_cons_zero, List.set_cons_succ]; rfl)
        refine wpAnyS_takeN 5 (some 55) (a' := ?easna5) (v := ?easv5) rfl rfl (by kernel_rfl) (by kernel_rfl) (by kernel_rfl) (fun _ _ _ h => h) s5 (by kernel_rfl) (fun _ => rfl) ?eashy5 ?easnh5 ?easrest5
        case eashy5 =>
          intro W' h
          rw [hSd.out] at h
          obtain ⟨z0, z1, z2, z3, z4⟩ := h
          go_simp
          first | done | with_reducible rfl | trace_state
        case easnh5 => (simp only [Act.put, List.setIfInBounds_toArray, List.set_cons_zero, List.set_cons_succ]; rfl)
        refine wpAnyS_one 6 (by kernel_rfl) rfl (by kernel_rfl) ?_
        go_simp
        obtain ⟨W7, hW7⟩ : ∃ W7, (((W5.setCell ⟨Bk, 3 + 3 * a, none⟩ (.int .i64 j)).setCell ⟨Bk, 3 + 3 * a + 1, none⟩ (.int .i64 R)).setCell ⟨Bk, 3 + 3 * a + 2, none⟩ (.int .i64 T)).drew.drew = W7 := ⟨_, rfl⟩
        rw [hW7]
        have hk7 : ∀ i, i ≠ Bk → W7.heap[i]? = W5.heap[i]? := by
          intro i hi
          rw [← hW7]
          exact (Below.heap_setCell _ ⟨Bk, 3 + 3 * a + 2, none⟩ _ i hi).trans ((Below.heap_setCell _ ⟨Bk, 3 + 3 * a + 1, none⟩ _ i hi).trans ((Below.heap_setCell _ ⟨Bk, 3 + 3 * a, none⟩ _ i hi).trans rfl))
        have hb7 : Below Bk W5 W7 := by rw [← hW7]; exact (((((Below.refl Bk W5)).setCell (p := ⟨Bk, 3 + 3 * a, none⟩) (Nat.le_refl _) _).setCell (p := ⟨Bk, 3 + 3 * a + 1, none⟩) (Nat.le_refl _) _).setCell (p := ⟨Bk, 3 + 3 * a + 2, none⟩) (Nat.le_refl _) _).drew.drew
        have n7 : W7.heap[Bk]? = some (.cells (blkW (.slice A hs.length cA) (.int .i64 page) (.int .i64 gap) (updW g a ((j : Int), R, T)) 101) 49 (0, 0)) := by
          rw [← hW7]
          refine (blk_set (blk_set (blk_set (w := W5) (h := o2) (3 + 3 * a) _) (3 + 3 * a + 1) _) (3 + 3 * a + 2) _).trans ?_
          rw [blkW_set _ _ _ _ 101 a ((j : Int), R, T) (by omega)]
          have e : updW (updW g a (0, 0, 0)) a ((j : Int), R, T) = updW g a ((j : Int), R, T) := by unfold updW; funext i; by_cases h : i = a <;> simp [h]
          rw [e]
        clear hW7 k0 k1 k2 g0 g1 g2 e1 e2 f1' f2' e1d e2d f1d f2d
        refine ⟨hS5 _ (fun i hi _ => hk7 i hi), ?_⟩
        refine wpAnyS_done (by kernel_rfl) ?_ 0
        gi_wp2
        have hz5 := hb5.size
        have hz7 := hb7.size
        have hall : ∀ i, i < W.heap.size → i ≠ Bk → W7.heap[i]? = W.heap[i]? := fun i hi hn => (hk7 i hn).trans (hb5.block i hi)
        refine postC_go ⟨hall _ (by omega) (by omega), hall _ (by omega) (by omega)⟩ ⟨hb7.os.trans hb5.os, hb7.tape.trans hb5.tape, hb7.output.trans hb5.output, Nat.le_trans hz5 hz7, fun i hi h1 _ => hall i hi h1⟩ ⟨(hall _ (by omega) (by omega)).trans i0, (hall _ (by omega) (by omega)).trans i1, ?_, ⟨(hb7.os.trans hb5.os).trans i3.os, (hb7.tape.trans hb5.tape).trans i3.tape, (hb7.output.trans hb5.output).trans i3.output, Nat.le_trans i3.size (Nat.le_trans hz5 hz7), fun i hi hn => (hall i (by omega) (fun e => hn (by rw [e]))).trans (i3.block i hi hn)⟩⟩
        rw [hstp.out, if_pos (by simp)]
        exact n7
      · have hnz : ¬ ((u0, u1, u2) = ((0, 0, 0) : W3)) := fun e => hzero (by simp at e; exact e)
        by_cases ht : T ≤ u2
        · skip
          refine wpAnyS_takeN 0 (some 30) (a' := ?ebna0) (v := ?ebv0) rfl rfl (by kernel_rfl) (by kernel_rfl) (by kernel_rfl) (fun _ _ _ h => h) s0 (by kernel_rfl) (fun _ => rfl) ?ebhy0 ?ebnh0 ?ebrest0
          case ebhy0 =>
            intro W' h
            rw [hSd.out] at h
            obtain ⟨z0, z1, z2, z3, z4, z5, z6, z7⟩ := h
            go_simp
            first | done | with_reducible rfl | trace_state
          case ebnh0 => (simp only [Act.put, List.setIfInBounds_toArray, List.set_cons_zero, List.set_cons_succ]; rfl)
          refine wpAnyS_takeN 1 (some 31) (a' := ?ebna1) (v := ?ebv1) rfl rfl (by kernel_rfl) (by kernel_rfl) (by kernel_rfl) (fun _ _ _ h => h) s0 (by kernel_rfl) (fun _ => rfl) ?ebhy1 ?ebnh1 ?ebrest1
          case ebhy1 =>
            intro W' h
            rw [hSd.out] at h
            obtain ⟨z0, z1, z2, z3, z4, z5, z6, z7⟩ := h
            go_simp
            first | done | with_reducible rfl | trace_state
          case ebnh1 => (simp only [Act.put, List.setIfInBounds_toArray, List.set_cons_zero, List.set_cons_succ]; rfl)
          refine wpAnyS_takeN 2 (some 32) (a' := ?ebna2) (v := ?ebv2) rfl rfl (by kernel_rfl) (by kernel_rfl) (by kernel_rfl) (fun _ _ _ h => h) s0 (by kernel_rfl) (fun _ => rfl) ?ebhy2 ?ebnh2 ?ebrest2
          case ebhy2 =>
            intro W' h
            rw [hSd.out] at h
            obtain ⟨z0, z1, z2, z3, z4, z5, z6, z7⟩ := h
            go_simp
            first | done | with_reducible rfl | trace_state
          case ebnh2 => (simp only [Act.put, List.setIfInBounds_toArray, List.set_cons_zero, List.set_cons_succ]; rfl)
          refine wpAnyS_takeN 3 (some 33) (a' := ?ebna3) (v := ?ebv3) rfl rfl (by kernel_rfl) (by kernel_rfl) (by kernel_rfl) (fun _ _ _ h => h) s0 (by kernel_rfl) (fun _ => rfl) ?ebhy3 ?ebnh3 ?ebrest3
          case ebhy3 =>
            intro W' h
            rw [hSd.out] at h
            obtain ⟨z0, z1, z2, z3, z4, z5, z6, z7⟩ := h
            go_simp
            first | done | with_reducible rfl | trace_state
          case ebnh3 => (simp only [Act.put, List.setIfInBounds_toArray, List.set_cons_zero, List.set_cons_succ]; rfl)
          refine wpAnyS_takeN 4 (some 34) (a' := ?ebna4) (v := ?ebv4) rfl rfl (by kernel_rfl) (by kernel_rfl) (by kernel_rfl) (fun _ _ _ h => h) s0 (by kernel_rfl) (fun _ => rfl) ?ebhy4 ?ebnh4 ?ebrest4
          case ebhy4 =>
            intro W' h
            rw [hSd.out] at h
            obtain ⟨z0, z1, z2, z3, z4, z5, z6, z7⟩ := h
            go_simp
            first | done | with_reducible rfl | trace_state
          case ebnh4 => (simp only [Act.put, List.setIfInBounds_toArray, List.set_cons_zero, List.set_cons_succ]; rfl)
          refine wpAnyS_takeN 5 (some 35) (a' := ?ebna5) (v := ?ebv5) rfl rfl (by kernel_rfl) (by kernel_rfl) (by kernel_rfl) (fun _ _ _ h => h) s0 (by kernel_rfl) (fun _ => rfl) ?ebhy5 ?ebnh5 ?ebrest5
          case ebhy5 =>
            intro W' h
            rw [hSd.out] at h
            obtain ⟨z0, z1, z2, z3, z4, z5, z6, z7⟩ := h
            go_simp
            first | done | with_reducible rfl | trace_state
          case ebnh5 => (simp only [Act.put, List.setIfInBounds_toArray, List.set_cons_zero, List.set_cons_succ]; rfl)
          refine wpAnyS_takeN 6 (some 36) (a' := ?ebna6) (v := ?ebv6) rfl rfl (by kernel_rfl) (by kernel_rfl) (by kernel_rfl) (fun _ _ _ h => h) s0 (by kernel_rfl) (fun _ => rfl) ?ebhy6 ?ebnh6 ?ebrest6
          case ebhy6 =>
            intro W' h
            rw [hSd.out] at h
            obtain ⟨z0, z1, z2, z3, z4, z5, z6, z7⟩ := h
            go_simp
            first | done | with_reducible rfl | trace_state
          case ebnh6 => (simp only [Act.put, List.setIfInBounds_toArray, List.set_cons_zero, List.set_cons_succ]; rfl)
          refine wpAnyS_takeN 7 (some 37) (a' := ?ebna7) (v := (.bool false)) rfl rfl (by kernel_rfl) (by kernel_rfl) (by kernel_rfl) (fun _ _ _ h => h) s0 (by kernel_rfl) (fun _ => rfl) ?ebhy7 ?ebnh7 ?ebrest7
          case ebhy7 =>
            intro W' h
            rw [hSd.out] at h
            obtain ⟨z0, z1, z2, z3, z4, z5, z6, z7⟩ := h
            go_simp
            first | done | with_reducible rfl | (intro e0 e1 e2; exact hzero ⟨e0, e1, e2⟩)
          case ebnh7 => (simp only [Act.put, List.setIfInBounds_toArray, List.set_cons_zero, List.set_cons_succ]; rfl)
          refine wpAnyS_takeN 8 (some 38) (a' := ?ebna8) (v := ?ebv8) rfl rfl (by kernel_rfl) (by kernel_rfl) (by kernel_rfl) (fun _ _ _ h => h) s0 (by kernel_rfl) (fun _ => rfl) ?ebhy8 ?ebnh8 ?ebrest8
          case ebhy8 =>
            intro W' h
            rw [hSd.out] at h
            obtain ⟨z0, z1, z2, z3, z4, z5, z6, z7⟩ := h
            go_simp
            first | done | with_reducible rfl | trace_state
          case ebnh8 => (simp only [Act.put, List.setIfInBounds_toArray, List.set_cons_zero, List.set_cons_succ]; rfl)
          refine wpAnyS_takeN 9 (some 39) (a' := ?ebna9) (v := ?ebv9) rfl rfl (by kernel_rfl) (by kernel_rfl) (by kernel_rfl) (fun _ _ _ h => h) s0 (by kernel_rfl) (fun _ => rfl) ?ebhy9 ?ebnh9 ?ebrest9
          case ebhy9 =>
            intro W' h
            rw [hSd.out] at h
            obtain ⟨z0, z1, z2, z3, z4, z5, z6, z7⟩ := h
            go_simp
            first | done | with_reducible rfl | trace_state
          case ebnh9 => (simp only [Act.put, List.setIfInBounds_toArray, List.set_cons_zero, List.set_cons_succ]; rfl)
          refine wpAnyS_takeN 10 (some 40) (a' := ?ebna10) (v := ?ebv10) rfl rfl (by kernel_rfl) (by kernel_rfl) (by kernel_rfl) (fun _ _ _ h => h) s0 (by kernel_rfl) (fun _ => rfl) ?ebhy10 ?ebnh10 ?ebrest10
          case ebhy10 =>
            intro W' h
            rw [hSd.out] at h
            obtain ⟨z0, z1, z2, z3, z4, z5, z6, z7⟩ := h
            go_simp
            first | done | with_reducible rfl | trace_state
          case ebnh10 => (simp only [Act.put, List.setIfInBounds_toArray, List.set_cons_zero, List.set_cons_succ]; rfl)
          refine wpAnyS_takeN 11 (some 41) (a' := ?ebna11) (v := ?ebv11) rfl rfl (by kernel_rfl) (by kernel_rfl) (by kernel_rfl) (fun _ _ _ h => h) s0 (by kernel_rfl) (fun _ => rfl) ?ebhy11 ?ebnh11 ?ebrest11
          case ebhy11 =>
            intro W' h
            rw [hSd.out] at h
            obtain ⟨z0, z1, z2, z3, z4, z5, z6, z7⟩ := h
            go_simp
            first | done | with_reducible rfl | trace_state
          case ebnh11 => (simp only [Act.put, List.setIfInBounds_toArray, List.set_cons_zero, List.set_cons_succ]; rfl)
          refine wpAnyS_takeN 12 (some 42) (a' := ?ebna12) (v := ?ebv12) rfl rfl (by kernel_rfl) (by kernel_rfl) (by kernel_rfl) (fun _ _ _ h => h) s0 (by kernel_rfl) (fun _ => rfl) ?ebhy12 ?ebnh12 ?ebrest12
          case ebhy12 =>
            intro W' h
            rw [hSd.out] at h
            obtain ⟨z0, z1, z2, z3, z4, z5, z6, z7⟩ := h
            go_simp
            first | done | with_reducible rfl | trace_state
          case ebnh12 => (simp only [Act.put, List.setIfInBounds_toArray, List.set_cons_zero, List.set_cons_succ]; rfl)
          refine wpAnyS_takeN 13 (some 43) (a' := ?ebna13) (v := ?ebv13) rfl rfl (by kernel_rfl) (by kernel_rfl) (by kernel_rfl) (fun _ _ _ h => h) s0 (by kernel_rfl) (fun _ => rfl) ?ebhy13 ?ebnh13 ?ebrest13
          case ebhy13 =>
            intro W' h
            rw [hSd.out] at h
            obtain ⟨z0, z1, z2, z3, z4, z5, z6, z7⟩ := h
            go_simp
            first | done | with_reducible rfl | trace_state
          case ebnh13 => (simp only [Act.put, List.setIfInBounds_toArray, List.set_cons_zero, List.set_cons_succ]; rfl)
          refine wpAnyS_takeN 14 (some 44) (a' := ?ebna14) (v := ?ebv14) rfl rfl (by kernel_rfl) (by kernel_rfl) (by kernel_rfl) (fun _ _ _ h => h) s0 (by kernel_rfl) (fun _ => rfl) ?ebhy14 ?ebnh14 ?ebrest14
          case ebhy14 =>
            intro W' h
            rw [hSd.out] at h
            obtain ⟨z0, z1, z2, z3, z4, z5, z6, z7⟩ := h
            go_simp
            first | done | with_reducible rfl | trace_state
          case ebnh14 => (simp only [Act.put, List.setIfInBounds_toArray, List.set_cons_zero, List.set_cons_succ]; rfl)
          refine wpAnyS_takeN 15 (some 45) (a' := ?ebna15) (v := ?ebv15) rfl rfl (by kernel_rfl) (by kernel_rfl) (by kernel_rfl) (fun _ _ _ h => h) s0 (by kernel_rfl) (fun _ => rfl) ?ebhy15 ?ebnh15 ?ebrest15
          case ebhy15 =>
            intro W' h
            rw [hSd.out] at h
            obtain ⟨z0, z1, z2, z3, z4, z5, z6, z7⟩ := h
            go_simp
            first | done | with_reducible rfl | trace_state
          case ebnh15 => (simp only [Act.put, List.setIfInBounds_toArray, List.set_cons_zero, List.set_cons_succ]; rfl)
          refine wpAnyS_takeN 16 (some 46) (a' := ?ebna16) (v := ?ebv16) rfl rfl (by kernel_rfl) (by kernel_rfl) (by kernel_rfl) (fun _ _ _ h => h) s0 (by kernel_rfl) (fun _ => rfl) ?ebhy16 ?ebnh16 ?ebrest16
          case ebhy16 =>
            intro W' h
            rw [hSd.out] at h
            obtain ⟨z0, z1, z2, z3, z4, z5, z6, z7⟩ := h
            go_simp
            first | done | with_reducible rfl | trace_state
          case ebnh16 => (simp only [Act.put, List.setIfInBounds_toArray, List.set_cons_zero, List.set_cons_succ]; rfl)
          refine wpAnyS_takeN 17 (some 47) (a' := ?ebna17) (v := ?ebv17) rfl rfl (by kernel_rfl) (by kernel_rfl) (by kernel_rfl) (fun _ _ _ h => h) s0 (by kernel_rfl) (fun _ => rfl) ?ebhy17 ?ebnh17 ?ebrest17
          case ebhy17 =>
            intro W' h
            rw [hSd.out] at h
            obtain ⟨z0, z1, z2, z3, z4, z5, z6, z7⟩ := h
            go_simp
            first | done | with_reducible rfl | trace_state
          case ebnh17 => (simp only [Act.put, List.setIfInBounds_toArray, List.set_cons_zero, List.set_cons_succ]; rfl)
          refine wpAnyS_takeN 18 (some 48) (a' := ?ebna18) (v := ?ebv18) rfl rfl (by kernel_rfl) (by kernel_rfl) (by kernel_rfl) (fun _ _ _ h => h) s0 (by kernel_rfl) (fun _ => rfl) ?ebhy18 ?ebnh18 ?ebrest18
          case ebhy18 =>
            intro W' h
            rw [hSd.out] at h
            obtain ⟨z0, z1, z2, z3, z4, z5, z6, z7⟩ := h
            go_simp
            first | done | with_reducible rfl | trace_state
          case ebnh18 => (simp only [Act.put, List.setIfInBounds_toArray, List.set_cons_zero, List.set_cons_succ]; rfl)
          refine wpAnyS_takeN 19 (some 49) (a' := ?ebna19) (v := ?ebv19) rfl rfl (by kernel_rfl) (by kernel_rfl) (by kernel_rfl) (fun _ _ _ h => h) s0 (by kernel_rfl) (fun _ => rfl) ?ebhy19 ?ebnh19 ?ebrest19
          case ebhy19 =>
            intro W' h
            rw [hSd.out] at h
            obtain ⟨z0, z1, z2, z3, z4, z5, z6, z7⟩ := h
            go_simp
            first | done | with_reducible rfl | trace_state
          case ebnh19 => (simp only [Act.put, List.setIfInBounds_toArray, List.set_cons_zero, List.set_cons_succ]; rfl)
          refine wpAnyS_done (by kernel_rfl) ?_ 0
          gi_wp2
          obtain ⟨S5, hSd⟩ : ∃ S5 : World → Prop, Aside0 (S5 = fun W' => W'.cell? ⟨w.heap.size, 0, none⟩ = some (.pointer (some ⟨Bk, 0, none⟩)) ∧ W'.cell? ⟨w.heap.size + 1, 0, none⟩ = some (.int .i64 a) ∧ W'.cell? ⟨bw, 0, none⟩ = some (.int .i64 j) ∧ W'.cell? ⟨bw, 1, none⟩ = some (.int .i64 R) ∧ W'.cell? ⟨bw, 2, none⟩ = some (.int .i64 T)) := ⟨_, ⟨rfl⟩⟩
          have hS5 : ∀ W' : World, (∀ i, i ≠ Bk → i < W5.heap.size → W'.heap[i]? = W5.heap[i]?) → S5 W' := by
            intro W' hb
            rw [hSd.out]
            have q0 := (hb _ (by omega) (blk_lt o0)).trans o0
            have q1 := (hb _ (by omega) (blk_lt o1)).trans o1
            have q3 := (hb bw (by omega) (blk_lt n0)).trans n0
            exact ⟨(blk_cell q0 0).trans rfl, (blk_cell q1 0).trans rfl, (blk_cell q3 0).trans rfl, (blk_cell q3 1).trans rfl, (blk_cell q3 2).trans rfl⟩
          have s5 := hS5 W5.drew.drew (fun _ _ _ => rfl)
          have k0 : W5.drew.drew.cell? ⟨Bk, 3 + 3 * a, none⟩ = some (.int .i64 u0) := (blk_cell (w := W5) o2 _).trans hblka.1
          have k1 : W5.drew.drew.cell? ⟨Bk, 3 + 3 * a + 1, none⟩ = some (.int .i64 u1) := (blk_cell (w := W5) o2 _).trans hblka.2.1
          have k2 : W5.drew.drew.cell? ⟨Bk, 3 + 3 * a + 2, none⟩ = some (.int .i64 u2) := (blk_cell (w := W5) o2 _).trans hblka.2.2
          have g0 : W5.drew.drew.frozen? ⟨Bk, 3 + 3 * a, none⟩ = false := blk_frozen (w := W5) o2 _
          have g1 : W5.drew.drew.frozen? ⟨Bk, 3 + 3 * a + 1, none⟩ = false := blk_frozen (w := W5) o2 _
          have g2 : W5.drew.drew.frozen? ⟨Bk, 3 + 3 * a + 2, none⟩ = false := blk_frozen (w := W5) o2 _
          have q1' := blk_set (w := W5) o2 (3 + 3 * a) (.int .i64 (j : Int))
          have q2' := blk_set q1' (3 + 3 * a + 1) (.int .i64 R)
          have e1 : (W5.setCell ⟨Bk, 3 + 3 * a, none⟩ (.int .i64 (j : Int))).cell? ⟨Bk, 3 + 3 * a + 1, none⟩ = some (.int .i64 u1) := by
            rw [blk_cell q1' _, Array.getElem?_setIfInBounds_ne (by omega)]; exact hblka.2.1
          have e2 : ((W5.setCell ⟨Bk, 3 + 3 * a, none⟩ (.int .i64 (j : Int))).setCell ⟨Bk, 3 + 3 * a + 1, none⟩ (.int .i64 R)).cell? ⟨Bk, 3 + 3 * a + 2, none⟩ = some (.int .i64 u2) := by
            rw [blk_cell q2' _, Array.getElem?_setIfInBounds_ne (by omega), Array.getElem?_setIfInBounds_ne (by omega)]; exact hblka.2.2
          have f1' := blk_frozen q1' (3 + 3 * a + 1)
          have f2' := blk_frozen q2' (3 + 3 * a + 2)
          have e1d : (W5.setCell ⟨Bk, 3 + 3 * a, none⟩ (.int .i64 (j : Int))).drew.drew.cell? ⟨Bk, 3 + 3 * a + 1, none⟩ = some (.int .i64 u1) := e1
          have e2d : ((W5.setCell ⟨Bk, 3 + 3 * a, none⟩ (.int .i64 (j : Int))).setCell ⟨Bk, 3 + 3 * a + 1, none⟩ (.int .i64 R)).drew.drew.cell? ⟨Bk, 3 + 3 * a + 2, none⟩ = some (.int .i64 u2) := e2
          have f1d : (W5.setCell ⟨Bk, 3 + 3 * a, none⟩ (.int .i64 (j : Int))).drew.drew.frozen? ⟨Bk, 3 + 3 * a + 1, none⟩ = false := f1'
          have f2d : ((W5.setCell ⟨Bk, 3 + 3 * a, none⟩ (.int .i64 (j : Int))).setCell ⟨Bk, 3 + 3 * a + 1, none⟩ (.int .i64 R)).drew.drew.frozen? ⟨Bk, 3 + 3 * a + 2, none⟩ = false := f2'
          clear q1' q2'
          refine wpIn_region_S S5 (by kernel_rfl) s5 ?_
          refine wpAnyS_takeN 0 (some 50) (a' := ?ebsna0) (v := ?ebsv0) rfl rfl (by kernel_rfl) (by kernel_rfl) (by kernel_rfl) (fun _ _ _ h => h) s5 (by kernel_rfl) (fun _ => rfl) ?ebshy0 ?ebsnh0 ?ebsrest0
          case ebshy0 =>
            intro W' h
            rw [hSd.out] at h
            obtain ⟨z0, z1, z2, z3, z4⟩ := h
            go_simp
            first | done | with_reducible rfl | trace_state
          case ebsnh0 => (simp only [Act.put, List.setIfInBounds_toArray, List.set_cons_zero, List.set_cons_succ]; rfl)
          refine wpAnyS_takeN 1 (some 51) (a' := ?ebsna1) (v := ?ebsv1) rfl rfl (by kernel_rfl) (by kernel_rfl) (by kernel_rfl) (fun _ _ _ h => h) s5 (by kernel_rfl) (fun _ => rfl) ?ebshy1 ?ebsnh1 ?ebsrest1
          case ebshy1 =>
            intro W' h
            rw [hSd.out] at h
            obtain ⟨z0, z1, z2, z3, z4⟩ := h
            go_simp
            first | done | with_reducible rfl | trace_state
          case ebsnh1 => (simp only [Act.put, List.setIfInBounds_toArray, List.set_cons_zero, List.set_cons_succ]; rfl)
          refine wpAnyS_takeN 2 (some 52) (a' := ?ebsna2) (v := ?ebsv2) rfl rfl (by kernel_rfl) (by kernel_rfl) (by kernel_rfl) (fun _ _ _ h => h) s5 (by kernel_rfl) (fun _ => rfl) ?ebshy2 ?ebsnh2 ?ebsrest2
          case ebshy2 =>
            intro W' h
            rw [hSd.out] at h
            obtain ⟨z0, z1, z2, z3, z4⟩ := h
            go_simp
            first | done | with_reducible rfl | trace_state
          case ebsnh2 => (simp only [Act.put, List.setIfInBounds_toArray, List.set_cons_zero, List.set_cons_succ]; rfl)
          refine wpAnyS_takeN 3 (some 53) (a' := ?ebsna3) (v := ?ebsv3) rfl rfl (by kernel_rfl) (by kernel_rfl) (by kernel_rfl) (fun _ _ _ h => h) s5 (by kernel_rfl) (fun _ => rfl) ?ebshy3 ?ebsnh3 ?ebsrest3
          case ebshy3 =>
            intro W' h
            rw [hSd.out] at h
            obtain ⟨z0, z1, z2, z3, z4⟩ := h
            go_simp
            first | done | with_reducible rfl | trace_state
          case ebsnh3 => (simp only [Act.put, List.setIfInBounds_toArray, List.set_cons_zero, List.set_cons_succ]; rfl)
          refine wpAnyS_takeN 4 (some 54) (a' := ?ebsna4) (v := ?ebsv4) rfl rfl (by kernel_rfl) (by kernel_rfl) (by kernel_rfl) (fun _ _ _ h => h) s5 (by kernel_rfl) (fun _ => rfl) ?ebshy4 ?ebsnh4 ?ebsrest4
          case ebshy4 =>
            intro W' h
            rw [hSd.out] at h
            obtain ⟨z0, z1, z2, z3, z4⟩ := h
            go_simp
            first | done | with_reducible rfl | trace_state
          case ebsnh4 => (simp only [Act.put, List.setIfInBounds_toArray, List.set_cons_zero, List.set_cons_succ]; rfl)
          refine wpAnyS_takeN 5 (some 55) (a' := ?ebsna5) (v := ?ebsv5) rfl rfl (by kernel_rfl) (by kernel_rfl) (by kernel_rfl) (fun _ _ _ h => h) s5 (by kernel_rfl) (fun _ => rfl) ?ebshy5 ?ebsnh5 ?ebsrest5
          case ebshy5 =>
            intro W' h
            rw [hSd.out] at h
            obtain ⟨z0, z1, z2, z3, z4⟩ := h
            go_simp
            first | done | with_reducible rfl | trace_state
          case ebsnh5 => (simp only [Act.put, List.setIfInBounds_toArray, List.set_cons_zero, List.set_cons_succ]; rfl)
          refine wpAnyS_one 6 (by kernel_rfl) rfl (by kernel_rfl) ?_
          go_simp
          obtain ⟨W7, hW7⟩ : ∃ W7, (((W5.setCell ⟨Bk, 3 + 3 * a, none⟩ (.int .i64 j)).setCell ⟨Bk, 3 + 3 * a + 1, none⟩ (.int .i64 R)).setCell ⟨Bk, 3 + 3 * a + 2, none⟩ (.int .i64 T)).drew.drew = W7 := ⟨_, rfl⟩
          rw [hW7]
          have hk7 : ∀ i, i ≠ Bk → W7.heap[i]? = W5.heap[i]? := by
            intro i hi
            rw [← hW7]
            exact (Below.heap_setCell _ ⟨Bk, 3 + 3 * a + 2, none⟩ _ i hi).trans ((Below.heap_setCell _ ⟨Bk, 3 + 3 * a + 1, none⟩ _ i hi).trans ((Below.heap_setCell _ ⟨Bk, 3 + 3 * a, none⟩ _ i hi).trans rfl))
          have hb7 : Below Bk W5 W7 := by rw [← hW7]; exact (((((Below.refl Bk W5)).setCell (p := ⟨Bk, 3 + 3 * a, none⟩) (Nat.le_refl _) _).setCell (p := ⟨Bk, 3 + 3 * a + 1, none⟩) (Nat.le_refl _) _).setCell (p := ⟨Bk, 3 + 3 * a + 2, none⟩) (Nat.le_refl _) _).drew.drew
          have n7 : W7.heap[Bk]? = some (.cells (blkW (.slice A hs.length cA) (.int .i64 page) (.int .i64 gap) (updW g a ((j : Int), R, T)) 101) 49 (0, 0)) := by
            rw [← hW7]
            refine (blk_set (blk_set (blk_set (w := W5) (h := o2) (3 + 3 * a) _) (3 + 3 * a + 1) _) (3 + 3 * a + 2) _).trans ?_
            rw [blkW_set _ _ _ _ 101 a ((j : Int), R, T) (by omega)]
            have e : updW (updW g a (u0, u1, u2)) a ((j : Int), R, T) = updW g a ((j : Int), R, T) := by unfold updW; funext i; by_cases h : i = a <;> simp [h]
            rw [e]
          clear hW7 k0 k1 k2 g0 g1 g2 e1 e2 f1' f2' e1d e2d f1d f2d
          refine ⟨hS5 _ (fun i hi _ => hk7 i hi), ?_⟩
          refine wpAnyS_done (by kernel_rfl) ?_ 0
          gi_wp2
          have hz5 := hb5.size
          have hz7 := hb7.size
          have hall : ∀ i, i < W.heap.size → i ≠ Bk → W7.heap[i]? = W.heap[i]? := fun i hi hn => (hk7 i hn).trans (hb5.block i hi)
          refine postC_go ⟨hall _ (by omega) (by omega), hall _ (by omega) (by omega)⟩ ⟨hb7.os.trans hb5.os, hb7.tape.trans hb5.tape, hb7.output.trans hb5.output, Nat.le_trans hz5 hz7, fun i hi h1 _ => hall i hi h1⟩ ⟨(hall _ (by omega) (by omega)).trans i0, (hall _ (by omega) (by omega)).trans i1, ?_, ⟨(hb7.os.trans hb5.os).trans i3.os, (hb7.tape.trans hb5.tape).trans i3.tape, (hb7.output.trans hb5.output).trans i3.output, Nat.le_trans i3.size (Nat.le_trans hz5 hz7), fun i hi hn => (hall i (by omega) (fun e => hn (by rw [e]))).trans (i3.block i hi hn)⟩⟩
          rw [hstp.out, if_pos (.inr ht)]
          exact n7
        · skip
          refine wpAnyS_takeN 0 (some 30) (a' := ?ecna0) (v := ?ecv0) rfl rfl (by kernel_rfl) (by kernel_rfl) (by kernel_rfl) (fun _ _ _ h => h) s0 (by kernel_rfl) (fun _ => rfl) ?echy0 ?ecnh0 ?ecrest0
          case echy0 =>
            intro W' h
            rw [hSd.out] at h
            obtain ⟨z0, z1, z2, z3, z4, z5, z6, z7⟩ := h
            go_simp
            first | done | with_reducible rfl | trace_state
          case ecnh0 => (simp only [Act.put, List.setIfInBounds_toArray, List.set_cons_zero, List.set_cons_succ]; rfl)
          refine wpAnyS_takeN 1 (some 31) (a' := ?ecna1) (v := ?ecv1) rfl rfl (by kernel_rfl) (by kernel_rfl) (by kernel_rfl) (fun _ _ _ h => h) s0 (by kernel_rfl) (fun _ => rfl) ?echy1 ?ecnh1 ?ecrest1
          case echy1 =>
            intro W' h
            rw [hSd.out] at h
            obtain ⟨z0, z1, z2, z3, z4, z5, z6, z7⟩ := h
            go_simp
            first | done | with_reducible rfl | trace_state
          case ecnh1 => (simp only [Act.put, List.setIfInBounds_toArray, List.set_cons_zero, List.set_cons_succ]; rfl)
          refine wpAnyS_takeN 2 (some 32) (a' := ?ecna2) (v := ?ecv2) rfl rfl (by kernel_rfl) (by kernel_rfl) (by kernel_rfl) (fun _ _ _ h => h) s0 (by kernel_rfl) (fun _ => rfl) ?echy2 ?ecnh2 ?ecrest2
          case echy2 =>
            intro W' h
            rw [hSd.out] at h
            obtain ⟨z0, z1, z2, z3, z4, z5, z6, z7⟩ := h
            go_simp
            first | done | with_reducible rfl | trace_state
          case ecnh2 => (simp only [Act.put, List.setIfInBounds_toArray, List.set_cons_zero, List.set_cons_succ]; rfl)
          refine wpAnyS_takeN 3 (some 33) (a' := ?ecna3) (v := ?ecv3) rfl rfl (by kernel_rfl) (by kernel_rfl) (by kernel_rfl) (fun _ _ _ h => h) s0 (by kernel_rfl) (fun _ => rfl) ?echy3 ?ecnh3 ?ecrest3
          case echy3 =>
            intro W' h
            rw [hSd.out] at h
            obtain ⟨z0, z1, z2, z3, z4, z5, z6, z7⟩ := h
            go_simp
            first | done | with_reducible rfl | trace_state
          case ecnh3 => (simp only [Act.put, List.setIfInBounds_toArray, List.set_cons_zero, List.set_cons_succ]; rfl)
          refine wpAnyS_takeN 4 (some 34) (a' := ?ecna4) (v := ?ecv4) rfl rfl (by kernel_rfl) (by kernel_rfl) (by kernel_rfl) (fun _ _ _ h => h) s0 (by kernel_rfl) (fun _ => rfl) ?echy4 ?ecnh4 ?ecrest4
          case echy4 =>
            intro W' h
            rw [hSd.out] at h
            obtain ⟨z0, z1, z2, z3, z4, z5, z6, z7⟩ := h
            go_simp
            first | done | with_reducible rfl | trace_state
          case ecnh4 => (simp only [Act.put, List.setIfInBounds_toArray, List.set_cons_zero, List.set_cons_succ]; rfl)
          refine wpAnyS_takeN 5 (some 35) (a' := ?ecna5) (v := ?ecv5) rfl rfl (by kernel_rfl) (by kernel_rfl) (by kernel_rfl) (fun _ _ _ h => h) s0 (by kernel_rfl) (fun _ => rfl) ?echy5 ?ecnh5 ?ecrest5
          case echy5 =>
            intro W' h
            rw [hSd.out] at h
            obtain ⟨z0, z1, z2, z3, z4, z5, z6, z7⟩ := h
            go_simp
            first | done | with_reducible rfl | trace_state
          case ecnh5 => (simp only [Act.put, List.setIfInBounds_toArray, List.set_cons_zero, List.set_cons_succ]; rfl)
          refine wpAnyS_takeN 6 (some 36) (a' := ?ecna6) (v := ?ecv6) rfl rfl (by kernel_rfl) (by kernel_rfl) (by kernel_rfl) (fun _ _ _ h => h) s0 (by kernel_rfl) (fun _ => rfl) ?echy6 ?ecnh6 ?ecrest6
          case echy6 =>
            intro W' h
            rw [hSd.out] at h
            obtain ⟨z0, z1, z2, z3, z4, z5, z6, z7⟩ := h
            go_simp
            first | done | with_reducible rfl | trace_state
          case ecnh6 => (simp only [Act.put, List.setIfInBounds_toArray, List.set_cons_zero, List.set_cons_succ]; rfl)
          refine wpAnyS_takeN 7 (some 37) (a' := ?ecna7) (v := (.bool false)) rfl rfl (by kernel_rfl) (by kernel_rfl) (by kernel_rfl) (fun _ _ _ h => h) s0 (by kernel_rfl) (fun _ => rfl) ?echy7 ?ecnh7 ?ecrest7
          case echy7 =>
            intro W' h
            rw [hSd.out] at h
            obtain ⟨z0, z1, z2, z3, z4, z5, z6, z7⟩ := h
            go_simp
            first | done | with_reducible rfl | (intro e0 e1 e2; exact hzero ⟨e0, e1, e2⟩)
          case ecnh7 => (simp only [Act.put, List.setIfInBounds_toArray, List.set_cons_zero, List.set_cons_succ]; rfl)
          refine wpAnyS_takeN 8 (some 38) (a' := ?ecna8) (v := ?ecv8) rfl rfl (by kernel_rfl) (by kernel_rfl) (by kernel_rfl) (fun _ _ _ h => h) s0 (by kernel_rfl) (fun _ => rfl) ?echy8 ?ecnh8 ?ecrest8
          case echy8 =>
            intro W' h
            rw [hSd.out] at h
            obtain ⟨z0, z1, z2, z3, z4, z5, z6, z7⟩ := h
            go_simp
            first | done | with_reducible rfl | trace_state
          case ecnh8 => (simp only [Act.put, List.setIfInBounds_toArray, List.set_cons_zero, List.set_cons_succ]; rfl)
          refine wpAnyS_takeN 9 (some 39) (a' := ?ecna9) (v := ?ecv9) rfl rfl (by kernel_rfl) (by kernel_rfl) (by kernel_rfl) (fun _ _ _ h => h) s0 (by kernel_rfl) (fun _ => rfl) ?echy9 ?ecnh9 ?ecrest9
          case echy9 =>
            intro W' h
            rw [hSd.out] at h
            obtain ⟨z0, z1, z2, z3, z4, z5, z6, z7⟩ := h
            go_simp
            first | done | with_reducible rfl | trace_state
          case ecnh9 => (simp only [Act.put, List.setIfInBounds_toArray, List.set_cons_zero, List.set_cons_succ]; rfl)
          refine wpAnyS_takeN 10 (some 40) (a' := ?ecna10) (v := ?ecv10) rfl rfl (by kernel_rfl) (by kernel_rfl) (by kernel_rfl) (fun _ _ _ h => h) s0 (by kernel_rfl) (fun _ => rfl) ?echy10 ?ecnh10 ?ecrest10
          case echy10 =>
            intro W' h
            rw [hSd.out] at h
            obtain ⟨z0, z1, z2, z3, z4, z5, z6, z7⟩ := h
            go_simp
            first | done | with_reducible rfl | trace_state
          case ecnh10 => (simp only [Act.put, List.setIfInBounds_toArray, List.set_cons_zero, List.set_cons_succ]; rfl)
          refine wpAnyS_takeN 11 (some 41) (a' := ?ecna11) (v := ?ecv11) rfl rfl (by kernel_rfl) (by kernel_rfl) (by kernel_rfl) (fun _ _ _ h => h) s0 (by kernel_rfl) (fun _ => rfl) ?echy11 ?ecnh11 ?ecrest11
          case echy11 =>
            intro W' h
            rw [hSd.out] at h
            obtain ⟨z0, z1, z2, z3, z4, z5, z6, z7⟩ := h
            go_simp
            first | done | with_reducible rfl | trace_state
          case ecnh11 => (simp only [Act.put, List.setIfInBounds_toArray, List.set_cons_zero, List.set_cons_succ]; rfl)
          refine wpAnyS_takeN 12 (some 42) (a' := ?ecna12) (v := ?ecv12) rfl rfl (by kernel_rfl) (by kernel_rfl) (by kernel_rfl) (fun _ _ _ h => h) s0 (by kernel_rfl) (fun _ => rfl) ?echy12 ?ecnh12 ?ecrest12
          case echy12 =>
            intro W' h
            rw [hSd.out] at h
            obtain ⟨z0, z1, z2, z3, z4, z5, z6, z7⟩ := h
            go_simp
            first | done | with_reducible rfl | trace_state
          case ecnh12 => (simp only [Act.put, List.setIfInBounds_toArray, List.set_cons_zero, List.set_cons_succ]; rfl)
          refine wpAnyS_takeN 13 (some 43) (a' := ?ecna13) (v := ?ecv13) rfl rfl (by kernel_rfl) (by kernel_rfl) (by kernel_rfl) (fun _ _ _ h => h) s0 (by kernel_rfl) (fun _ => rfl) ?echy13 ?ecnh13 ?ecrest13
          case echy13 =>
            intro W' h
            rw [hSd.out] at h
            obtain ⟨z0, z1, z2, z3, z4, z5, z6, z7⟩ := h
            go_simp
            first | done | with_reducible rfl | trace_state
          case ecnh13 => (simp only [Act.put, List.setIfInBounds_toArray, List.set_cons_zero, List.set_cons_succ]; rfl)
          refine wpAnyS_takeN 14 (some 44) (a' := ?ecna14) (v := ?ecv14) rfl rfl (by kernel_rfl) (by kernel_rfl) (by kernel_rfl) (fun _ _ _ h => h) s0 (by kernel_rfl) (fun _ => rfl) ?echy14 ?ecnh14 ?ecrest14
          case echy14 =>
            intro W' h
            rw [hSd.out] at h
            obtain ⟨z0, z1, z2, z3, z4, z5, z6, z7⟩ := h
            go_simp
            first | done | with_reducible rfl | trace_state
          case ecnh14 => (simp only [Act.put, List.setIfInBounds_toArray, List.set_cons_zero, List.set_cons_succ]; rfl)
          refine wpAnyS_takeN 15 (some 45) (a' := ?ecna15) (v := ?ecv15) rfl rfl (by kernel_rfl) (by kernel_rfl) (by kernel_rfl) (fun _ _ _ h => h) s0 (by kernel_rfl) (fun _ => rfl) ?echy15 ?ecnh15 ?ecrest15
          case echy15 =>
            intro W' h
            rw [hSd.out] at h
            obtain ⟨z0, z1, z2, z3, z4, z5, z6, z7⟩ := h
            go_simp
            first | done | with_reducible rfl | trace_state
          case ecnh15 => (simp only [Act.put, List.setIfInBounds_toArray, List.set_cons_zero, List.set_cons_succ]; rfl)
          refine wpAnyS_takeN 16 (some 46) (a' := ?ecna16) (v := ?ecv16) rfl rfl (by kernel_rfl) (by kernel_rfl) (by kernel_rfl) (fun _ _ _ h => h) s0 (by kernel_rfl) (fun _ => rfl) ?echy16 ?ecnh16 ?ecrest16
          case echy16 =>
            intro W' h
            rw [hSd.out] at h
            obtain ⟨z0, z1, z2, z3, z4, z5, z6, z7⟩ := h
            go_simp
            first | done | with_reducible rfl | trace_state
          case ecnh16 => (simp only [Act.put, List.setIfInBounds_toArray, List.set_cons_zero, List.set_cons_succ]; rfl)
          refine wpAnyS_takeN 17 (some 47) (a' := ?ecna17) (v := ?ecv17) rfl rfl (by kernel_rfl) (by kernel_rfl) (by kernel_rfl) (fun _ _ _ h => h) s0 (by kernel_rfl) (fun _ => rfl) ?echy17 ?ecnh17 ?ecrest17
          case echy17 =>
            intro W' h
            rw [hSd.out] at h
            obtain ⟨z0, z1, z2, z3, z4, z5, z6, z7⟩ := h
            go_simp
            first | done | with_reducible rfl | trace_state
          case ecnh17 => (simp only [Act.put, List.setIfInBounds_toArray, List.set_cons_zero, List.set_cons_succ]; rfl)
          refine wpAnyS_takeN 18 (some 48) (a' := ?ecna18) (v := ?ecv18) rfl rfl (by kernel_rfl) (by kernel_rfl) (by kernel_rfl) (fun _ _ _ h => h) s0 (by kernel_rfl) (fun _ => rfl) ?echy18 ?ecnh18 ?ecrest18
          case echy18 =>
            intro W' h
            rw [hSd.out] at h
            obtain ⟨z0, z1, z2, z3, z4, z5, z6, z7⟩ := h
            go_simp
            first | done | with_reducible rfl | trace_state
          case ecnh18 => (simp only [Act.put, List.setIfInBounds_toArray, List.set_cons_zero, List.set_cons_succ]; rfl)
          refine wpAnyS_takeN 19 (some 49) (a' := ?ecna19) (v := ?ecv19) rfl rfl (by kernel_rfl) (by kernel_rfl) (by kernel_rfl) (fun _ _ _ h => h) s0 (by kernel_rfl) (fun _ => rfl) ?echy19 ?ecnh19 ?ecrest19
          case echy19 =>
            intro W' h
            rw [hSd.out] at h
            obtain ⟨z0, z1, z2, z3, z4, z5, z6, z7⟩ := h
            go_simp
            first | done | with_reducible rfl | trace_state
          case ecnh19 => (simp only [Act.put, List.setIfInBounds_toArray, List.set_cons_zero, List.set_cons_succ]; rfl)
          refine wpAnyS_done (by kernel_rfl) ?_ 0
          gi_wp2
          have hz5 := hb5.size
          have hall : ∀ i, i < W.heap.size → W5.heap[i]? = W.heap[i]? := fun i hi => hb5.block i hi
          refine postC_go ⟨hall _ (by omega), hall _ (by omega)⟩ ⟨hb5.os, hb5.tape, hb5.output, hz5, fun i hi h1 _ => hall i hi⟩ ⟨(hall _ (by omega)).trans i0, (hall _ (by omega)).trans i1, ?_, ⟨hb5.os.trans i3.os, hb5.tape.trans i3.tape, hb5.output.trans i3.output, Nat.le_trans i3.size hz5, fun i hi hn => (hall i (by omega)).trans (i3.block i hi hn)⟩⟩
          rw [hstp.out, if_neg (by rintro (h | h); exact hnz h; omega)]
          exact o2
    case allocfirst =>
      go_simp
      have hbA := ((Below.refl W.heap.size W).alloc (Nat.le_refl _) (.cells #[.int .i64 0, .int .i64 0, .int .i64 0] 46)).drew
      refine ⟨hS _ hbA, ?_⟩
      refine wpAnyS_one 6 (by kernel_rfl) rfl (by kernel_rfl) ?_
      go_simp
      refine ⟨trivial, ?_⟩
      refine (callsIn_wide.2 (hcost'.out _ hbA)).mono ?_
      rintro e w3 ⟨rfl, hb3⟩
      have hb3' : Below W.heap.size W w3 := hbA.trans (hb3.mono (by simp))
      have n3 : w3.heap[W.heap.size]? = some (.cells #[.int .i64 0, .int .i64 0, .int .i64 0] 46 (0, 0)) := (hb3.block _ (by simp)).trans (World.alloc_heap_new W _)
      refine ⟨hS _ hb3', ?_⟩
      have s0 := hS _ hb3'
      refine wpAnyS_takeN 15 (some 28) (a' := ?dna15) (v := ?dv15) rfl rfl (by kernel_rfl) (by kernel_rfl) (by kernel_rfl) (fun _ _ _ h => h) s0 (by kernel_rfl) (fun _ => rfl) ?dhy15 ?dnh15 ?drest15
      case dhy15 =>
        intro W' h
        rw [hSd.out] at h
        obtain ⟨z0, z1, z2, z3, z4, z5, z6⟩ := h
        go_simp
        first | done | with_reducible rfl | trace_state
      case dnh15 => (simp only [Act.put, List.setIfInBounds_toArray, List.set_cons_zero, List.set_cons_succ]; rfl)
      refine wpAnyS_takeN 16 (some 29) (a' := ?dna16) (v := ?dv16) rfl rfl (by kernel_rfl) (by kernel_rfl) (by kernel_rfl) (fun _ _ _ h => h) s0 (by kernel_rfl) (fun _ => rfl) ?dhy16 ?dnh16 ?drest16
      case dhy16 =>
        intro W' h
        rw [hSd.out] at h
        obtain ⟨z0, z1, z2, z3, z4, z5, z6⟩ := h
        go_simp
        first | done | with_reducible rfl | trace_state
      case dnh16 => (simp only [Act.put, List.setIfInBounds_toArray, List.set_cons_zero, List.set_cons_succ]; rfl)
      have m0 : w3.cell? ⟨W.heap.size, 0, none⟩ = some (.int .i64 0) := (blk_cell n3 0).trans rfl
      have m1 : w3.cell? ⟨W.heap.size, 1, none⟩ = some (.int .i64 0) := (blk_cell n3 1).trans rfl
      have m2 : w3.cell? ⟨W.heap.size, 2, none⟩ = some (.int .i64 0) := (blk_cell n3 2).trans rfl
      have f0 := blk_frozen n3 0
      have f1 := blk_frozen n3 1
      have f2 := blk_frozen n3 2
      refine wpAnyS_one 18 (by kernel_rfl) rfl (by kernel_rfl) ?_
      go_simp
      obtain ⟨W5, hW5⟩ : ∃ W5, (((w3.setCell ⟨W.heap.size, 0, none⟩ (.int .i64 j)).setCell ⟨W.heap.size, 1, none⟩ (.int .i64 R)).setCell ⟨W.heap.size, 2, none⟩ (.int .i64 T)) = W5 := ⟨_, rfl⟩
      have n0 : W5.heap[W.heap.size]? = some (.cells #[.int .i64 j, .int .i64 R, .int .i64 T] 46 (0, 0)) := by rw [← hW5]; exact blk_put (blk_put (blk_put n3 0 _ rfl) 1 _ rfl) 2 _ rfl
      have hb5 : Below W.heap.size W W5 := by rw [← hW5]; exact ((hb3'.setCell (p := ⟨W.heap.size, 0, none⟩) (Nat.le_refl _) _).setCell (p := ⟨W.heap.size, 1, none⟩) (Nat.le_refl _) _).setCell (p := ⟨W.heap.size, 2, none⟩) (Nat.le_refl _) _
      have hbwl : W.heap.size ≤ W.heap.size := Nat.le_refl _
      rw [hW5]
      clear hW5 m0 m1 m2 f0 f1 f2 n3
      refine ⟨hS _ hb5, ?_⟩
      refine wpAnyS_done (by kernel_rfl) ?_ 0
      obtain ⟨bw, hbwe⟩ : ∃ bw, Aside0 (W.heap.size = bw) := ⟨_, ⟨rfl⟩⟩
      have hbwl : W.heap.size ≤ bw := by rw [hbwe.out]; exact Nat.le_refl _
      rw [hbwe.out] at n0
      rw [hbwe.out]
      clear s0 hSd hS
      have o0 := (hb5.block _ (by omega)).trans i0
      have o1 := (hb5.block _ (by omega)).trans i1
      have o2 := (hb5.block Bk (by omega)).trans i2
      obtain ⟨S, hSd⟩ : ∃ S : World → Prop, Aside0 (S = fun W' => W'.cell? ⟨w.heap.size, 0, none⟩ = some (.pointer (some ⟨Bk, 0, none⟩)) ∧ W'.cell? ⟨w.heap.size + 1, 0, none⟩ = some (.int .i64 a) ∧ W'.cell? ⟨Bk, 3 + 3 * a, none⟩ = some (.int .i64 u0) ∧ W'.cell? ⟨Bk, 3 + 3 * a + 1, none⟩ = some (.int .i64 u1) ∧ W'.cell? ⟨Bk, 3 + 3 * a + 2, none⟩ = some (.int .i64 u2) ∧ W'.cell? ⟨bw, 0, none⟩ = some (.int .i64 j) ∧ W'.cell? ⟨bw, 1, none⟩ = some (.int .i64 R) ∧ W'.cell? ⟨bw, 2, none⟩ = some (.int .i64 T)) := ⟨_, ⟨rfl⟩⟩
      have hS : ∀ W', Below W5.heap.size W5 W' → S W' := by
        intro W' hb
        rw [hSd.out]
        have q0 := (hb.block _ (blk_lt o0)).trans o0
        have q1 := (hb.block _ (blk_lt o1)).trans o1
        have q2 := (hb.block Bk (blk_lt o2)).trans o2
        have q3 := (hb.block bw (blk_lt n0)).trans n0
        exact ⟨(blk_cell q0 0).trans rfl, (blk_cell q1 0).trans rfl, (blk_cell q2 _).trans hblka.1, (blk_cell q2 _).trans hblka.2.1, (blk_cell q2 _).trans hblka.2.2, (blk_cell q3 0).trans rfl, (blk_cell q3 1).trans rfl, (blk_cell q3 2).trans rfl⟩
      gi_wp2
      refine wpIn_region_S S (by kernel_rfl) (hS _ (Below.refl _ W5).drew) ?_
      have s0 := hS _ (Below.refl _ W5).drew
      by_cases hzero : u0 = 0 ∧ u1 = 0 ∧ u2 = 0
      · obtain ⟨rfl, rfl, rfl⟩ := hzero
        refine wpAnyS_takeN 0 (some 30) (a' := ?fana0) (v := ?fav0) rfl rfl (by kernel_rfl) (by kernel_rfl) (by kernel_rfl) (fun _ _ _ h => h) s0 (by kernel_rfl) (fun _ => rfl) ?fahy0 ?fanh0 ?farest0
        case fahy0 =>
          intro W' h
          rw [hSd.out] at h
          obtain ⟨z0, z1, z2, z3, z4, z5, z6, z7⟩ := h
          go_simp
          first | done | with_reducible rfl | trace_state
        case fanh0 => (simp only [Act.put, List.setIfInBounds_toArray, List.set_cons_zero, List.set_cons_succ]; rfl)
        refine wpAnyS_takeN 1 (some 31) (a' := ?fana1) (v := ?fav1) rfl rfl (by kernel_rfl) (by kernel_rfl) (by kernel_rfl) (fun _ _ _ h => h) s0 (by kernel_rfl) (fun _ => rfl) ?fahy1 ?fanh1 ?farest1
        case fahy1 =>
          intro W' h
          rw [hSd.out] at h
          obtain ⟨z0, z1, z2, z3, z4, z5, z6, z7⟩ := h
          go_simp
          first | done | with_reducible rfl | trace_state
        case fanh1 => (simp only [Act.put, List.setIfInBounds_toArray, List.set_cons_zero, List.set_cons_succ]; rfl)
        refine wpAnyS_takeN 2 (some 32) (a' := ?fana2) (v := ?fav2) rfl rfl (by kernel_rfl) (by kernel_rfl) (by kernel_rfl) (fun _ _ _ h => h) s0 (by kernel_rfl) (fun _ => rfl) ?fahy2 ?fanh2 ?farest2
        case fahy2 =>
          intro W' h
          rw [hSd.out] at h
          obtain ⟨z0, z1, z2, z3, z4, z5, z6, z7⟩ := h
          go_simp
          first | done | with_reducible rfl | trace_state
        case fanh2 => (simp only [Act.put, List.setIfInBounds_toArray, List.set_cons_zero, List.set_cons_succ]; rfl)
        refine wpAnyS_takeN 3 (some 33) (a' := ?fana3) (v := ?fav3) rfl rfl (by kernel_rfl) (by kernel_rfl) (by kernel_rfl) (fun _ _ _ h => h) s0 (by kernel_rfl) (fun _ => rfl) ?fahy3 ?fanh3 ?farest3
        case fahy3 =>
          intro W' h
          rw [hSd.out] at h
          obtain ⟨z0, z1, z2, z3, z4, z5, z6, z7⟩ := h
          go_simp
          first | done | with_reducible rfl | trace_state
        case fanh3 => (simp only [Act.put, List.setIfInBounds_toArray, List.set_cons_zero, List.set_cons_succ]; rfl)
        refine wpAnyS_takeN 4 (some 34) (a' := ?fana4) (v := ?fav4) rfl rfl (by kernel_rfl) (by kernel_rfl) (by kernel_rfl) (fun _ _ _ h => h) s0 (by kernel_rfl) (fun _ => rfl) ?fahy4 ?fanh4 ?farest4
        case fahy4 =>
          intro W' h
          rw [hSd.out] at h
          obtain ⟨z0, z1, z2, z3, z4, z5, z6, z7⟩ := h
          go_simp
          first | done | with_reducible rfl | trace_state
        case fanh4 => (simp only [Act.put, List.setIfInBounds_toArray, List.set_cons_zero, List.set_cons_succ]; rfl)
        refine wpAnyS_takeN 5 (some 35) (a' := ?fana5) (v := ?fav5) rfl rfl (by kernel_rfl) (by kernel_rfl) (by kernel_rfl) (fun _ _ _ h => h) s0 (by kernel_rfl) (fun _ => rfl) ?fahy5 ?fanh5 ?farest5
        case fahy5 =>
          intro W' h
          rw [hSd.out] at h
          obtain ⟨z0, z1, z2, z3, z4, z5, z6, z7⟩ := h
          go_simp
          first | done | with_reducible rfl | trace_state
        case fanh5 => (simp only [Act.put, List.setIfInBounds_toArray, List.set_cons_zero, List.set_cons_succ]; rfl)
        refine wpAnyS_takeN 6 (some 36) (a' := ?fana6) (v := ?fav6) rfl rfl (by kernel_rfl) (by kernel_rfl) (by kernel_rfl) (fun _ _ _ h => h) s0 (by kernel_rfl) (fun _ => rfl) ?fahy6 ?fanh6 ?farest6
        case fahy6 =>
          intro W' h
          rw [hSd.out] at h
          obtain ⟨z0, z1, z2, z3, z4, z5, z6, z7⟩ := h
          go_simp
          first | done | with_reducible rfl | trace_state
        case fanh6 => (simp only [Act.put, List.setIfInBounds_toArray, List.set_cons_zero, List.set_cons_succ]; rfl)
        refine wpAnyS_takeN 7 (some 37) (a' := ?fana7) (v := ?fav7) rfl rfl (by kernel_rfl) (by kernel_rfl) (by kernel_rfl) (fun _ _ _ h => h) s0 (by kernel_rfl) (fun _ => rfl) ?fahy7 ?fanh7 ?farest7
        case fahy7 =>
          intro W' h
          rw [hSd.out] at h
          obtain ⟨z0, z1, z2, z3, z4, z5, z6, z7⟩ := h
          go_simp
          first | done | with_reducible rfl | trace_state
        case fanh7 => (simp only [Act.put, List.setIfInBounds_toArray, List.set_cons_zero, List.set_cons_succ]; rfl)
        refine wpAnyS_takeN 8 (some 38) (a' := ?fana8) (v := ?fav8) rfl rfl (by kernel_rfl) (by kernel_rfl) (by kernel_rfl) (fun _ _ _ h => h) s0 (by kernel_rfl) (fun _ => rfl) ?fahy8 ?fanh8 ?farest8
        case fahy8 =>
          intro W' h
          rw [hSd.out] at h
          obtain ⟨z0, z1, z2, z3, z4, z5, z6, z7⟩ := h
          go_simp
          first | done | with_reducible rfl | trace_state
        case fanh8 => (simp only [Act.put, List.setIfInBounds_toArray, List.set_cons_zero, List.set_cons_succ]; rfl)
        refine wpAnyS_skipN 9 (some 39) (a' := ?fana9) rfl rfl (by kernel_rfl) (by kernel_rfl) (by kernel_rfl) (fun _ _ _ h => h) s0 (by kernel_rfl) (fun _ => rfl) ?fanh9 ?farest9
        case fanh9 => (simp only [Act.put, List.setIfInBounds_toArray, List.set_cons_zero, List.set_cons_succ]; rfl)
        refine wpAnyS_skipN 10 (some 40) (a' := ?fana10) rfl rfl (by kernel_rfl) (by kernel_rfl) (by kernel_rfl) (fun _ _ _ h => h) s0 (by kernel_rfl) (fun _ => rfl) ?fanh10 ?farest10
        case fanh10 => (simp only [Act.put, List.setIfInBounds_toArray, List.set_cons_zero, List.set_cons_succ]; rfl)
        refine wpAnyS_skipN 11 (some 41) (a' := ?fana11) rfl rfl (by kernel_rfl) (by kernel_rfl) (by kernel_rfl) (fun _ _ _ h => h) s0 (by kernel_rfl) (fun _ => rfl) ?fanh11 ?farest11
        case fanh11 => (simp only [Act.put, List.setIfInBounds_toArray, List.set_cons_zero, List.set_cons_succ]; rfl)
        refine wpAnyS_skipN 12 (some 42) (a' := ?fana12) rfl rfl (by kernel_rfl) (by kernel_rfl) (by kernel_rfl) (fun _ _ _ h => h) s0 (by kernel_rfl) (fun _ => rfl) ?fanh12 ?farest12
        case fanh12 => (simp only [Act.put, List.setIfInBounds_toArray, List.set_cons_zero, List.set_cons_succ]; rfl)
        refine wpAnyS_skipN 13 (some 43) (a' := ?fana13) rfl rfl (by kernel_rfl) (by kernel_rfl) (by kernel_rfl) (fun _ _ _ h => h) s0 (by kernel_rfl) (fun _ => rfl) ?fanh13 ?farest13
        case fanh13 => (simp only [Act.put, List.setIfInBounds_toArray, List.set_cons_zero, List.set_cons_succ]; rfl)
        refine wpAnyS_skipN 14 (some 44) (a' := ?fana14) rfl rfl (by kernel_rfl) (by kernel_rfl) (by kernel_rfl) (fun _ _ _ h => h) s0 (by kernel_rfl) (fun _ => rfl) ?fanh14 ?farest14
        case fanh14 => (simp only [Act.put, List.setIfInBounds_toArray, List.set_cons_zero, List.set_cons_succ]; rfl)
        refine wpAnyS_skipN 15 (some 45) (a' := ?fana15) rfl rfl (by kernel_rfl) (by kernel_rfl) (by kernel_rfl) (fun _ _ _ h => h) s0 (by kernel_rfl) (fun _ => rfl) ?fanh15 ?farest15
        case fanh15 => (simp only [Act.put, List.setIfInBounds_toArray, List.set_cons_zero, List.set_cons_succ]; rfl)
        refine wpAnyS_skipN 16 (some 46) (a' := ?fana16) rfl rfl (by kernel_rfl) (by kernel_rfl) (by kernel_rfl) (fun _ _ _ h => h) s0 (by kernel_rfl) (fun _ => rfl) ?fanh16 ?farest16
        case fanh16 => (simp only [Act.put, List.setIfInBounds_toArray, List.set_cons_zero, List.set_cons_succ]; rfl)
        refine wpAnyS_skipN 17 (some 47) (a' := ?fana17) rfl rfl (by kernel_rfl) (by kernel_rfl) (by kernel_rfl) (fun _ _ _ h => h) s0 (by kernel_rfl) (fun _ => rfl) ?fanh17 ?farest17
        case fanh17 => (simp only [Act.put, List.setIfInBounds_toArray, List.set_cons_zero, List.set_cons_succ]; rfl)
        refine wpAnyS_skipN 18 (some 48) (a' := ?fana18) rfl rfl (by kernel_rfl) (by kernel_rfl) (by kernel_rfl) (fun _ _ _ h => h) s0 (by kernel_rfl) (fun _ => rfl) ?fanh18 ?farest18
        case fanh18 => (simp only [Act.put, List.setIfInBounds_toArray, List.set_cons_zero, List.set_cons_succ]; rfl)
        refine wpAnyS_takeN 19 (some 49) (a' := ?fana19) (v := ?fav19) rfl rfl (by kernel_rfl) (by kernel_rfl) (by kernel_rfl) (fun _ _ _ h => h) s0 (by kernel_rfl) (fun _ => rfl) ?fahy19 ?fanh19 ?farest19
        case fahy19 =>
          intro W' h
          rw [hSd.out] at h
          obtain ⟨z0, z1, z2, z3, z4, z5, z6, z7⟩ := h
          go_simp
          first | done | with_reducible rfl | trace_state
        case fanh19 => (simp only [Act.put, List.setIfInBounds_toArray, List.set_cons_zero, List.set_cons_succ]; rfl)
        refine wpAnyS_done (by kernel_rfl) ?_ 0
        gi_wp2
        obtain ⟨S5, hSd⟩ : ∃ S5 : World → Prop, Aside0 (S5 = fun W' => W'.cell? ⟨w.heap.size, 0, none⟩ = some (.pointer (some ⟨Bk, 0, none⟩)) ∧ W'.cell? ⟨w.heap.size + 1, 0, none⟩ = some (.int .i64 a) ∧ W'.cell? ⟨bw, 0, none⟩ = some (.int .i64 j) ∧ W'.cell? ⟨bw, 1, none⟩ = some (.int .i64 R) ∧ W'.cell? ⟨bw, 2, none⟩ = some (.int .i64 T)) := ⟨_, ⟨rfl⟩⟩
        have hS5 : ∀ W' : World, (∀ i, i ≠ Bk → i < W5.heap.size → W'.heap[i]? = W5.heap[i]?) → S5 W' := by
          intro W' hb
          rw [hSd.out]
          have q0 := (hb _ (by omega) (blk_lt o0)).trans o0
          have q1 := (hb _ (by omega) (blk_lt o1)).trans o1
          have q3 := (hb bw (by omega) (blk_lt n0)).trans n0
          exact ⟨(blk_cell q0 0).trans rfl, (blk_cell q1 0).trans rfl, (blk_cell q3 0).trans rfl, (blk_cell q3 1).trans rfl, (blk_cell q3 2).trans rfl⟩
        have s5 := hS5 W5.drew.drew (fun _ _ _ => rfl)
        have k0 : W5.drew.drew.cell? ⟨Bk, 3 + 3 * a, none⟩ = some (.int .i64 0) := (blk_cell (w := W5) o2 _).trans hblka.1
        have k1 : W5.drew.drew.cell? ⟨Bk, 3 + 3 * a + 1, none⟩ = some (.int .i64 0) := (blk_cell (w := W5) o2 _).trans hblka.2.1
        have k2 : W5.drew.drew.cell? ⟨Bk, 3 + 3 * a + 2, none⟩ = some (.int .i64 0) := (blk_cell (w := W5) o2 _).trans hblka.2.2
        have g0 : W5.drew.drew.frozen? ⟨Bk, 3 + 3 * a, none⟩ = false := blk_frozen (w := W5) o2 _
        have g1 : W5.drew.drew.frozen? ⟨Bk, 3 + 3 * a + 1, none⟩ = false := blk_frozen (w := W5) o2 _
        have g2 : W5.drew.drew.frozen? ⟨Bk, 3 + 3 * a + 2, none⟩ = false := blk_frozen (w := W5) o2 _
        have q1' := blk_set (w := W5) o2 (3 + 3 * a) (.int .i64 (j : Int))
        have q2' := blk_set q1' (3 + 3 * a + 1) (.int .i64 R)
        have e1 : (W5.setCell ⟨Bk, 3 + 3 * a, none⟩ (.int .i64 (j : Int))).cell? ⟨Bk, 3 + 3 * a + 1, none⟩ = some (.int .i64 0) := by
          rw [blk_cell q1' _, Array.getElem?_setIfInBounds_ne (by omega)]; exact hblka.2.1
        have e2 : ((W5.setCell ⟨Bk, 3 + 3 * a, none⟩ (.int .i64 (j : Int))).setCell ⟨Bk, 3 + 3 * a + 1, none⟩ (.int .i64 R)).cell? ⟨Bk, 3 + 3 * a + 2, none⟩ = some (.int .i64 0) := by
          rw [blk_cell q2' _, Array.getElem?_setIfInBounds_ne (by omega), Array.getElem?_setIfInBounds_ne (by omega)]; exact hblka.2.2
        have f1' := blk_frozen q1' (3 + 3 * a + 1)
        have f2' := blk_frozen q2' (3 + 3 * a + 2)
        have e1d : (W5.setCell ⟨Bk, 3 + 3 * a, none⟩ (.int .i64 (j : Int))).drew.drew.cell? ⟨Bk, 3 + 3 * a + 1, none⟩ = some (.int .i64 0) := e1
        have e2d : ((W5.setCell ⟨Bk, 3 + 3 * a, none⟩ (.int .i64 (j : Int))).setCell ⟨Bk, 3 + 3 * a + 1, none⟩ (.int .i64 R)).drew.drew.cell? ⟨Bk, 3 + 3 * a + 2, none⟩ = some (.int .i64 0) := e2
        have f1d : (W5.setCell ⟨Bk, 3 + 3 * a, none⟩ (.int .i64 (j : Int))).drew.drew.frozen? ⟨Bk, 3 + 3 * a + 1, none⟩ = false := f1'
        have f2d : ((W5.setCell ⟨Bk, 3 + 3 * a, none⟩ (.int .i64 (j : Int))).setCell ⟨Bk, 3 + 3 * a + 1, none⟩ (.int .i64 R)).drew.drew.frozen? ⟨Bk, 3 + 3 * a + 2, none⟩ = false := f2'
        clear q1' q2'
        refine wpIn_region_S S5 (by kernel_rfl) s5 ?_
        refine wpAnyS_takeN 0 (some 50) (a' := ?fasna0) (v := ?fasv0) rfl rfl (by kernel_rfl) (by kernel_rfl) (by kernel_rfl) (fun _ _ _ h => h) s5 (by kernel_rfl) (fun _ => rfl) ?fashy0 ?fasnh0 ?fasrest0
        case fashy0 =>
          intro W' h
          rw [hSd.out] at h
          obtain ⟨z0, z1, z2, z3, z4⟩ := h
          go_simp
          first | done | with_reducible rfl | trace_state
        case fasnh0 => (simp only [Act.put, List.setIfInBounds_toArray, List.set_cons_zero, List.set_cons_succ]; rfl)
        refine wpAnyS_takeN 1 (some 51) (a' := ?fasna1) (v := ?fasv1) rfl rfl (by kernel_rfl) (by kernel_rfl) (by kernel_rfl) (fun _ _ _ h => h) s5 (by kernel_rfl) (fun _ => rfl) ?fashy1 ?fasnh1 ?fasrest1
        case fashy1 =>
          intro W' h
          rw [hSd.out] at h
          obtain ⟨z0, z1, z2, z3, z4⟩ := h
          go_simp
          first | done | with_reducible rfl | trace_state
        case fasnh1 => (simp only [Act.put, List.setIfInBounds_toArray, List.set_cons_zero, List.set_cons_succ]; rfl)
        refine wpAnyS_takeN 2 (some 52) (a' := ?fasna2) (v := ?fasv2) rfl rfl (by kernel_rfl) (by kernel_rfl) (by kernel_rfl) (fun _ _ _ h => h) s5 (by kernel_rfl) (fun _ => rfl) ?fashy2 ?fasnh2 ?fasrest2
        case fashy2 =>
          intro W' h
          rw [hSd.out] at h
          obtain ⟨z0, z1, z2, z3, z4⟩ := h
          go_simp
          first | done | with_reducible rfl | trace_state
        case fasnh2 => (simp only [Act.put, List.setIfInBounds_toArray, List.set_cons_zero, List.set_cons_succ]; rfl)
        refine wpAnyS_takeN 3 (some 53) (a' := ?fasna3) (v := ?fasv3) rfl rfl (by kernel_rfl) (by kernel_rfl) (by kernel_rfl) (fun _ _ _ h => h) s5 (by kernel_rfl) (fun _ => rfl) ?fashy3 ?fasnh3 ?fasrest3
        case fashy3 =>
          intro W' h
          rw [hSd.out] at h
          obtain ⟨z0, z1, z2, z3, z4⟩ := h
          go_simp
          first | done | with_reducible rfl | trace_state
        case fasnh3 => (simp only [Act.put, List.setIfInBounds_toArray, List.set_cons_zero, List.set_cons_succ]; rfl)
        refine wpAnyS_takeN 4 (some 54) (a' := ?fasna4) (v := ?fasv4) rfl rfl (by kernel_rfl) (by kernel_rfl) (by kernel_rfl) (fun _ _ _ h => h) s5 (by kernel_rfl) (fun _ => rfl) ?fashy4 ?fasnh4 ?fasrest4
        case fashy4 =>
          intro W' h
          rw [hSd.out] at h
          obtain ⟨z0, z1, z2, z3, z4⟩ := h
          go_simp
          first | done | with_reducible rfl | trace_state
        case fasnh4 => (simp only [Act.put, List.setIfInBounds_toArray, List.set_cons_zero, List.set_cons_succ]; rfl)
        refine wpAnyS_takeN 5 (some 55) (a' := ?fasna5) (v := ?fasv5) rfl rfl (by kernel_rfl) (by kernel_rfl) (by kernel_rfl) (fun _ _ _ h => h) s5 (by kernel_rfl) (fun _ => rfl) ?fashy5 ?fasnh5 ?fasrest5
        case fashy5 =>
          intro W' h
          rw [hSd.out] at h
          obtain ⟨z0, z1, z2, z3, z4⟩ := h
          go_simp
          first | done | with_reducible rfl | trace_state
        case fasnh5 => (simp only [Act.put, List.setIfInBounds_toArray, List.set_cons_zero, List.set_cons_succ]; rfl)
        refine wpAnyS_one 6 (by kernel_rfl) rfl (by kernel_rfl) ?_
        go_simp
        obtain ⟨W7, hW7⟩ : ∃ W7, (((W5.setCell ⟨Bk, 3 + 3 * a, none⟩ (.int .i64 j)).setCell ⟨Bk, 3 + 3 * a + 1, none⟩ (.int .i64 R)).setCell ⟨Bk, 3 + 3 * a + 2, none⟩ (.int .i64 T)).drew.drew = W7 := ⟨_, rfl⟩
        rw [hW7]
        have hk7 : ∀ i, i ≠ Bk → W7.heap[i]? = W5.heap[i]? := by
          intro i hi
          rw [← hW7]
          exact (Below.heap_setCell _ ⟨Bk, 3 + 3 * a + 2, none⟩ _ i hi).trans ((Below.heap_setCell _ ⟨Bk, 3 + 3 * a + 1, none⟩ _ i hi).trans ((Below.heap_setCell _ ⟨Bk, 3 + 3 * a, none⟩ _ i hi).trans rfl))
        have hb7 : Below Bk W5 W7 := by rw [← hW7]; exact (((((Below.refl Bk W5)).setCell (p := ⟨Bk, 3 + 3 * a, none⟩) (Nat.le_refl _) _).setCell (p := ⟨Bk, 3 + 3 * a + 1, none⟩) (Nat.le_refl _) _).setCell (p := ⟨Bk, 3 + 3 * a + 2, none⟩) (Nat.le_refl _) _).drew.drew
        have n7 : W7.heap[Bk]? = some (.cells (blkW (.slice A hs.length cA) (.int .i64 page) (.int .i64 gap) (updW g a ((j : Int), R, T)) 101) 49 (0, 0)) := by
          rw [← hW7]
          refine (blk_set (blk_set (blk_set (w := W5) (h := o2) (3 + 3 * a) _) (3 + 3 * a + 1) _) (3 + 3 * a + 2) _).trans ?_
          rw [blkW_set _ _ _ _ 101 a ((j : Int), R, T) (by omega)]
          have e : updW (updW g a (0, 0, 0)) a ((j : Int), R, T) = updW g a ((j : Int), R, T) := by unfold updW; funext i; by_cases h : i = a <;> simp [h]
          rw [e]
        clear hW7 k0 k1 k2 g0 g1 g2 e1 e2 f1' f2' e1d e2d f1d f2d
        refine ⟨hS5 _ (fun i hi _ => hk7 i hi), ?_⟩
        refine wpAnyS_done (by kernel_rfl) ?_ 0
        gi_wp2
        have hz5 := hb5.size
        have hz7 := hb7.size
        have hall : ∀ i, i < W.heap.size → i ≠ Bk → W7.heap[i]? = W.heap[i]? := fun i hi hn => (hk7 i hn).trans (hb5.block i hi)
        refine postC_go ⟨hall _ (by omega) (by omega), hall _ (by omega) (by omega)⟩ ⟨hb7.os.trans hb5.os, hb7.tape.trans hb5.tape, hb7.output.trans hb5.output, Nat.le_trans hz5 hz7, fun i hi h1 _ => hall i hi h1⟩ ⟨(hall _ (by omega) (by omega)).trans i0, (hall _ (by omega) (by omega)).trans i1, ?_, ⟨(hb7.os.trans hb5.os).trans i3.os, (hb7.tape.trans hb5.tape).trans i3.tape, (hb7.output.trans hb5.output).trans i3.output, Nat.le_trans i3.size (Nat.le_trans hz5 hz7), fun i hi hn => (hall i (by omega) (fun e => hn (by rw [e]))).trans (i3.block i hi hn)⟩⟩
        rw [hstp.out, if_pos (by simp)]
        exact n7
      · have hnz : ¬ ((u0, u1, u2) = ((0, 0, 0) : W3)) := fun e => hzero (by simp at e; exact e)
        by_cases ht : T ≤ u2
        · skip
          refine wpAnyS_takeN 0 (some 30) (a' := ?fbna0) (v := ?fbv0) rfl rfl (by kernel_rfl) (by kernel_rfl) (by kernel_rfl) (fun _ _ _ h => h) s0 (by kernel_rfl) (fun _ => rfl) ?fbhy0 ?fbnh0 ?fbrest0
          case fbhy0 =>
            intro W' h
            rw [hSd.out] at h
            obtain ⟨z0, z1, z2, z3, z4, z5, z6, z7⟩ := h
            go_simp
            first | done | with_reducible rfl | trace_state
          case fbnh0 => (simp only [Act.put, List.setIfInBounds_toArray, List.set_cons_zero, List.set_cons_succ]; rfl)
          refine wpAnyS_takeN 1 (some 31) (a' := ?fbna1) (v := ?fbv1) rfl rfl (by kernel_rfl) (by kernel_rfl) (by kernel_rfl) (fun _ _ _ h => h) s0 (by kernel_rfl) (fun _ => rfl) ?fbhy1 ?fbnh1 ?fbrest1
          case fbhy1 =>
            intro W' h
            rw [hSd.out] at h
            obtain ⟨z0, z1, z2, z3, z4, z5, z6, z7⟩ := h
            go_simp
            first | done | with_reducible rfl | trace_state
          case fbnh1 => (simp only [Act.put, List.setIfInBounds_toArray, List.set_cons_zero, List.set_cons_succ]; rfl)
          refine wpAnyS_takeN 2 (some 32) (a' := ?fbna2) (v := ?fbv2) rfl rfl (by kernel_rfl) (by kernel_rfl) (by kernel_rfl) (fun _ _ _ h => h) s0 (by kernel_rfl) (fun _ => rfl) ?fbhy2 ?fbnh2 ?fbrest2
          case fbhy2 =>
            intro W' h
            rw [hSd.out] at h
            obtain ⟨z0, z1, z2, z3, z4, z5, z6, z7⟩ := h
            go_simp
            first | done | with_reducible rfl | trace_state
          case fbnh2 => (simp only [Act.put, List.setIfInBounds_toArray, List.set_cons_zero, List.set_cons_succ]; rfl)
          refine wpAnyS_takeN 3 (some 33) (a' := ?fbna3) (v := ?fbv3) rfl rfl (by kernel_rfl) (by kernel_rfl) (by kernel_rfl) (fun _ _ _ h => h) s0 (by kernel_rfl) (fun _ => rfl) ?fbhy3 ?fbnh3 ?fbrest3
          case fbhy3 =>
            intro W' h
            rw [hSd.out] at h
            obtain ⟨z0, z1, z2, z3, z4, z5, z6, z7⟩ := h
            go_simp
            first | done | with_reducible rfl | trace_state
          case fbnh3 => (simp only [Act.put, List.setIfInBounds_toArray, List.set_cons_zero, List.set_cons_succ]; rfl)
          refine wpAnyS_takeN 4 (some 34) (a' := ?fbna4) (v := ?fbv4) rfl rfl (by kernel_rfl) (by kernel_rfl) (by kernel_rfl) (fun _ _ _ h => h) s0 (by kernel_rfl) (fun _ => rfl) ?fbhy4 ?fbnh4 ?fbrest4
          case fbhy4 =>
            intro W' h
            rw [hSd.out] at h
            obtain ⟨z0, z1, z2, z3, z4, z5, z6, z7⟩ := h
            go_simp
            first | done | with_reducible rfl | trace_state
          case fbnh4 => (simp only [Act.put, List.setIfInBounds_toArray, List.set_cons_zero, List.set_cons_succ]; rfl)
          refine wpAnyS_takeN 5 (some 35) (a' := ?fbna5) (v := ?fbv5) rfl rfl (by kernel_rfl) (by kernel_rfl) (by kernel_rfl) (fun _ _ _ h => h) s0 (by kernel_rfl) (fun _ => rfl) ?fbhy5 ?fbnh5 ?fbrest5
          case fbhy5 =>
            intro W' h
            rw [hSd.out] at h
            obtain ⟨z0, z1, z2, z3, z4, z5, z6, z7⟩ := h
            go_simp
            first | done | with_reducible rfl | trace_state
          case fbnh5 => (simp only [Act.put, List.setIfInBounds_toArray, List.set_cons_zero, List.set_cons_succ]; rfl)
          refine wpAnyS_takeN 6 (some 36) (a' := ?fbna6) (v := ?fbv6) rfl rfl (by kernel_rfl) (by kernel_rfl) (by kernel_rfl) (fun _ _ _ h => h) s0 (by kernel_rfl) (fun _ => rfl) ?fbhy6 ?fbnh6 ?fbrest6
          case fbhy6 =>
            intro W' h
            rw [hSd.out] at h
            obtain ⟨z0, z1, z2, z3, z4, z5, z6, z7⟩ := h
            go_simp
            first | done | with_reducible rfl | trace_state
          case fbnh6 => (simp only [Act.put, List.setIfInBounds_toArray, List.set_cons_zero, List.set_cons_succ]; rfl)
          refine wpAnyS_takeN 7 (some 37) (a' := ?fbna7) (v := (.bool false)) rfl rfl (by kernel_rfl) (by kernel_rfl) (by kernel_rfl) (fun _ _ _ h => h) s0 (by kernel_rfl) (fun _ => rfl) ?fbhy7 ?fbnh7 ?fbrest7
          case fbhy7 =>
            intro W' h
            rw [hSd.out] at h
            obtain ⟨z0, z1, z2, z3, z4, z5, z6, z7⟩ := h
            go_simp
            first | done | with_reducible rfl | (intro e0 e1 e2; exact hzero ⟨e0, e1, e2⟩)
          case fbnh7 => (simp only [Act.put, List.setIfInBounds_toArray, List.set_cons_zero, List.set_cons_succ]; rfl)
          refine wpAnyS_takeN 8 (some 38) (a' := ?fbna8) (v := ?fbv8) rfl rfl (by kernel_rfl) (by kernel_rfl) (by kernel_rfl) (fun _ _ _ h => h) s0 (by kernel_rfl) (fun _ => rfl) ?fbhy8 ?fbnh8 ?fbrest8
          case fbhy8 =>
            intro W' h
            rw [hSd.out] at h
            obtain ⟨z0, z1, z2, z3, z4, z5, z6, z7⟩ := h
            go_simp
            first | done | with_reducible rfl | trace_state
          case fbnh8 => (simp only [Act.put, List.setIfInBounds_toArray, List.set_cons_zero, List.set_cons_succ]; rfl)
          refine wpAnyS_takeN 9 (some 39) (a' := ?fbna9) (v := ?fbv9) rfl rfl (by kernel_rfl) (by kernel_rfl) (by kernel_rfl) (fun _ _ _ h => h) s0 (by kernel_rfl) (fun _ => rfl) ?fbhy9 ?fbnh9 ?fbrest9
          case fbhy9 =>
            intro W' h
            rw [hSd.out] at h
            obtain ⟨z0, z1, z2, z3, z4, z5, z6, z7⟩ := h
            go_simp
            first | done | with_reducible rfl | trace_state
          case fbnh9 => (simp only [Act.put, List.setIfInBounds_toArray, List.set_cons_zero, List.set_cons_succ]; rfl)
          refine wpAnyS_takeN 10 (some 40) (a' := ?fbna10) (v := ?fbv10) rfl rfl (by kernel_rfl) (by kernel_rfl) (by kernel_rfl) (fun _ _ _ h => h) s0 (by kernel_rfl) (fun _ => rfl) ?fbhy10 ?fbnh10 ?fbrest10
          case fbhy10 =>
            intro W' h
            rw [hSd.out] at h
            obtain ⟨z0, z1, z2, z3, z4, z5, z6, z7⟩ := h
            go_simp
            first | done | with_reducible rfl | trace_state
          case fbnh10 => (simp only [Act.put, List.setIfInBounds_toArray, List.set_cons_zero, List.set_cons_succ]; rfl)
          refine wpAnyS_takeN 11 (some 41) (a' := ?fbna11) (v := ?fbv11) rfl rfl (by kernel_rfl) (by kernel_rfl) (by kernel_rfl) (fun _ _ _ h => h) s0 (by kernel_rfl) (fun _ => rfl) ?fbhy11 ?fbnh11 ?fbrest11
          case fbhy11 =>
            intro W' h
            rw [hSd.out] at h
            obtain ⟨z0, z1, z2, z3, z4, z5, z6, z7⟩ := h
            go_simp
            first | done | with_reducible rfl | trace_state
          case fbnh11 => (simp only [Act.put, List.setIfInBounds_toArray, List.set_cons_zero, List.set_cons_succ]; rfl)
          refine wpAnyS_takeN 12 (some 42) (a' := ?fbna12) (v := ?fbv12) rfl rfl (by kernel_rfl) (by kernel_rfl) (by kernel_rfl) (fun _ _ _ h => h) s0 (by kernel_rfl) (fun _ => rfl) ?fbhy12 ?fbnh12 ?fbrest12
          case fbhy12 =>
            intro W' h
            rw [hSd.out] at h
            obtain ⟨z0, z1, z2, z3, z4, z5, z6, z7⟩ := h
            go_simp
            first | done | with_reducible rfl | trace_state
          case fbnh12 => (simp only [Act.put, List.setIfInBounds_toArray, List.set_cons_zero, List.set_cons_succ]; rfl)
          refine wpAnyS_takeN 13 (some 43) (a' := ?fbna13) (v := ?fbv13) rfl rfl (by kernel_rfl) (by kernel_rfl) (by kernel_rfl) (fun _ _ _ h => h) s0 (by kernel_rfl) (fun _ => rfl) ?fbhy13 ?fbnh13 ?fbrest13
          case fbhy13 =>
            intro W' h
            rw [hSd.out] at h
            obtain ⟨z0, z1, z2, z3, z4, z5, z6, z7⟩ := h
            go_simp
            first | done | with_reducible rfl | trace_state
          case fbnh13 => (simp only [Act.put, List.setIfInBounds_toArray, List.set_cons_zero, List.set_cons_succ]; rfl)
          refine wpAnyS_takeN 14 (some 44) (a' := ?fbna14) (v := ?fbv14) rfl rfl (by kernel_rfl) (by kernel_rfl) (by kernel_rfl) (fun _ _ _ h => h) s0 (by kernel_rfl) (fun _ => rfl) ?fbhy14 ?fbnh14 ?fbrest14
          case fbhy14 =>
            intro W' h
            rw [hSd.out] at h
            obtain ⟨z0, z1, z2, z3, z4, z5, z6, z7⟩ := h
            go_simp
            first | done | with_reducible rfl | trace_state
          case fbnh14 => (simp only [Act.put, List.setIfInBounds_toArray, List.set_cons_zero, List.set_cons_succ]; rfl)
          refine wpAnyS_takeN 15 (some 45) (a' := ?fbna15) (v := ?fbv15) rfl rfl (by kernel_rfl) (by kernel_rfl) (by kernel_rfl) (fun _ _ _ h => h) s0 (by kernel_rfl) (fun _ => rfl) ?fbhy15 ?fbnh15 ?fbrest15
          case fbhy15 =>
            intro W' h
            rw [hSd.out] at h
            obtain ⟨z0, z1, z2, z3, z4, z5, z6, z7⟩ := h
            go_simp
            first | done | with_reducible rfl | trace_state
          case fbnh15 => (simp only [Act.put, List.setIfInBounds_toArray, List.set_cons_zero, List.set_cons_succ]; rfl)
          refine wpAnyS_takeN 16 (some 46) (a' := ?fbna16) (v := ?fbv16) rfl rfl (by kernel_rfl) (by kernel_rfl) (by kernel_rfl) (fun _ _ _ h => h) s0 (by kernel_rfl) (fun _ => rfl) ?fbhy16 ?fbnh16 ?fbrest16
          case fbhy16 =>
            intro W' h
            rw [hSd.out] at h
            obtain ⟨z0, z1, z2, z3, z4, z5, z6, z7⟩ := h
            go_simp
            first | done | with_reducible rfl | trace_state
          case fbnh16 => (simp only [Act.put, List.setIfInBounds_toArray, List.set_cons_zero, List.set_cons_succ]; rfl)
          refine wpAnyS_takeN 17 (some 47) (a' := ?fbna17) (v := ?fbv17) rfl rfl (by kernel_rfl) (by kernel_rfl) (by kernel_rfl) (fun _ _ _ h => h) s0 (by kernel_rfl) (fun _ => rfl) ?fbhy17 ?fbnh17 ?fbrest17
          case fbhy17 =>
            intro W' h
            rw [hSd.out] at h
            obtain ⟨z0, z1, z2, z3, z4, z5, z6, z7⟩ := h
            go_simp
            first | done | with_reducible rfl | trace_state
          case fbnh17 => (simp only [Act.put, List.setIfInBounds_toArray, List.set_cons_zero, List.set_cons_succ]; rfl)
          refine wpAnyS_takeN 18 (some 48) (a' := ?fbna18) (v := ?fbv18) rfl rfl (by kernel_rfl) (by kernel_rfl) (by kernel_rfl) (fun _ _ _ h => h) s0 (by kernel_rfl) (fun _ => rfl) ?fbhy18 ?fbnh18 ?fbrest18
          case fbhy18 =>
            intro W' h
            rw [hSd.out] at h
            obtain ⟨z0, z1, z2, z3, z4, z5, z6, z7⟩ := h
            go_simp
            first | done | with_reducible rfl | trace_state
          case fbnh18 => (simp only [Act.put, List.setIfInBounds_toArray, List.set_cons_zero, List.set_cons_succ]; rfl)
          refine wpAnyS_takeN 19 (some 49) (a' := ?fbna19) (v := ?fbv19) rfl rfl (by kernel_rfl) (by kernel_rfl) (by kernel_rfl) (fun _ _ _ h => h) s0 (by kernel_rfl) (fun _ => rfl) ?fbhy19 ?fbnh19 ?fbrest19
          case fbhy19 =>
            intro W' h
            rw [hSd.out] at h
            obtain ⟨z0, z1, z2, z3, z4, z5, z6, z7⟩ := h
            go_simp
            first | done | with_reducible rfl | trace_state
          case fbnh19 => (simp only [Act.put, List.setIfInBounds_toArray, List.set_cons_zero, List.set_cons_succ]; rfl)
          refine wpAnyS_done (by kernel_rfl) ?_ 0
          gi_wp2
          obtain ⟨S5, hSd⟩ : ∃ S5 : World → Prop, Aside0 (S5 = fun W' => W'.cell? ⟨w.heap.size, 0, none⟩ = some (.pointer (some ⟨Bk, 0, none⟩)) ∧ W'.cell? ⟨w.heap.size + 1, 0, none⟩ = some (.int .i64 a) ∧ W'.cell? ⟨bw, 0, none⟩ = some (.int .i64 j) ∧ W'.cell? ⟨bw, 1, none⟩ = some (.int .i64 R) ∧ W'.cell? ⟨bw, 2, none⟩ = some (.int .i64 T)) := ⟨_, ⟨rfl⟩⟩
          have hS5 : ∀ W' : World, (∀ i, i ≠ Bk → i < W5.heap.size → W'.heap[i]? = W5.heap[i]?) → S5 W' := by
            intro W' hb
            rw [hSd.out]
            have q0 := (hb _ (by omega) (blk_lt o0)).trans o0
            have q1 := (hb _ (by omega) (blk_lt o1)).trans o1
            have q3 := (hb bw (by omega) (blk_lt n0)).trans n0
            exact ⟨(blk_cell q0 0).trans rfl, (blk_cell q1 0).trans rfl, (blk_cell q3 0).trans rfl, (blk_cell q3 1).trans rfl, (blk_cell q3 2).trans rfl⟩
          have s5 := hS5 W5.drew.drew (fun _ _ _ => rfl)
          have k0 : W5.drew.drew.cell? ⟨Bk, 3 + 3 * a, none⟩ = some (.int .i64 u0) := (blk_cell (w := W5) o2 _).trans hblka.1
          have k1 : W5.drew.drew.cell? ⟨Bk, 3 + 3 * a + 1, none⟩ = some (.int .i64 u1) := (blk_cell (w := W5) o2 _).trans hblka.2.1
          have k2 : W5.drew.drew.cell? ⟨Bk, 3 + 3 * a + 2, none⟩ = some (.int .i64 u2) := (blk_cell (w := W5) o2 _).trans hblka.2.2
          have g0 : W5.drew.drew.frozen? ⟨Bk, 3 + 3 * a, none⟩ = false := blk_frozen (w := W5) o2 _
          have g1 : W5.drew.drew.frozen? ⟨Bk, 3 + 3 * a + 1, none⟩ = false := blk_frozen (w := W5) o2 _
          have g2 : W5.drew.drew.frozen? ⟨Bk, 3 + 3 * a + 2, none⟩ = false := blk_frozen (w := W5) o2 _
          have q1' := blk_set (w := W5) o2 (3 + 3 * a) (.int .i64 (j : Int))
          have q2' := blk_set q1' (3 + 3 * a + 1) (.int .i64 R)
          have e1 : (W5.setCell ⟨Bk, 3 + 3 * a, none⟩ (.int .i64 (j : Int))).cell? ⟨Bk, 3 + 3 * a + 1, none⟩ = some (.int .i64 u1) := by
            rw [blk_cell q1' _, Array.getElem?_setIfInBounds_ne (by omega)]; exact hblka.2.1
          have e2 : ((W5.setCell ⟨Bk, 3 + 3 * a, none⟩ (.int .i64 (j : Int))).setCell ⟨Bk, 3 + 3 * a + 1, none⟩ (.int .i64 R)).cell? ⟨Bk, 3 + 3 * a + 2, none⟩ = some (.int .i64 u2) := by
            rw [blk_cell q2' _, Array.getElem?_setIfInBounds_ne (by omega), Array.getElem?_setIfInBounds_ne (by omega)]; exact hblka.2.2
          have f1' := blk_frozen q1' (3 + 3 * a + 1)
          have f2' := blk_frozen q2' (3 + 3 * a + 2)
          have e1d : (W5.setCell ⟨Bk, 3 + 3 * a, none⟩ (.int .i64 (j : Int))).drew.drew.cell? ⟨Bk, 3 + 3 * a + 1, none⟩ = some (.int .i64 u1) := e1
          have e2d : ((W5.setCell ⟨Bk, 3 + 3 * a, none⟩ (.int .i64 (j : Int))).setCell ⟨Bk, 3 + 3 * a + 1, none⟩ (.int .i64 R)).drew.drew.cell? ⟨Bk, 3 + 3 * a + 2, none⟩ = some (.int .i64 u2) := e2
          have f1d : (W5.setCell ⟨Bk, 3 + 3 * a, none⟩ (.int .i64 (j : Int))).drew.drew.frozen? ⟨Bk, 3 + 3 * a + 1, none⟩ = false := f1'
          have f2d : ((W5.setCell ⟨Bk, 3 + 3 * a, none⟩ (.int .i64 (j : Int))).setCell ⟨Bk, 3 + 3 * a + 1, none⟩ (.int .i64 R)).drew.drew.frozen? ⟨Bk, 3 + 3 * a + 2, none⟩ = false := f2'
          clear q1' q2'
          refine wpIn_region_S S5 (by kernel_rfl) s5 ?_
          refine wpAnyS_takeN 0 (some 50) (a' := ?fbsna0) (v := ?fbsv0) rfl rfl (by kernel_rfl) (by kernel_rfl) (by kernel_rfl) (fun _ _ _ h => h) s5 (by kernel_rfl) (fun _ => rfl) ?fbshy0 ?fbsnh0 ?fbsrest0
          case fbshy0 =>
            intro W' h
            rw [hSd.out] at h
            obtain ⟨z0, z1, z2, z3, z4⟩ := h
            go_simp
            first | done | with_reducible rfl | trace_state
          case fbsnh0 => (simp only [Act.put, List.setIfInBounds_toArray, List.set_cons_zero, List.set_cons_succ]; rfl)
          refine wpAnyS_takeN 1 (some 51) (a' := ?fbsna1) (v := ?fbsv1) rfl rfl (by kernel_rfl) (by kernel_rfl) (by kernel_rfl) (fun _ _ _ h => h) s5 (by kernel_rfl) (fun _ => rfl) ?fbshy1 ?fbsnh1 ?fbsrest1
          case fbshy1 =>
            intro W' h
            rw [hSd.out] at h
            obtain ⟨z0, z1, z2, z3, z4⟩ := h
            go_simp
            first | done | with_reducible rfl | trace_state
          case fbsnh1 => (simp only [Act.put, List.setIfInBounds_toArray, List.set_cons_zero, List.set_cons_succ]; rfl)
          refine wpAnyS_takeN 2 (some 52) (a' := ?fbsna2) (v := ?fbsv2) rfl rfl (by kernel_rfl) (by kernel_rfl) (by kernel_rfl) (fun _ _ _ h => h) s5 (by kernel_rfl) (fun _ => rfl) ?fbshy2 ?fbsnh2 ?fbsrest2
          case fbshy2 =>
            intro W' h
            rw [hSd.out] at h
            obtain ⟨z0, z1, z2, z3, z4⟩ := h
            go_simp
            first | done | with_reducible rfl | trace_state
          case fbsnh2 => (simp only [Act.put, List.setIfInBounds_toArray, List.set_cons_zero, List.set_cons_succ]; rfl)
          refine wpAnyS_takeN 3 (some 53) (a' := ?fbsna3) (v := ?fbsv3) rfl rfl (by kernel_rfl) (by kernel_rfl) (by kernel_rfl) (fun _ _ _ h => h) s5 (by kernel_rfl) (fun _ => rfl) ?fbshy3 ?fbsnh3 ?fbsrest3
          case fbshy3 =>
            intro W' h
            rw [hSd.out] at h
            obtain ⟨z0, z1, z2, z3, z4⟩ := h
            go_simp
            first | done | with_reducible rfl | trace_state
          case fbsnh3 => (simp only [Act.put, List.setIfInBounds_toArray, List.set_cons_zero, List.set_cons_succ]; rfl)
          refine wpAnyS_takeN 4 (some 54) (a' := ?fbsna4) (v := ?fbsv4) rfl rfl (by kernel_rfl) (by kernel_rfl) (by kernel_rfl) (fun _ _ _ h => h) s5 (by kernel_rfl) (fun _ => rfl) ?fbshy4 ?fbsnh4 ?fbsrest4
          case fbshy4 =>
            intro W' h
            rw [hSd.out] at h
            obtain ⟨z0, z1, z2, z3, z4⟩ := h
            go_simp
            first | done | with_reducible rfl | trace_state
          case fbsnh4 => (simp only [Act.put, List.setIfInBounds_toArray, List.set_cons_zero, List.set_cons_succ]; rfl)
          refine wpAnyS_takeN 5 (some 55) (a' := ?fbsna5) (v := ?fbsv5) rfl rfl (by kernel_rfl) (by kernel_rfl) (by kernel_rfl) (fun _ _ _ h => h) s5 (by kernel_rfl) (fun _ => rfl) ?fbshy5 ?fbsnh5 ?fbsrest5
          case fbshy5 =>
            intro W' h
            rw [hSd.out] at h
            obtain ⟨z0, z1, z2, z3, z4⟩ := h
            go_simp
            first | done | with_reducible rfl | trace_state
          case fbsnh5 => (simp only [Act.put, List.setIfInBounds_toArray, List.set_cons_zero, List.set_cons_succ]; rfl)
          refine wpAnyS_one 6 (by kernel_rfl) rfl (by kernel_rfl) ?_
          go_simp
          obtain ⟨W7, hW7⟩ : ∃ W7, (((W5.setCell ⟨Bk, 3 + 3 * a, none⟩ (.int .i64 j)).setCell ⟨Bk, 3 + 3 * a + 1, none⟩ (.int .i64 R)).setCell ⟨Bk, 3 + 3 * a + 2, none⟩ (.int .i64 T)).drew.drew = W7 := ⟨_, rfl⟩
          rw [hW7]
          have hk7 : ∀ i, i ≠ Bk → W7.heap[i]? = W5.heap[i]? := by
            intro i hi
            rw [← hW7]
            exact (Below.heap_setCell _ ⟨Bk, 3 + 3 * a + 2, none⟩ _ i hi).trans ((Below.heap_setCell _ ⟨Bk, 3 + 3 * a + 1, none⟩ _ i hi).trans ((Below.heap_setCell _ ⟨Bk, 3 + 3 * a, none⟩ _ i hi).trans rfl))
          have hb7 : Below Bk W5 W7 := by rw [← hW7]; exact (((((Below.refl Bk W5)).setCell (p := ⟨Bk, 3 + 3 * a, none⟩) (Nat.le_refl _) _).setCell (p := ⟨Bk, 3 + 3 * a + 1, none⟩) (Nat.le_refl _) _).setCell (p := ⟨Bk, 3 + 3 * a + 2, none⟩) (Nat.le_refl _) _).drew.drew
          have n7 : W7.heap[Bk]? = some (.cells (blkW (.slice A hs.length cA) (.int .i64 page) (.int .i64 gap) (updW g a ((j : Int), R, T)) 101) 49 (0, 0)) := by
            rw [← hW7]
            refine (blk_set (blk_set (blk_set (w := W5) (h := o2) (3 + 3 * a) _) (3 + 3 * a + 1) _) (3 + 3 * a + 2) _).trans ?_
            rw [blkW_set _ _ _ _ 101 a ((j : Int), R, T) (by omega)]
            have e : updW (updW g a (u0, u1, u2)) a ((j : Int), R, T) = updW g a ((j : Int), R, T) := by unfold updW; funext i; by_cases h : i = a <;> simp [h]
            rw [e]
          clear hW7 k0 k1 k2 g0 g1 g2 e1 e2 f1' f2' e1d e2d f1d f2d
          refine ⟨hS5 _ (fun i hi _ => hk7 i hi), ?_⟩
          refine wpAnyS_done (by kernel_rfl) ?_ 0
          gi_wp2
          have hz5 := hb5.size
          have hz7 := hb7.size
          have hall : ∀ i, i < W.heap.size → i ≠ Bk → W7.heap[i]? = W.heap[i]? := fun i hi hn => (hk7 i hn).trans (hb5.block i hi)
          refine postC_go ⟨hall _ (by omega) (by omega), hall _ (by omega) (by omega)⟩ ⟨hb7.os.trans hb5.os, hb7.tape.trans hb5.tape, hb7.output.trans hb5.output, Nat.le_trans hz5 hz7, fun i hi h1 _ => hall i hi h1⟩ ⟨(hall _ (by omega) (by omega)).trans i0, (hall _ (by omega) (by omega)).trans i1, ?_, ⟨(hb7.os.trans hb5.os).trans i3.os, (hb7.tape.trans hb5.tape).trans i3.tape, (hb7.output.trans hb5.output).trans i3.output, Nat.le_trans i3.size (Nat.le_trans hz5 hz7), fun i hi hn => (hall i (by omega) (fun e => hn (by rw [e]))).trans (i3.block i hi hn)⟩⟩
          rw [hstp.out, if_pos (.inr ht)]
          exact n7
        · skip
          refine wpAnyS_takeN 0 (some 30) (a' := ?fcna0) (v := ?fcv0) rfl rfl (by kernel_rfl) (by kernel_rfl) (by kernel_rfl) (fun _ _ _ h => h) s0 (by kernel_rfl) (fun _ => rfl) ?fchy0 ?fcnh0 ?fcrest0
          case fchy0 =>
            intro W' h
            rw [hSd.out] at h
            obtain ⟨z0, z1, z2, z3, z4, z5, z6, z7⟩ := h
            go_simp
            first | done | with_reducible rfl | trace_state
          case fcnh0 => (simp only [Act.put, List.setIfInBounds_toArray, List.set_cons_zero, List.set_cons_succ]; rfl)
          refine wpAnyS_takeN 1 (some 31) (a' := ?fcna1) (v := ?fcv1) rfl rfl (by kernel_rfl) (by kernel_rfl) (by kernel_rfl) (fun _ _ _ h => h) s0 (by kernel_rfl) (fun _ => rfl) ?fchy1 ?fcnh1 ?fcrest1
          case fchy1 =>
            intro W' h
            rw [hSd.out] at h
            obtain ⟨z0, z1, z2, z3, z4, z5, z6, z7⟩ := h
            go_simp
            first | done | with_reducible rfl | trace_state
          case fcnh1 => (simp only [Act.put, List.setIfInBounds_toArray, List.set_cons_zero, List.set_cons_succ]; rfl)
          refine wpAnyS_takeN 2 (some 32) (a' := ?fcna2) (v := ?fcv2) rfl rfl (by kernel_rfl) (by kernel_rfl) (by kernel_rfl) (fun _ _ _ h => h) s0 (by kernel_rfl) (fun _ => rfl) ?fchy2 ?fcnh2 ?fcrest2
          case fchy2 =>
            intro W' h
            rw [hSd.out] at h
            obtain ⟨z0, z1, z2, z3, z4, z5, z6, z7⟩ := h
            go_simp
            first | done | with_reducible rfl | trace_state
          case fcnh2 => (simp only [Act.put, List.setIfInBounds_toArray, List.set_cons_zero, List.set_cons_succ]; rfl)
          refine wpAnyS_takeN 3 (some 33) (a' := ?fcna3) (v := ?fcv3) rfl rfl (by kernel_rfl) (by kernel_rfl) (by kernel_rfl) (fun _ _ _ h => h) s0 (by kernel_rfl) (fun _ => rfl) ?fchy3 ?fcnh3 ?fcrest3
          case fchy3 =>
            intro W' h
            rw [hSd.out] at h
            obtain ⟨z0, z1, z2, z3, z4, z5, z6, z7⟩ := h
            go_simp
            first | done | with_reducible rfl | trace_state
          case fcnh3 => (simp only [Act.put, List.setIfInBounds_toArray, List.set_cons_zero, List.set_cons_succ]; rfl)
          refine wpAnyS_takeN 4 (some 34) (a' := ?fcna4) (v := ?fcv4) rfl rfl (by kernel_rfl) (by kernel_rfl) (by kernel_rfl) (fun _ _ _ h => h) s0 (by kernel_rfl) (fun _ => rfl) ?fchy4 ?fcnh4 ?fcrest4
          case fchy4 =>
            intro W' h
            rw [hSd.out] at h
            obtain ⟨z0, z1, z2, z3, z4, z5, z6, z7⟩ := h
            go_simp
            first | done | with_reducible rfl | trace_state
          case fcnh4 => (simp only [Act.put, List.setIfInBounds_toArray, List.set_cons_zero, List.set_cons_succ]; rfl)
          refine wpAnyS_takeN 5 (some 35) (a' := ?fcna5) (v := ?fcv5) rfl rfl (by kernel_rfl) (by kernel_rfl) (by kernel_rfl) (fun _ _ _ h => h) s0 (by kernel_rfl) (fun _ => rfl) ?fchy5 ?fcnh5 ?fcrest5
          case fchy5 =>
            intro W' h
            rw [hSd.out] at h
            obtain ⟨z0, z1, z2, z3, z4, z5, z6, z7⟩ := h
            go_simp
            first | done | with_reducible rfl | trace_state
          case fcnh5 => (simp only [Act.put, List.setIfInBounds_toArray, List.set_cons_zero, List.set_cons_succ]; rfl)
          refine wpAnyS_takeN 6 (some 36) (a' := ?fcna6) (v := ?fcv6) rfl rfl (by kernel_rfl) (by kernel_rfl) (by kernel_rfl) (fun _ _ _ h => h) s0 (by kernel_rfl) (fun _ => rfl) ?fchy6 ?fcnh6 ?fcrest6
          case fchy6 =>
            intro W' h
            rw [hSd.out] at h
            obtain ⟨z0, z1, z2, z3, z4, z5, z6, z7⟩ := h
            go_simp
            first | done | with_reducible rfl | trace_state
          case fcnh6 => (simp only [Act.put, List.setIfInBounds_toArray, List.set_cons_zero, List.set_cons_succ]; rfl)
          refine wpAnyS_takeN 7 (some 37) (a' := ?fcna7) (v := (.bool false)) rfl rfl (by kernel_rfl) (by kernel_rfl) (by kernel_rfl) (fun _ _ _ h => h) s0 (by kernel_rfl) (fun _ => rfl) ?fchy7 ?fcnh7 ?fcrest7
          case fchy7 =>
            intro W' h
            rw [hSd.out] at h
            obtain ⟨z0, z1, z2, z3, z4, z5, z6, z7⟩ := h
            go_simp
            first | done | with_reducible rfl | (intro e0 e1 e2; exact hzero ⟨e0, e1, e2⟩)
          case fcnh7 => (simp only [Act.put, List.setIfInBounds_toArray, List.set_cons_zero, List.set_cons_succ]; rfl)
          refine wpAnyS_takeN 8 (some 38) (a' := ?fcna8) (v := ?fcv8) rfl rfl (by kernel_rfl) (by kernel_rfl) (by kernel_rfl) (fun _ _ _ h => h) s0 (by kernel_rfl) (fun _ => rfl) ?fchy8 ?fcnh8 ?fcrest8
          case fchy8 =>
            intro W' h
            rw [hSd.out] at h
            obtain ⟨z0, z1, z2, z3, z4, z5, z6, z7⟩ := h
            go_simp
            first | done | with_reducible rfl | trace_state
          case fcnh8 => (simp only [Act.put, List.setIfInBounds_toArray, List.set_cons_zero, List.set_cons_succ]; rfl)
          refine wpAnyS_takeN 9 (some 39) (a' := ?fcna9) (v := ?fcv9) rfl rfl (by kernel_rfl) (by kernel_rfl) (by kernel_rfl) (fun _ _ _ h => h) s0 (by kernel_rfl) (fun _ => rfl) ?fchy9 ?fcnh9 ?fcrest9
          case fchy9 =>
            intro W' h
            rw [hSd.out] at h
            obtain ⟨z0, z1, z2, z3, z4, z5, z6, z7⟩ := h
            go_simp
            first | done | with_reducible rfl | trace_state
          case fcnh9 => (simp only [Act.put, List.setIfInBounds_toArray, List.set_cons_zero, List.set_cons_succ]; rfl)
          refine wpAnyS_takeN 10 (some 40) (a' := ?fcna10) (v := ?fcv10) rfl rfl (by kernel_rfl) (by kernel_rfl) (by kernel_rfl) (fun _ _ _ h => h) s0 (by kernel_rfl) (fun _ => rfl) ?fchy10 ?fcnh10 ?fcrest10
          case fchy10 =>
            intro W' h
            rw [hSd.out] at h
            obtain ⟨z0, z1, z2, z3, z4, z5, z6, z7⟩ := h
            go_simp
            first | done | with_reducible rfl | trace_state
          case fcnh10 => (simp only [Act.put, List.setIfInBounds_toArray, List.set_cons_zero, List.set_cons_succ]; rfl)
          refine wpAnyS_takeN 11 (some 41) (a' := ?fcna11) (v := ?fcv11) rfl rfl (by kernel_rfl) (by kernel_rfl) (by kernel_rfl) (fun _ _ _ h => h) s0 (by kernel_rfl) (fun _ => rfl) ?fchy11 ?fcnh11 ?fcrest11
          case fchy11 =>
            intro W' h
            rw [hSd.out] at h
            obtain ⟨z0, z1, z2, z3, z4, z5, z6, z7⟩ := h
            go_simp
            first | done | with_reducible rfl | trace_state
          case fcnh11 => (simp only [Act.put, List.setIfInBounds_toArray, List.set_cons_zero, List.set_cons_succ]; rfl)
          refine wpAnyS_takeN 12 (some 42) (a' := ?fcna12) (v := ?fcv12) rfl rfl (by kernel_rfl) (by kernel_rfl) (by kernel_rfl) (fun _ _ _ h => h) s0 (by kernel_rfl) (fun _ => rfl) ?fchy12 ?fcnh12 ?fcrest12
          case fchy12 =>
            intro W' h
            rw [hSd.out] at h
            obtain ⟨z0, z1, z2, z3, z4, z5, z6, z7⟩ := h
            go_simp
            first | done | with_reducible rfl | trace_state
          case fcnh12 => (simp only [Act.put, List.setIfInBounds_toArray, List.set_cons_zero, List.set_cons_succ]; rfl)
          refine wpAnyS_takeN 13 (some 43) (a' := ?fcna13) (v := ?fcv13) rfl rfl (by kernel_rfl) (by kernel_rfl) (by kernel_rfl) (fun _ _ _ h => h) s0 (by kernel_rfl) (fun _ => rfl) ?fchy13 ?fcnh13 ?fcrest13
          case fchy13 =>
            intro W' h
            rw [hSd.out] at h
            obtain ⟨z0, z1, z2, z3, z4, z5, z6, z7⟩ := h
            go_simp
            first | done | with_reducible rfl | trace_state
          case fcnh13 => (simp only [Act.put, List.setIfInBounds_toArray, List.set_cons_zero, List.set_cons_succ]; rfl)
          refine wpAnyS_takeN 14 (some 44) (a' := ?fcna14) (v := ?fcv14) rfl rfl (by kernel_rfl) (by kernel_rfl) (by kernel_rfl) (fun _ _ _ h => h) s0 (by kernel_rfl) (fun _ => rfl) ?fchy14 ?fcnh14 ?fcrest14
          case fchy14 =>
            intro W' h
            rw [hSd.out] at h
            obtain ⟨z0, z1, z2, z3, z4, z5, z6, z7⟩ := h
            go_simp
            first | done | with_reducible rfl | trace_state
          case fcnh14 => (simp only [Act.put, List.setIfInBounds_toArray, List.set_cons_zero, List.set_cons_succ]; rfl)
          refine wpAnyS_takeN 15 (some 45) (a' := ?fcna15) (v := ?fcv15) rfl rfl (by kernel_rfl) (by kernel_rfl) (by kernel_rfl) (fun _ _ _ h => h) s0 (by kernel_rfl) (fun _ => rfl) ?fchy15 ?fcnh15 ?fcrest15
          case fchy15 =>
            intro W' h
            rw [hSd.out] at h
            obtain ⟨z0, z1, z2, z3, z4, z5, z6, z7⟩ := h
            go_simp
            first | done | with_reducible rfl | trace_state
          case fcnh15 => (simp only [Act.put, List.setIfInBounds_toArray, List.set_cons_zero, List.set_cons_succ]; rfl)
          refine wpAnyS_takeN 16 (some 46) (a' := ?fcna16) (v := ?fcv16) rfl rfl (by kernel_rfl) (by kernel_rfl) (by kernel_rfl) (fun _ _ _ h => h) s0 (by kernel_rfl) (fun _ => rfl) ?fchy16 ?fcnh16 ?fcrest16
          case fchy16 =>
            intro W' h
            rw [hSd.out] at h
            obtain ⟨z0, z1, z2, z3, z4, z5, z6, z7⟩ := h
            go_simp
            first | done | with_reducible rfl | trace_state
          case fcnh16 => (simp only [Act.put, List.setIfInBounds_toArray, List.set_cons_zero, List.set_cons_succ]; rfl)
          refine wpAnyS_takeN 17 (some 47) (a' := ?fcna17) (v := ?fcv17) rfl rfl (by kernel_rfl) (by kernel_rfl) (by kernel_rfl) (fun _ _ _ h => h) s0 (by kernel_rfl) (fun _ => rfl) ?fchy17 ?fcnh17 ?fcrest17
          case fchy17 =>
            intro W' h
            rw [hSd.out] at h
            obtain ⟨z0, z1, z2, z3, z4, z5, z6, z7⟩ := h
            go_simp
            first | done | with_reducible rfl | trace_state
          case fcnh17 => (simp only [Act.put, List.setIfInBounds_toArray, List.set_cons_zero, List.set_cons_succ]; rfl)
          refine wpAnyS_takeN 18 (some 48) (a' := ?fcna18) (v := ?fcv18) rfl rfl (by kernel_rfl) (by kernel_rfl) (by kernel_rfl) (fun _ _ _ h => h) s0 (by kernel_rfl) (fun _ => rfl) ?fchy18 ?fcnh18 ?fcrest18
          case fchy18 =>
            intro W' h
            rw [hSd.out] at h
            obtain ⟨z0, z1, z2, z3, z4, z5, z6, z7⟩ := h
            go_simp
            first | done | with_reducible rfl | trace_state
          case fcnh18 => (simp only [Act.put, List.setIfInBounds_toArray, List.set_cons_zero, List.set_cons_succ]; rfl)
          refine wpAnyS_takeN 19 (some 49) (a' := ?fcna19) (v := ?fcv19) rfl rfl (by kernel_rfl) (by kernel_rfl) (by kernel_rfl) (fun _ _ _ h => h) s0 (by kernel_rfl) (fun _ => rfl) ?fchy19 ?fcnh19 ?fcrest19
          case fchy19 =>
            intro W' h
            rw [hSd.out] at h
            obtain ⟨z0, z1, z2, z3, z4, z5, z6, z7⟩ := h
            go_simp
            first | done | with_reducible rfl | trace_state
          case fcnh19 => (simp only [Act.put, List.setIfInBounds_toArray, List.set_cons_zero, List.set_cons_succ]; rfl)
          refine wpAnyS_done (by kernel_rfl) ?_ 0
          gi_wp2
          have hz5 := hb5.size
          have hall : ∀ i, i < W.heap.size → W5.heap[i]? = W.heap[i]? := fun i hi => hb5.block i hi
          refine postC_go ⟨hall _ (by omega), hall _ (by omega)⟩ ⟨hb5.os, hb5.tape, hb5.output, hz5, fun i hi h1 _ => hall i hi⟩ ⟨(hall _ (by omega)).trans i0, (hall _ (by omega)).trans i1, ?_, ⟨hb5.os.trans i3.os, hb5.tape.trans i3.tape, hb5.output.trans i3.output, Nat.le_trans i3.size hz5, fun i hi hn => (hall i (by omega)).trans (i3.block i hi hn)⟩⟩
          rw [hstp.out, if_neg (by rintro (h | h); exact hnz h; omega)]
          exact o2
  case done =>
    rintro D xs W hD rfl ⟨i0, i1, i2, i3⟩ hK
    have := hbw.size
    refine ⟨by simp, .inl ⟨_, _, rfl, run_takeDeferred hK, ?_⟩⟩
    refine ⟨.tuple #[], by simp [results, go_sem], ⟨_, rfl⟩, (World.putObj_heap_other (by omega)).trans i2, ?_⟩
    exact ⟨i3.os, i3.tape, i3.output, by have := i3.size; simp; exact this, fun i hi hn => (World.putObj_heap_other (by omega)).trans (i3.block i hi hn)⟩
  case stop =>
    rintro D pre W hD _ h _
    exact h.elim
end Go.Proofs.YtbpcilbplgbonaaDoor.Q
