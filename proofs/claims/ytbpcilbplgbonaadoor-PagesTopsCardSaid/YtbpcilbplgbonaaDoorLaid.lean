/- A page is laid. -/
import Derived.Test.YtbpcilbplgbonaaDoorParts
import Derived.Maps.OwnIn
import Derived.Deep.DeepMust
namespace Go.Proofs.YtbpcilbplgbonaaDoor.Q
open Go.RowKit Go.Proofs.YtbpcilbplgbonaaDoorW.PrintWords Go.Proofs.YtbpcilbplgbonaaDoorW.PrintLast Go.Proofs.YtbpcilbplgbonaaDoorW.PrintMore
set_option linter.unusedVariables false
set_option linter.unusedSimpArgs false
def moreI (rest last : Int) (i : Nat) : Int := if 0 < last then Int.tdiv (rest * i) last else 0
def topI (hs : List Int) (gap : Int) (a : Nat) (rest last : Int) (i : Nat) : Int := sumF (hs.map (· + gap)) a (a + i) + moreI rest last i
/-- The tops of a page's lines. -/
def topsI (hs : List Int) (gap : Int) (a : Nat) (rest last : Int) (n : Nat) : List Int := (List.range n).map (topI hs gap a rest last)
theorem topsI_len (hs : List Int) (gap : Int) (a : Nat) (rest last : Int) (n : Nat) : (topsI hs gap a rest last n).length = n := by simp [topsI]
theorem topsI_succ (hs : List Int) (gap : Int) (a : Nat) (rest last : Int) (n : Nat) : topsI hs gap a rest last (n + 1) = topsI hs gap a rest last n ++ [topI hs gap a rest last n] := by unfold topsI; rw [List.range_succ, List.map_append]; rfl
def lrest (hs : List Int) (b : Nat) (rest : Int) : Int := if b = hs.length then 0 else rest
theorem sumG_range {hs : List Int} {page gap : Int} (L : Lns hs page gap) {a : Nat} : ∀ d : Nat, a + d ≤ hs.length → 0 ≤ sumF (hs.map (· + gap)) a (a + d) ∧ sumF (hs.map (· + gap)) a (a + d) ≤ 200000 * d
  | 0, _ => by rw [Nat.add_zero, sumF_self]; omega
  | d + 1, h => by
    have ih := sumG_range L (a := a) d (by omega)
    have hlt : a + d < hs.length := by omega
    have h1 := L.h _ (List.getElem_mem hlt)
    have h2 := L.gap1
    have h3 := L.gap2
    rw [← Nat.add_assoc, sumF_step _ a (a + d) (by omega) (by rw [List.length_map]; exact hlt), List.getElem_map]
    omega
theorem ret22 {w X : World} {n TL c3 : Nat} {A3 : Option Addr} {a b : Int} {tops : List Int} (tmps : Array Value) (h6 : tmps[6]?.getD undef = .pointer (some ⟨n + 1, 0, none⟩)) (h1 : X.heap[n + 1]? = some (.cells #[.int .i64 a, .int .i64 b, .slice A3 TL c3] 37 (0, 0)))
    (hR : Kd.R (Kd.int .i64) 3 X w.heap.size (fun _ => True) (.slice A3 TL c3) tops) (hB : Below w.heap.size w X) :
    bodyPost Tryd.prog Tryd.f22 (fun e w' => ∃ v, e = .returned (.agg #[.int .i64 a, .int .i64 b, v]) ∧ Kd.R (Kd.int .i64) 3 w' w.heap.size (fun _ => True) v tops ∧ Below w.heap.size w w') .ret { tmps := tmps, defers := [] } X := by
  refine bodyPost_ret (v := .agg #[.int .i64 a, .int .i64 b, .slice A3 TL c3]) ?_ rfl ⟨_, rfl, hR, hB⟩
  have e1 := run_loadVar_row X (n + 1) 37 37 _ _ _ h1 Tryd.underlying37 rfl (by kernel_rfl)
  simp [results, h6, asAddr, e1, Tryd.results22]
set_option maxHeartbeats 2000000 in
set_option maxRecDepth 100000 in
theorem laid_calls (Bk a b cA : Nat) (rest : Int) (A : Option Addr) (hs : List Int) (page gap : Int) (g : Nat → W3) (w : World)
    (hk : w.heap[Bk]? = some (.cells (blkW (.slice A hs.length cA) (.int .i64 page) (.int .i64 gap) g 101) 49 (0, 0)))
    (hA : Kd.C (Kd.int .i64) w A hs.length hs) (hcA : hs.length ≤ cA) (L : Lns hs page gap) (hab : a < b) (hb : b ≤ hs.length) (hr : 0 ≤ rest ∧ rest ≤ 200000) (last R : Int) (hlast : (b : Int) - a - 1 = last) (hR : Aside0 (lrest hs b rest = R)) :
    Calls Tryd.prog 22 #[.pointer (some ⟨Bk, 0, none⟩), .int .i64 (a : Int), .agg #[.int .i64 (b : Int), .int .i64 rest]] w fun e w' => ∃ v, e = .returned (.agg #[.int .i64 (a : Int), .int .i64 (b : Int), v]) ∧
      Kd.R (Kd.int .i64) 3 w' w.heap.size (fun _ => True) v (topsI hs gap a R last (b - a)) ∧ Below w.heap.size w w' := by
  have hu37 := Tryd.underlying37
  have hu44 := Tryd.underlying44
  have hu49 := Tryd.underlying49
  have hu42 := Tryd.underlying42
  have lBk := blk_lt hk
  have hL5 := L.len
  obtain ⟨ad, rfl, -⟩ := Kd.at_int hA (a : Int) (by omega) (by omega)
  have hmid := Kd.C_mid (lo := a) (hi := b) hA (by omega) hb hcA
  rw [if_neg (by omega)] at hmid
  obtain ⟨i0_, hi, hz0, hz1, hz2⟩ := info_parts info3
  have hcut := cut_mid (P := Tryd.prog) 22 3 .i64 .i64 Tryd.underlying22 hi 1 hz1 (some ad) hs.length cA (a : Int) (b : Int) (by omega) (by omega) (by omega) hcA
  rw [if_neg (by omega), Int.toNat_natCast, Int.toNat_natCast] at hcut
  clear hz0 hz1 hz2 hi
  go_enter Tryd.func22, Tryd.ntmps22
  go_wp2
  obtain ⟨W0, hW0⟩ : ∃ W0, (((w.alloc (.cells #[.int .i64 (b : Int), .int .i64 rest] 44)).alloc (.cells #[.int .i64 0, .int .i64 0, .slice none 0 0] 37)).alloc (.cells #[.int .i64 (a : Int), .int .i64 (b : Int), .slice none 0 0] 37)) = W0 := ⟨_, rfl⟩
  have hb0 : Below w.heap.size w W0 := by rw [← hW0]; exact (((Below.refl _ w).alloc (Nat.le_refl _) _).alloc (by simp) _).alloc (by simp <;> omega) _
  have hz0 : w.heap.size + 3 ≤ W0.heap.size := by rw [← hW0]; simp
  have p0 : W0.heap[w.heap.size]? = some (.cells #[.int .i64 (b : Int), .int .i64 rest] 44 (0, 0)) := by
    rw [← hW0]; exact (Below.heap_alloc _ _ _ (by simp <;> omega)).trans ((Below.heap_alloc _ _ _ (by simp)).trans (World.alloc_heap_new w _))
  have p1 : W0.heap[w.heap.size + 1]? = some (.cells #[.int .i64 0, .int .i64 0, .slice none 0 0] 37 (0, 0)) := by
    rw [← hW0]; refine (Below.heap_alloc _ _ _ (by simp)).trans ?_
    have := World.alloc_heap_new (w.alloc (.cells #[.int .i64 (b : Int), .int .i64 rest] 44)) (.cells #[.int .i64 0, .int .i64 0, .slice none 0 0] 37); rwa [World.size_alloc] at this
  have p2 : W0.heap[w.heap.size + 1 + 1]? = some (.cells #[.int .i64 (a : Int), .int .i64 (b : Int), .slice none 0 0] 37 (0, 0)) := by
    rw [← hW0]
    have := World.alloc_heap_new ((w.alloc (.cells #[.int .i64 (b : Int), .int .i64 rest] 44)).alloc (.cells #[.int .i64 0, .int .i64 0, .slice none 0 0] 37)) (.cells #[.int .i64 (a : Int), .int .i64 (b : Int), .slice none 0 0] 37); rwa [World.size_alloc, World.size_alloc] at this
  rw [hW0]
  clear hW0
  have hw1 : IntKind.i64.wrap ((b : Int) - a) = (b : Int) - a := by rw [IntKind.wrap_i64]; omega
  have hw2 : IntKind.i64.wrap ((b : Int) - a - 1) = (b : Int) - a - 1 := by rw [IntKind.wrap_i64]; omega
  have hlast' := Aside0.mk hlast
  rw [hlast] at hw2
  have q0 : W0.cell? ⟨w.heap.size, 0, none⟩ = some (.int .i64 (b : Int)) := (blk_cell p0 0).trans rfl
  have q1 : W0.cell? ⟨w.heap.size, 1, none⟩ = some (.int .i64 rest) := (blk_cell p0 1).trans rfl
  have kB := (hb0.block Bk lBk).trans hk
  have k0 : W0.cell? ⟨Bk, 0, none⟩ = some (.slice (some ad) hs.length cA) := (blk_cell kB 0).trans rfl
  have k2 : W0.cell? ⟨Bk, 2, none⟩ = some (.int .i64 gap) := (blk_cell kB 2).trans rfl
  clear hlast
  have hRr : 0 ≤ R ∧ R ≤ 200000 := by rw [← hR.out]; unfold lrest; split <;> omega
  by_cases hbe : b = hs.length
  · obtain rfl : R = 0 := by rw [← hR.out]; unfold lrest; rw [if_pos hbe]
    have hbb : ((b : Int) == (hs.length : Int)) = true := by rw [beq_iff_eq]; omega
    clear hbe
    go_region
    go_wp2
    go_region
    go_wp2
    go_region
    go_wp2
    have B2 : Below w.heap.size w W0.drew.drew.drew := ((hb0.drew).drew).drew
    go_loopg [10, 44] (b - a) (fun kq y i wr => ∃ (k : Nat) (u : Value), k ≤ b - a ∧ y = .int .i64 (sumF (hs.map (· + gap)) a (a + k)) ∧ i = .int .i64 (k : Int) ∧ wr.heap[w.heap.size + 1 + 1]? = some (.cells #[.int .i64 (a : Int), .int .i64 (b : Int), u] 37 (0, 0)) ∧ wr.heap[w.heap.size + 1]? = some (.cells #[.int .i64 0, .int .i64 0, .slice none 0 0] 37 (0, 0)) ∧
      Kd.R (Kd.int .i64) 3 wr w.heap.size (fun _ => True) u (topsI hs gap a 0 last k) ∧ Below w.heap.size w wr ∧ b - a ≤ k + kq)
    case atStart => exact ⟨0, .slice none 0 0, Nat.zero_le _, by rw [Nat.add_zero, sumF_self], rfl, p2, p1, Kd.R_nil _ _ _ _ _, B2, by omega⟩
    case round =>
      obtain ⟨k, u, hkb, rfl, rfl, h2, h1, hRu, hBw, hkq⟩ := hrel
      by_cases hlt : k < b - a
      · have hlt' : (k : Int) < ((b - a : Nat) : Int) := by omega
        have kBr := (hBw.block Bk lBk).trans hk
        have g2 : wr.cell? ⟨Bk, 2, none⟩ = some (.int .i64 gap) := (blk_cell kBr 2).trans rfl
        have o2 : wr.cell? ⟨w.heap.size + 1 + 1, 2, none⟩ = some u := (blk_cell h2 2).trans rfl
        have hCr := Kd.C_below hmid hBw
        obtain ⟨ad2, e2, hx⟩ := Kd.at_int hCr (k : Int) (by omega) (by rw [List.length_drop, List.length_take]; omega)
        rw [Option.map_some] at e2
        have e3 := (Option.some.inj e2).symm
        rw [Int.toNat_natCast] at hx
        have hak : a + k < hs.length := by omega
        have hX0 : rd (List.drop a (List.take b hs)) (k : Int) = hs[a + k] := by
          unfold rd; rw [Int.toNat_natCast, List.getD_eq_getElem?_getD, List.getElem?_drop, List.getElem?_take, if_pos (by omega), List.getElem?_eq_getElem hak]; rfl
        have hX1 := L.h _ (List.getElem_mem hak)
        have hY := sumF_step (hs.map (· + gap)) a (a + k) (by omega) (by rw [List.length_map]; exact hak)
        rw [List.getElem_map] at hY
        have hs1 := sumG_range L (a := a) k (by omega)
        have hL3 := L.gap1
        have hL4 := L.gap2
        obtain ⟨X, hX⟩ : ∃ X, hs[a + k] = X := ⟨_, rfl⟩
        rw [hX0, hX] at hx
        rw [hX] at hX1 hY
        clear hX0
        obtain ⟨Y, hYe⟩ : ∃ Y, sumF (hs.map (· + gap)) a (a + k) = Y := ⟨_, rfl⟩
        rw [hYe] at hY hs1
        rw [hYe]
        have hY' := Aside0.mk hY
        have hTS : Aside0 (topsI hs gap a 0 last (k + 1) = topsI hs gap a 0 last k ++ [Y + moreI 0 last k]) := ⟨by rw [topsI_succ]; unfold topI; rw [hYe]⟩
        have hBw' := Aside0.mk hBw
        have hRu' := Aside0.mk hRu
        have hMul : 0 ≤ 0 * (k : Int) ∧ 0 * (k : Int) ≤ 20000000 := by
          constructor
          · exact Int.mul_nonneg (by omega) (by omega)
          · exact Int.le_trans (Int.mul_le_mul (c := 0) (d := 100) (by omega) (by omega) (by omega) (by omega) : 0 * (k : Int) ≤ 0 * 100) (by omega)
        clear hY hYe hX hBw hRu hCr e2
        have hadz : (ad.add (a * (Kd.int .i64).sz)) = ad.add a := by show ad.add (a * 1) = _; rw [Nat.mul_one]
        rw [e3, hadz] at hx
        clear e3 hadz
        have hw3 : IntKind.i64.wrap (X + gap) = X + gap := by rw [IntKind.wrap_i64]; omega
        have hw4 : IntKind.i64.wrap (Y + (X + gap)) = Y + (X + gap) := by rw [IntKind.wrap_i64]; omega
        have hw5 : IntKind.i64.wrap ((k : Int) + 1) = (k : Int) + 1 := by rw [IntKind.wrap_i64]; omega
        by_cases hl : 0 < (b : Int) - a - 1
        · have hm : moreI 0 last k = Int.tdiv (0 * k) ((b : Int) - a - 1) := by unfold moreI; rw [← hlast'.out, if_pos hl]
          rw [hm] at hTS
          have hw8 : IntKind.i64.wrap Y = Y := by rw [IntKind.wrap_i64]; omega
          have hw9 : wrap64 Y = Y := by unfold wrap64; omega
          have hne : (b : Int) - a - 1 ≠ 0 := by omega
          have hneb : ((b : Int) - a - 1 == 0) = false := beq_eq_false_iff_ne.mpr hne
          rw [Int.zero_mul, Int.zero_tdiv, Int.add_zero] at hTS
          clear hm hMul
          go_wp2_with (first | ((with_reducible refine gate_builtin (b := .append) (xs := #[.tmp 57, .tmp 61]) rfl ?_); at_builtin; refine Kd.R_append (Kd.int .i64) (w0 := w) w.heap.size rfl (.tmp 57) (.tmp 61) 22 3 (.int .i64 0) 8 rfl Tryd.underlying22 info3 rfl (by decide) (by omega) u (topsI hs gap a 0 last k) (Y) [.int .i64 (Y)] (fun _ => True) (fun _ => False) rfl rfl ?aP (fun _ hk => hk.elim) ?aF ?aO ?aB ?aS ?aL ?_; (case aP => exact rfl); (case aB => exact hBw'.out); (case aF => exact (fun _ _ => trivial)); (case aO => exact Kd.R_mono hRu'.out (fun _ _ => trivial)); (case aS => exact hBw'.out.size); (case aL => (rw [topsI_len]; omega)); intro v1 w1 ho hb1 hg hat; rw [← hTS.out] at ho; obtain ⟨A3, c3, rfl⟩ := Kd.R_slice ho; have kB1 := (hb1.block Bk lBk).trans hk; have g21 : w1.cell? ⟨Bk, 2, none⟩ = some (.int .i64 gap) := (blk_cell kB1 2).trans rfl; have h21 := blk_grown h2 hg (Kd.R_ne hRu'.out h2 (by decide)); have h11 := blk_grown h1 hg (Kd.R_ne hRu'.out h1 (by decide)); have o21 : w1.cell? ⟨w.heap.size + 1 + 1, 2, none⟩ = some u := (blk_cell h21 2).trans rfl; have f21 := blk_frozen h21 2; have ho' := Aside0.mk ho; have hb1' := Aside0.mk hb1; clear ho hb1 hg hat g2 o2 hx kB1))
          go_roundg (gk - 1)
          case measure => omega
          case rel => exact ⟨k + 1, _, by omega, (by rw [← Nat.add_assoc, hY'.out]), (by first | rfl | (congr 1; omega)), (by exact blk_put h21 2 _ rfl), (Below.heap_setCell _ ⟨w.heap.size + 1 + 1, 2, none⟩ _ _ (by show w.heap.size + 1 ≠ w.heap.size + 1 + 1; omega)).trans h11, Kd.R_set ho'.out h21 (by decide) 2 _, hb1'.out.setCell (p := ⟨w.heap.size + 1 + 1, 2, none⟩) (by show w.heap.size ≤ w.heap.size + 1 + 1; omega) _, by omega⟩
        · have hm : moreI 0 last k = 0 := by unfold moreI; rw [← hlast'.out, if_neg hl]
          rw [hm, Int.add_zero] at hTS
          clear hm hMul
          have hw8 : IntKind.i64.wrap Y = Y := by rw [IntKind.wrap_i64]; omega
          have hw9 : wrap64 Y = Y := by unfold wrap64; omega
          go_wp2_with (first | ((with_reducible refine gate_builtin (b := .append) (xs := #[.tmp 57, .tmp 61]) rfl ?_); at_builtin; refine Kd.R_append (Kd.int .i64) (w0 := w) w.heap.size rfl (.tmp 57) (.tmp 61) 22 3 (.int .i64 0) 8 rfl Tryd.underlying22 info3 rfl (by decide) (by omega) u (topsI hs gap a 0 last k) (Y) [.int .i64 (Y)] (fun _ => True) (fun _ => False) rfl rfl ?aP (fun _ hk => hk.elim) ?aF ?aO ?aB ?aS ?aL ?_; (case aP => exact rfl); (case aB => exact hBw'.out); (case aF => exact (fun _ _ => trivial)); (case aO => exact Kd.R_mono hRu'.out (fun _ _ => trivial)); (case aS => exact hBw'.out.size); (case aL => (rw [topsI_len]; omega)); intro v1 w1 ho hb1 hg hat; rw [← hTS.out] at ho; obtain ⟨A3, c3, rfl⟩ := Kd.R_slice ho; have kB1 := (hb1.block Bk lBk).trans hk; have g21 : w1.cell? ⟨Bk, 2, none⟩ = some (.int .i64 gap) := (blk_cell kB1 2).trans rfl; have h21 := blk_grown h2 hg (Kd.R_ne hRu'.out h2 (by decide)); have h11 := blk_grown h1 hg (Kd.R_ne hRu'.out h1 (by decide)); have o21 : w1.cell? ⟨w.heap.size + 1 + 1, 2, none⟩ = some u := (blk_cell h21 2).trans rfl; have f21 := blk_frozen h21 2; have ho' := Aside0.mk ho; have hb1' := Aside0.mk hb1; clear ho hb1 hg hat g2 o2 hx kB1))
          go_roundg (gk - 1)
          case measure => omega
          case rel => exact ⟨k + 1, _, by omega, (by rw [← Nat.add_assoc, hY'.out]), (by first | rfl | (congr 1; omega)), (by exact blk_put h21 2 _ rfl), (Below.heap_setCell _ ⟨w.heap.size + 1 + 1, 2, none⟩ _ _ (by show w.heap.size + 1 ≠ w.heap.size + 1 + 1; omega)).trans h11, Kd.R_set ho'.out h21 (by decide) 2 _, hb1'.out.setCell (p := ⟨w.heap.size + 1 + 1, 2, none⟩) (by show w.heap.size ≤ w.heap.size + 1 + 1; omega) _, by omega⟩
      · have hlt' : ¬ ((k : Int) < ((b - a : Nat) : Int)) := by omega
        obtain ⟨A3, c3, rfl⟩ := Kd.R_slice hRu
        have o0 : wr.cell? ⟨w.heap.size + 1 + 1, 0, none⟩ = some (.int .i64 (a : Int)) := (blk_cell h2 0).trans rfl
        have o1 : wr.cell? ⟨w.heap.size + 1 + 1, 1, none⟩ = some (.int .i64 (b : Int)) := (blk_cell h2 1).trans rfl
        have o2 : wr.cell? ⟨w.heap.size + 1 + 1, 2, none⟩ = some (.slice A3 (topsI hs gap a 0 last k).length c3) := (blk_cell h2 2).trans rfl
        have s0 : wr.cell? ⟨w.heap.size + 1, 0, none⟩ = some (.int .i64 0) := (blk_cell h1 0).trans rfl
        have s1 : wr.cell? ⟨w.heap.size + 1, 1, none⟩ = some (.int .i64 0) := (blk_cell h1 1).trans rfl
        have s2 : wr.cell? ⟨w.heap.size + 1, 2, none⟩ = some (.slice none 0 0) := (blk_cell h1 2).trans rfl
        have f0 := blk_frozen h1 0
        have f1 := blk_frozen h1 1
        have f2 := blk_frozen h1 2
        have hkeq : topsI hs gap a 0 last k = topsI hs gap a 0 last (b - a) := by congr 1; omega
        rw [hkeq] at hRu
        have hRu' := Aside0.mk hRu
        obtain ⟨TL, hTL⟩ : ∃ TL, (topsI hs gap a 0 last k).length = TL := ⟨_, rfl⟩
        rw [hTL] at o2 h2
        rw [hkeq] at hTL
        have hTL' := Aside0.mk hTL
        clear hTL hRu hkeq
        have hBw' := Aside0.mk hBw
        go_wp2
        refine ret22 (n := w.heap.size) (A3 := A3) (TL := TL) (c3 := c3) _ (by rfl) (blk_put (blk_put (blk_put h1 0 _ rfl) 1 _ rfl) 2 _ rfl) ?_ ?_
        · have e := Kd.R_set (Kd.R_set (Kd.R_set hRu'.out h1 (by decide) 0 (.int .i64 (a : Int))) (blk_put h1 0 _ rfl) (by decide) 1 (.int .i64 (b : Int))) (blk_put (blk_put h1 0 _ rfl) 1 _ rfl) (by decide) 2 (.slice A3 TL c3)
          rw [hTL'.out] at e
          exact e
        · exact ((hBw'.out.setCell (p := ⟨w.heap.size + 1, 0, none⟩) (by show w.heap.size ≤ w.heap.size + 1; omega) _).setCell (p := ⟨w.heap.size + 1, 1, none⟩) (by show w.heap.size ≤ w.heap.size + 1; omega) _).setCell (p := ⟨w.heap.size + 1, 2, none⟩) (by show w.heap.size ≤ w.heap.size + 1; omega) _
  · obtain rfl : R = rest := by rw [← hR.out]; unfold lrest; rw [if_neg hbe]
    have hbb : ((b : Int) == (hs.length : Int)) = false := beq_eq_false_iff_ne.mpr (by omega)
    clear hbe
    go_region
    go_wp2
    go_region
    go_wp2
    go_region
    go_wp2
    have B2 : Below w.heap.size w W0.drew.drew.drew := ((hb0.drew).drew).drew
    go_loopg [10, 44] (b - a) (fun kq y i wr => ∃ (k : Nat) (u : Value), k ≤ b - a ∧ y = .int .i64 (sumF (hs.map (· + gap)) a (a + k)) ∧ i = .int .i64 (k : Int) ∧ wr.heap[w.heap.size + 1 + 1]? = some (.cells #[.int .i64 (a : Int), .int .i64 (b : Int), u] 37 (0, 0)) ∧ wr.heap[w.heap.size + 1]? = some (.cells #[.int .i64 0, .int .i64 0, .slice none 0 0] 37 (0, 0)) ∧
      Kd.R (Kd.int .i64) 3 wr w.heap.size (fun _ => True) u (topsI hs gap a R last k) ∧ Below w.heap.size w wr ∧ b - a ≤ k + kq)
    case atStart => exact ⟨0, .slice none 0 0, Nat.zero_le _, by rw [Nat.add_zero, sumF_self], rfl, p2, p1, Kd.R_nil _ _ _ _ _, B2, by omega⟩
    case round =>
      obtain ⟨k, u, hkb, rfl, rfl, h2, h1, hRu, hBw, hkq⟩ := hrel
      by_cases hlt : k < b - a
      · have hlt' : (k : Int) < ((b - a : Nat) : Int) := by omega
        have kBr := (hBw.block Bk lBk).trans hk
        have g2 : wr.cell? ⟨Bk, 2, none⟩ = some (.int .i64 gap) := (blk_cell kBr 2).trans rfl
        have o2 : wr.cell? ⟨w.heap.size + 1 + 1, 2, none⟩ = some u := (blk_cell h2 2).trans rfl
        have hCr := Kd.C_below hmid hBw
        obtain ⟨ad2, e2, hx⟩ := Kd.at_int hCr (k : Int) (by omega) (by rw [List.length_drop, List.length_take]; omega)
        rw [Option.map_some] at e2
        have e3 := (Option.some.inj e2).symm
        rw [Int.toNat_natCast] at hx
        have hak : a + k < hs.length := by omega
        have hX0 : rd (List.drop a (List.take b hs)) (k : Int) = hs[a + k] := by
          unfold rd; rw [Int.toNat_natCast, List.getD_eq_getElem?_getD, List.getElem?_drop, List.getElem?_take, if_pos (by omega), List.getElem?_eq_getElem hak]; rfl
        have hX1 := L.h _ (List.getElem_mem hak)
        have hY := sumF_step (hs.map (· + gap)) a (a + k) (by omega) (by rw [List.length_map]; exact hak)
        rw [List.getElem_map] at hY
        have hs1 := sumG_range L (a := a) k (by omega)
        have hL3 := L.gap1
        have hL4 := L.gap2
        obtain ⟨X, hX⟩ : ∃ X, hs[a + k] = X := ⟨_, rfl⟩
        rw [hX0, hX] at hx
        rw [hX] at hX1 hY
        clear hX0
        obtain ⟨Y, hYe⟩ : ∃ Y, sumF (hs.map (· + gap)) a (a + k) = Y := ⟨_, rfl⟩
        rw [hYe] at hY hs1
        rw [hYe]
        have hY' := Aside0.mk hY
        have hTS : Aside0 (topsI hs gap a R last (k + 1) = topsI hs gap a R last k ++ [Y + moreI R last k]) := ⟨by rw [topsI_succ]; unfold topI; rw [hYe]⟩
        have hBw' := Aside0.mk hBw
        have hRu' := Aside0.mk hRu
        have hMul : 0 ≤ R * (k : Int) ∧ R * (k : Int) ≤ 20000000 := by
          constructor
          · exact Int.mul_nonneg (by omega) (by omega)
          · exact Int.le_trans (Int.mul_le_mul (c := R) (d := 100) (by omega) (by omega) (by omega) (by omega) : R * (k : Int) ≤ R * 100) (by omega)
        clear hY hYe hX hBw hRu hCr e2
        have hadz : (ad.add (a * (Kd.int .i64).sz)) = ad.add a := by show ad.add (a * 1) = _; rw [Nat.mul_one]
        rw [e3, hadz] at hx
        clear e3 hadz
        have hw3 : IntKind.i64.wrap (X + gap) = X + gap := by rw [IntKind.wrap_i64]; omega
        have hw4 : IntKind.i64.wrap (Y + (X + gap)) = Y + (X + gap) := by rw [IntKind.wrap_i64]; omega
        have hw5 : IntKind.i64.wrap ((k : Int) + 1) = (k : Int) + 1 := by rw [IntKind.wrap_i64]; omega
        by_cases hl : 0 < (b : Int) - a - 1
        · have hm : moreI R last k = Int.tdiv (R * k) ((b : Int) - a - 1) := by unfold moreI; rw [← hlast'.out, if_pos hl]
          rw [hm] at hTS
          have hq0 := Int.tdiv_nonneg hMul.1 (b := (b : Int) - a - 1) (by omega)
          have hq1 : Int.tdiv (R * (k : Int)) ((b : Int) - a - 1) ≤ R * k := by
            rw [Int.tdiv_eq_ediv_of_nonneg hMul.1]; exact Int.ediv_le_self _ hMul.1
          have hw6 : IntKind.i64.wrap (R * (k : Int)) = R * k := by rw [IntKind.wrap_i64]; omega
          obtain ⟨M, hM⟩ : ∃ M, Int.tdiv (R * (k : Int)) ((b : Int) - a - 1) = M := ⟨_, rfl⟩
          rw [hM] at hTS hq0 hq1
          have hw7 : IntKind.i64.wrap M = M := by rw [IntKind.wrap_i64]; omega
          have hw8 : IntKind.i64.wrap (Y + M) = Y + M := by rw [IntKind.wrap_i64]; omega
          have hne : (b : Int) - a - 1 ≠ 0 := by omega
          have hneb : ((b : Int) - a - 1 == 0) = false := beq_eq_false_iff_ne.mpr hne
          clear hm
          go_wp2_with (first | ((with_reducible refine gate_builtin (b := .append) (xs := #[.tmp 57, .tmp 61]) rfl ?_); at_builtin; refine Kd.R_append (Kd.int .i64) (w0 := w) w.heap.size rfl (.tmp 57) (.tmp 61) 22 3 (.int .i64 0) 8 rfl Tryd.underlying22 info3 rfl (by decide) (by omega) u (topsI hs gap a R last k) (Y + M) [.int .i64 (Y + M)] (fun _ => True) (fun _ => False) rfl rfl ?aP (fun _ hk => hk.elim) ?aF ?aO ?aB ?aS ?aL ?_; (case aP => exact rfl); (case aB => exact hBw'.out); (case aF => exact (fun _ _ => trivial)); (case aO => exact Kd.R_mono hRu'.out (fun _ _ => trivial)); (case aS => exact hBw'.out.size); (case aL => (rw [topsI_len]; omega)); intro v1 w1 ho hb1 hg hat; rw [← hTS.out] at ho; obtain ⟨A3, c3, rfl⟩ := Kd.R_slice ho; have kB1 := (hb1.block Bk lBk).trans hk; have g21 : w1.cell? ⟨Bk, 2, none⟩ = some (.int .i64 gap) := (blk_cell kB1 2).trans rfl; have h21 := blk_grown h2 hg (Kd.R_ne hRu'.out h2 (by decide)); have h11 := blk_grown h1 hg (Kd.R_ne hRu'.out h1 (by decide)); have o21 : w1.cell? ⟨w.heap.size + 1 + 1, 2, none⟩ = some u := (blk_cell h21 2).trans rfl; have f21 := blk_frozen h21 2; have ho' := Aside0.mk ho; have hb1' := Aside0.mk hb1; clear ho hb1 hg hat g2 o2 hx kB1))
          go_roundg (gk - 1)
          case measure => omega
          case rel => exact ⟨k + 1, _, by omega, (by rw [← Nat.add_assoc, hY'.out]), (by first | rfl | (congr 1; omega)), (by exact blk_put h21 2 _ rfl), (Below.heap_setCell _ ⟨w.heap.size + 1 + 1, 2, none⟩ _ _ (by show w.heap.size + 1 ≠ w.heap.size + 1 + 1; omega)).trans h11, Kd.R_set ho'.out h21 (by decide) 2 _, hb1'.out.setCell (p := ⟨w.heap.size + 1 + 1, 2, none⟩) (by show w.heap.size ≤ w.heap.size + 1 + 1; omega) _, by omega⟩
        · have hm : moreI R last k = 0 := by unfold moreI; rw [← hlast'.out, if_neg hl]
          rw [hm, Int.add_zero] at hTS
          clear hm hMul
          have hw8 : IntKind.i64.wrap Y = Y := by rw [IntKind.wrap_i64]; omega
          have hw9 : wrap64 Y = Y := by unfold wrap64; omega
          go_wp2_with (first | ((with_reducible refine gate_builtin (b := .append) (xs := #[.tmp 57, .tmp 61]) rfl ?_); at_builtin; refine Kd.R_append (Kd.int .i64) (w0 := w) w.heap.size rfl (.tmp 57) (.tmp 61) 22 3 (.int .i64 0) 8 rfl Tryd.underlying22 info3 rfl (by decide) (by omega) u (topsI hs gap a R last k) (Y) [.int .i64 (Y)] (fun _ => True) (fun _ => False) rfl rfl ?aP (fun _ hk => hk.elim) ?aF ?aO ?aB ?aS ?aL ?_; (case aP => exact rfl); (case aB => exact hBw'.out); (case aF => exact (fun _ _ => trivial)); (case aO => exact Kd.R_mono hRu'.out (fun _ _ => trivial)); (case aS => exact hBw'.out.size); (case aL => (rw [topsI_len]; omega)); intro v1 w1 ho hb1 hg hat; rw [← hTS.out] at ho; obtain ⟨A3, c3, rfl⟩ := Kd.R_slice ho; have kB1 := (hb1.block Bk lBk).trans hk; have g21 : w1.cell? ⟨Bk, 2, none⟩ = some (.int .i64 gap) := (blk_cell kB1 2).trans rfl; have h21 := blk_grown h2 hg (Kd.R_ne hRu'.out h2 (by decide)); have h11 := blk_grown h1 hg (Kd.R_ne hRu'.out h1 (by decide)); have o21 : w1.cell? ⟨w.heap.size + 1 + 1, 2, none⟩ = some u := (blk_cell h21 2).trans rfl; have f21 := blk_frozen h21 2; have ho' := Aside0.mk ho; have hb1' := Aside0.mk hb1; clear ho hb1 hg hat g2 o2 hx kB1))
          go_roundg (gk - 1)
          case measure => omega
          case rel => exact ⟨k + 1, _, by omega, (by rw [← Nat.add_assoc, hY'.out]), (by first | rfl | (congr 1; omega)), (by exact blk_put h21 2 _ rfl), (Below.heap_setCell _ ⟨w.heap.size + 1 + 1, 2, none⟩ _ _ (by show w.heap.size + 1 ≠ w.heap.size + 1 + 1; omega)).trans h11, Kd.R_set ho'.out h21 (by decide) 2 _, hb1'.out.setCell (p := ⟨w.heap.size + 1 + 1, 2, none⟩) (by show w.heap.size ≤ w.heap.size + 1 + 1; omega) _, by omega⟩
      · have hlt' : ¬ ((k : Int) < ((b - a : Nat) : Int)) := by omega
        obtain ⟨A3, c3, rfl⟩ := Kd.R_slice hRu
        have o0 : wr.cell? ⟨w.heap.size + 1 + 1, 0, none⟩ = some (.int .i64 (a : Int)) := (blk_cell h2 0).trans rfl
        have o1 : wr.cell? ⟨w.heap.size + 1 + 1, 1, none⟩ = some (.int .i64 (b : Int)) := (blk_cell h2 1).trans rfl
        have o2 : wr.cell? ⟨w.heap.size + 1 + 1, 2, none⟩ = some (.slice A3 (topsI hs gap a R last k).length c3) := (blk_cell h2 2).trans rfl
        have s0 : wr.cell? ⟨w.heap.size + 1, 0, none⟩ = some (.int .i64 0) := (blk_cell h1 0).trans rfl
        have s1 : wr.cell? ⟨w.heap.size + 1, 1, none⟩ = some (.int .i64 0) := (blk_cell h1 1).trans rfl
        have s2 : wr.cell? ⟨w.heap.size + 1, 2, none⟩ = some (.slice none 0 0) := (blk_cell h1 2).trans rfl
        have f0 := blk_frozen h1 0
        have f1 := blk_frozen h1 1
        have f2 := blk_frozen h1 2
        have hkeq : topsI hs gap a R last k = topsI hs gap a R last (b - a) := by congr 1; omega
        rw [hkeq] at hRu
        have hRu' := Aside0.mk hRu
        obtain ⟨TL, hTL⟩ : ∃ TL, (topsI hs gap a R last k).length = TL := ⟨_, rfl⟩
        rw [hTL] at o2 h2
        rw [hkeq] at hTL
        have hTL' := Aside0.mk hTL
        clear hTL hRu hkeq
        have hBw' := Aside0.mk hBw
        go_wp2
        refine ret22 (n := w.heap.size) (A3 := A3) (TL := TL) (c3 := c3) _ (by rfl) (blk_put (blk_put (blk_put h1 0 _ rfl) 1 _ rfl) 2 _ rfl) ?_ ?_
        · have e := Kd.R_set (Kd.R_set (Kd.R_set hRu'.out h1 (by decide) 0 (.int .i64 (a : Int))) (blk_put h1 0 _ rfl) (by decide) 1 (.int .i64 (b : Int))) (blk_put (blk_put h1 0 _ rfl) 1 _ rfl) (by decide) 2 (.slice A3 TL c3)
          rw [hTL'.out] at e
          exact e
        · exact ((hBw'.out.setCell (p := ⟨w.heap.size + 1, 0, none⟩) (by show w.heap.size ≤ w.heap.size + 1; omega) _).setCell (p := ⟨w.heap.size + 1, 1, none⟩) (by show w.heap.size ≤ w.heap.size + 1; omega) _).setCell (p := ⟨w.heap.size + 1, 2, none⟩) (by show w.heap.size ≤ w.heap.size + 1; omega) _
end Go.Proofs.YtbpcilbplgbonaaDoor.Q
