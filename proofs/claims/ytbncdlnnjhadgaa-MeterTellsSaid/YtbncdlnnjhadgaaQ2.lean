-- Written by a program of this session (myprint.py), function by function.
import Derived.Test.YtbncdlnnjhadgaaQ0
import Derived.Deep.RegionLaw
import Derived.IntWalk
import Derived.Laws.CopyOwn
import Derived.Laws.MakeOwn
import Derived.LoopIn
import Derived.LoopNIn
import Derived.Maps.AppendAt
import Derived.OwnWalkIn
import Derived.RangeFuncBound
import Derived.RangeFuncBox
import Derived.RangeFuncCalls
import Derived.RangeFuncLeaves
import Derived.RangeFuncNested
import Derived.Shelf.Abstract
import Derived.Shelf.RegionOpen
import Derived.TacticsInMore
import Derived.WalkKit
namespace Go.Proofs.Ytbncdlnnjhadgaa.Q
open Go.RowKit Go.Proofs.YtbncdlnnjhadgaaW.PrintWords Go.Proofs.YtbncdlnnjhadgaaW.PrintLast Go.Proofs.YtbncdlnnjhadgaaW.PrintMore
attribute [local go_sem] max2_int min2_int max_two min_two max_three min_three max_four min_four   -- for this text's walks alone
set_option linter.unusedVariables false
set_option linter.unusedSimpArgs false

/-! ### bits_Mul32: function 57 -/
def bits_Mul32.f (a0 : Int) (a1 : Int) : Option (Int × Int) := some (((IntKind.u64.wrap ((IntKind.u64.wrap (a0)) * (IntKind.u64.wrap (a1)))) / 4294967296) % 4294967296, (IntKind.u64.wrap ((IntKind.u64.wrap (a0)) * (IntKind.u64.wrap (a1)))) % 4294967296)
set_option maxHeartbeats 8000000 in
set_option maxRecDepth 100000 in
theorem bits_Mul32.calls (a0 : Int) (a1 : Int) (r1 : Int) (r2 : Int) (w : World) (h : bits_Mul32.f a0 a1 = some (r1, r2)) :
 Calls Try.prog 57 #[.int .u32 a0, .int .u32 a1] w fun e w' => e = .returned (.tuple #[.int .u32 r1, .int .u32 r2]) ∧ Drawn0 w w' := by
 have H : (some (((IntKind.u64.wrap ((IntKind.u64.wrap (a0)) * (IntKind.u64.wrap (a1)))) / 4294967296) % 4294967296, (IntKind.u64.wrap ((IntKind.u64.wrap (a0)) * (IntKind.u64.wrap (a1)))) % 4294967296)) = some (r1, r2) := h
 clear h
 simp only [Option.some.injEq, Prod.mk.injEq] at H
 obtain ⟨rfl, rfl⟩ := H
 go_enter Try.func57, Try.ntmps57
 go_wp2
 go_ret2
 exact ⟨by first | rfl | (simp; done) | (simp [*]; done), by repeat (first | exact Drawn0.refl _ | apply Drawn0.step)⟩

/-! ### bits_Mul64: function 58 -/
def bits_Mul64.f (a0 : Int) (a1 : Int) : Option (Int × Int) := some (IntKind.u64.wrap ((IntKind.u64.wrap ((IntKind.u64.wrap ((a0 / 4294967296) * (a1 / 4294967296))) + ((IntKind.u64.wrap ((IntKind.u64.wrap ((a0 / 4294967296) * (Go.bits .and .u64 a1 4294967295))) + ((IntKind.u64.wrap ((Go.bits .and .u64 a0 4294967295) * (Go.bits .and .u64 a1 4294967295))) / 4294967296))) / 4294967296))) + ((IntKind.u64.wrap ((Go.bits .and .u64 (IntKind.u64.wrap ((IntKind.u64.wrap ((a0 / 4294967296) * (Go.bits .and .u64 a1 4294967295))) + ((IntKind.u64.wrap ((Go.bits .and .u64 a0 4294967295) * (Go.bits .and .u64 a1 4294967295))) / 4294967296))) 4294967295) + (IntKind.u64.wrap ((Go.bits .and .u64 a0 4294967295) * (a1 / 4294967296))))) / 4294967296)), IntKind.u64.wrap (a0 * a1))
set_option maxHeartbeats 8000000 in
set_option maxRecDepth 100000 in
theorem bits_Mul64.calls (a0 : Int) (a1 : Int) (r1 : Int) (r2 : Int) (w : World) (h : bits_Mul64.f a0 a1 = some (r1, r2)) :
 Calls Try.prog 58 #[.int .u64 a0, .int .u64 a1] w fun e w' => e = .returned (.tuple #[.int .u64 r1, .int .u64 r2]) ∧ Drawn0 w w' := by
 have H : (some (IntKind.u64.wrap ((IntKind.u64.wrap ((IntKind.u64.wrap ((a0 / 4294967296) * (a1 / 4294967296))) + ((IntKind.u64.wrap ((IntKind.u64.wrap ((a0 / 4294967296) * (Go.bits .and .u64 a1 4294967295))) + ((IntKind.u64.wrap ((Go.bits .and .u64 a0 4294967295) * (Go.bits .and .u64 a1 4294967295))) / 4294967296))) / 4294967296))) + ((IntKind.u64.wrap ((Go.bits .and .u64 (IntKind.u64.wrap ((IntKind.u64.wrap ((a0 / 4294967296) * (Go.bits .and .u64 a1 4294967295))) + ((IntKind.u64.wrap ((Go.bits .and .u64 a0 4294967295) * (Go.bits .and .u64 a1 4294967295))) / 4294967296))) 4294967295) + (IntKind.u64.wrap ((Go.bits .and .u64 a0 4294967295) * (a1 / 4294967296))))) / 4294967296)), IntKind.u64.wrap (a0 * a1))) = some (r1, r2) := h
 clear h
 simp only [Option.some.injEq, Prod.mk.injEq] at H
 obtain ⟨rfl, rfl⟩ := H
 go_enter Try.func58, Try.ntmps58
 go_wp2
 go_ret2
 exact ⟨by first | rfl | (simp; done) | (simp [*]; done), by repeat (first | exact Drawn0.refl _ | apply Drawn0.step)⟩

/-! ### bits_Mul: function 56 -/
def bits_Mul.f (a0 : Int) (a1 : Int) : Option (Int × Int) := (bits_Mul64.f a0 a1).bind fun bt101 => (some (bt101.1, bt101.2))
set_option maxHeartbeats 8000000 in
set_option maxRecDepth 100000 in
theorem bits_Mul.calls (a0 : Int) (a1 : Int) (r1 : Int) (r2 : Int) (w : World) (h : bits_Mul.f a0 a1 = some (r1, r2)) :
 Calls Try.prog 56 #[.int .u64 a0, .int .u64 a1] w fun e w' => e = .returned (.tuple #[.int .u64 r1, .int .u64 r2]) ∧ Drawn0 w w' := by
 have H : ((bits_Mul64.f a0 a1).bind fun bt101 => (some (bt101.1, bt101.2))) = some (r1, r2) := h
 clear h
 replace H := Option.bind_eq_some_iff.mp H
 obtain ⟨⟨t101, t102⟩, A30, H⟩ := H
 replace H : (some (t101, t102)) = some (r1, r2) := H
 have A3 := Aside0.mk A30
 clear A30
 simp only [Option.some.injEq, Prod.mk.injEq] at H
 obtain ⟨rfl, rfl⟩ := H
 go_enter Try.func56, Try.ntmps56
 go_wp2_with (first | ((with_reducible refine gate_callee (f := 58) rfl ?_); refine goesL_ (some 25) rfl rfl Try.func58 (by kernel_rfl) rfl #[.int .u64 a0, .int .u64 a1] rfl (by (try simp only [List.map_toArray, List.map_cons, List.map_nil]); first | done | rfl | (simp only [List.length_drop, List.length_take]; rfl)) ?_; (with_reducible refine (bits_Mul64.calls a0 a1 t101 t102 _ A3.out).mono ?_); rintro e w' ⟨rfl, ⟨nd, rfl⟩⟩; refine ⟨_, rfl, ?_⟩))
 go_ret2
 exact ⟨by first | rfl | (simp; done) | (simp [*]; done), by repeat (first | exact Drawn0.refl _ | apply Drawn0.step)⟩

/-! ### slices_Repeat_int_int: function 55 -/
theorem Mul_small (m : Int) (h : 0 ≤ m) (h2 : m ≤ 32) : bits_Mul.f 1 m = some (0, m) := by
  unfold bits_Mul.f bits_Mul64.f
  have : ∀ k : Fin 33, (bits_Mul.f 1 (k : Nat)) = some (0, ((k : Nat) : Int)) := by decide +kernel
  have := this ⟨m.toNat, by omega⟩
  simp only [Int.toNat_of_nonneg h] at this
  exact this
theorem made0 (m : Nat) (z : Value) : madeCells #[z] (m * 1) = (List.replicate m z).toArray := by
  unfold madeCells
  apply Array.ext
  · simp
  · intro i h1 h2
    simp [Nat.mod_one]
theorem splice_rep {v z : Value} {m k c : Nat} (h : k + c ≤ m) : splice (List.replicate k v ++ List.replicate (m - k) z) k (List.replicate c v) = List.replicate (k + c) v ++ List.replicate (m - (k + c)) z := by
  unfold splice
  rw [List.take_append_of_le_length (by simp), List.take_of_length_le (by simp), List.drop_append]
  simp only [List.length_replicate, List.drop_replicate, ← List.append_assoc, List.replicate_append_replicate]
  rw [show k - (k + c) = 0 by omega, show m - k - (k + c - k) = m - (k + c) by omega]
  simp
set_option maxHeartbeats 400000 in
set_option maxRecDepth 100000 in
theorem Repeat_ok (v : Int) (m : Nat) (hm : 1 ≤ m) (hm2 : m ≤ 32) (b : Nat) (w : World) (hx : w.heap[b]? = some (.cells #[.int .i64 v] 3 (0, 0))) :
    Calls Try.prog 55 #[.slice (some ⟨b, 0, none⟩) 1 1, .int .i64 m] w fun e W => ∃ g, e = .returned (.slice (some ⟨g, 0, none⟩) m m) ∧ w.heap.size ≤ g ∧ W.heap[g]? = some (.cells (List.replicate m (.int .i64 v)).toArray 3 (0, 0)) ∧ Below w.heap.size w W := by
  have hu22 := Try.underlying22
  obtain ⟨i3, hi3, hz3, hs3, hb3⟩ := info_parts info3
  have hmk := fun W : World => run_makeSlice (P := Try.prog) W 22 3 i3 (.int .i64 0) hu22 hi3 hz3 .i64 .i64 (m : Int) (m : Int) (by omega) (by omega) (by rw [hs3]; omega) (by rw [hb3]; omega) (by omega)
  rw [hs3] at hmk
  simp only [Int.toNat_natCast, Value.cells, made0] at hmk
  have hMul := fun W => bits_Mul.calls 1 (m : Int) 0 m W (Mul_small m (by omega) (by omega))
  have hw1 : IntKind.u64.wrap (m : Int) = m := by rw [IntKind.wrap_u64]; omega
  have hw2 : IntKind.i64.wrap (m : Int) = m := by rw [IntKind.wrap_i64]; omega
  go_enter Try.func55, Try.ntmps55
  go_upto_region 7 with (fail)
  refine (hMul _).mono ?_
  rintro e w1 ⟨rfl, hb1⟩
  have HB1 := Aside0.mk (Drawn0.below hb1)
  have HX1 := Aside0.mk (blk_below hx (Drawn0.below hb1))
  clear hb1
  go_upto_region 7 with (fail)
  have hG0 := Aside0.mk (blk_new w1 (.cells (Array.replicate m (.int .i64 0)) 3))
  have hX2 := Aside0.mk (blk_alloc HX1.out (.cells (Array.replicate m (.int .i64 0)) 3))
  have hB2 := Aside0.mk (below_alloc HB1.out (.cells (Array.replicate m (.int .i64 0)) 3))
  have hgl : w.heap.size ≤ w1.heap.size := HB1.out.size
  generalize (w1.alloc (.cells (Array.replicate m (.int .i64 0)) 3)) = w2 at *
  generalize w1.heap.size = g at *
  replace hG0 := Aside0.mk (show w2.heap[g]? = some (.cells (List.replicate m (.int .i64 0)).toArray 3 (0, 0)) by rw [List.toArray_replicate]; exact hG0.out)
  have hbl := blk_lt hx
  clear HB1 HX1 hmk hMul hx
  go_wp2_with (first
    | ((with_reducible refine gate_builtin (b := .copy) (xs := #[.tmp 31, .tmp 32]) rfl ?_); refine wpList_copy_splice rfl _ _ 22 22 rfl 3 hu22 (by rw [hi3]; simp [hs3]) _ _ _ _ _ _ rfl rfl g 0 (List.replicate m (.int .i64 0)) 3 hG0.out [.int .i64 v] (by show 1 = min 1 m; omega) (fun _ => ⟨rfl, _, rfl, ?hs⟩) (by simp; omega) (by simp [Value.oneCell']) w.heap.size w hB2.out hgl ?hk; (case hs => (intro j u hj; match j, hj with | 0, hj => (simp at hj; subst hj; exact (blk_cell hX2.out 0).trans rfl))); intro w3 hG3 hB3)
    )
  replace hG3 := Aside0.mk (show w3.heap[g]? = some (.cells (List.replicate 1 (Value.int .i64 v) ++ List.replicate (m - 1) (Value.int .i64 0)).toArray 3 (0, 0)) by
    have h := hG3.out; rw [show splice (List.replicate m (Value.int .i64 0)) 0 [.int .i64 v] = _ from splice_rep (k := 0) (c := 1) (v := .int .i64 v) (z := .int .i64 0) (m := m) (by omega)] at h; simpa using h)
  replace hB3 := Aside0.mk hB3
  clear hG0 hX2 hB2
  go_loopw [8] (fun n8 wr => ∃ k : Nat, 1 ≤ k ∧ k ≤ m ∧ n8 = .int .i64 k ∧ Aside0 (wr.heap[g]? = some (.cells (List.replicate k (Value.int .i64 v) ++ List.replicate (m - k) (Value.int .i64 0)).toArray 3 (0, 0))) ∧ Aside0 (Below w.heap.size w wr)) (fun n8 _ => m - (intOf n8).toNat)
  case atStart => exact ⟨1, by omega, hm, rfl, hG3, hB3⟩
  case round =>
    obtain ⟨k, hk1, hkm, rfl, hGr, hBr⟩ := hrel
    by_cases hlt : k < m
    · have hd : decide ((k : Int) < (m : Int)) = true := by simpa using hlt
      go_upto_region 9 with (fail)
      obtain ⟨c, hc⟩ : ∃ c, c = min k (m - k) := ⟨_, rfl⟩
      have hne : ¬ (m = k) := by omega
      have hpos : ∀ W : World, W.heap[g]? = some (.cells (List.replicate k (Value.int .i64 v) ++ List.replicate (m - k) (Value.int .i64 0)).toArray 3 (0, 0)) → ∀ j u, (List.replicate c (Value.int .i64 v))[j]? = some u → W.cell? ((⟨g, 0, none⟩ : Addr).add j) = some u := by
        intro W hW j u hj
        rw [List.getElem?_replicate] at hj
        split at hj
        · have := Option.some.inj hj; subst this
          rw [Addr.add_mid, Nat.zero_add]
          refine (blk_cell hW j).trans ?_
          rw [List.getElem?_toArray, List.getElem?_append_left (by simp; omega), List.getElem?_replicate, if_pos (by omega)]
        · cases hj
      have hcn : (List.replicate c (Value.int .i64 v)).length = Nat.min k (m - k) := by rw [List.length_replicate]; exact hc
      have hfit : k + (List.replicate c (Value.int .i64 v)).length ≤ (List.replicate k (Value.int .i64 v) ++ List.replicate (m - k) (Value.int .i64 0)).length := by simp; omega
      have h1c : ∀ u ∈ List.replicate c (Value.int .i64 v), u.oneCell' = true := by intro u hu; rw [(List.mem_replicate.1 hu).2]; rfl
      go_region_law (refine step_copy_splice rfl (.tmp 41) (.tmp 44) 22 22 rfl 3 hu22 (by rw [hi3]; simp [hs3]) (some ⟨g, k, none⟩) (some ⟨g, 0, none⟩) (m - k) (m - k) k m (by simp [Act.eval, Act.put]; done) (by simp [Act.eval, Act.put]; done) g k (List.replicate k (Value.int .i64 v) ++ List.replicate (m - k) (Value.int .i64 0)) 3 hGr.out (List.replicate c (Value.int .i64 v)) hcn (fun _ => ⟨rfl, _, rfl, hpos _ hGr.out⟩) hfit h1c w.heap.size w (show Below w.heap.size w wr.drew by first | exact below_drew1 hBr.out | exact hBr.out) hgl ?_; intro w4 hG4 hB4; rw [List.length_replicate])
      have hw4 : IntKind.i64.wrap ((k : Int) + ((min k (m - k) : Nat) : Int)) = ((k + c : Nat) : Int) := by rw [← hc, IntKind.wrap_i64]; omega
      have hG5 := Aside0.mk (show w4.heap[g]? = some (.cells (List.replicate (k + c) (Value.int .i64 v) ++ List.replicate (m - (k + c)) (Value.int .i64 0)).toArray 3 (0, 0)) by rw [← splice_rep (by omega)]; exact hG4.out)
      replace hB4 := Aside0.mk hB4
      clear hG4
      simp only [List.getElem_toArray, List.getElem_cons_succ, List.getElem_cons_zero, Act.put, List.setIfInBounds_toArray, List.set_cons_zero, List.set_cons_succ]
      rw [hw4]
      go_wp2
      go_roundw
      case rel => exact ⟨k + c, by omega, by omega, rfl, hG5, hB4⟩
      case measure => simp [intOf]; omega
    · have hd : decide ((k : Int) < (m : Int)) = false := by simpa using hlt
      obtain rfl : k = m := by omega
      go_wp2
      go_ret
      refine ⟨g, rfl, hgl, ?_, hBr.out⟩
      have := hGr.out
      simpa using this

/-! ### meter_groups: function 53 -/
/-- Blocks of whole numbers, and of a meter, are kept. -/
def TK (X Y : World) : Prop := ∀ (k : Nat) (cs : Array Value) (t : TypeId) (fr : Nat × Nat), X.heap[k]? = some (.cells cs t fr) → (t = 3 ∨ t = 24) → Y.heap[k]? = some (.cells cs t fr)
def KM (B : Nat) (X Y : World) : Prop := X.heap.size ≤ Y.heap.size ∧ (B ≤ X.heap.size → Below B X Y) ∧ TK X Y
theorem KM.trans {B : Nat} {X Y Z : World} (h : KM B X Y) (k : KM B Y Z) : KM B X Z :=
  ⟨Nat.le_trans h.1 k.1, fun hB => (h.2.1 hB).trans (k.2.1 (Nat.le_trans hB h.1)), fun i cs t fr hi ht => k.2.2 i cs t fr (h.2.2 i cs t fr hi ht) ht⟩
theorem KM.of_below {B : Nat} {X Y : World} (h : Below X.heap.size X Y) : KM B X Y :=
  ⟨h.size, fun hB => h.mono hB, fun k cs t fr hk _ => (h.block k ((Array.getElem?_eq_some_iff.1 hk).1)).trans hk⟩
theorem KM.putObj {B : Nat} {w : World} (hB : B ≤ w.heap.size) (W : World) (l : Nat) (o o' : Obj) (hl : w.heap.size ≤ l) (h : W.heap[l]? = some o) (hc : o.isCells = false) (hw : o.isWalk = false) : KM B W (W.putObj l o') := by
  refine ⟨by simp, fun _ => belowK_b hB W l o o' hl h hc hw, fun k cs t fr hk _ => ?_⟩
  by_cases e : k = l
  · subst e; rw [h] at hk; cases hk; cases hc
  · exact (World.putObj_heap_other e).trans hk
/-- How many parts stand together. -/
def grp (n d : Int) (l : List Int) : List Int := if 0 < l.length then l else if 3 < n ∧ n % 3 = 0 ∧ 8 ≤ d then List.replicate (n / 3).toNat 3 else List.replicate n.toNat 1
theorem C_rep {W : World} {g m : Nat} {v : Int} {t : TypeId} (hm : m ≤ 1000) (h : W.heap[g]? = some (.cells (List.replicate m (.int .i64 v)).toArray t (0, 0))) : Kd.C (Kd.int .i64) W (some ⟨g, 0, none⟩) (List.replicate m v).length (List.replicate m v) := by
  refine Kd.C_of_reads (enc := Value.int .i64) (d := (0 : Int)) (h1 := fun _ => rfl) ⟨rfl, by simp; omega, fun _ => ⟨_, rfl, fun j hj => ?_⟩⟩
  rw [List.length_replicate] at hj
  rw [Addr.add_mid, Nat.zero_add]
  refine (blk_cell h j).trans ?_
  rw [List.getElem?_toArray, List.getElem?_replicate, if_pos hj]
  simp [List.getD, hj]
set_option maxHeartbeats 4000000 in
set_option maxRecDepth 100000 in
theorem groups_ok (n d : Int) (A : Option Addr) (c : Nat) (l : List Int) (w0 w : World) (hn : 1 ≤ n) (hn2 : n ≤ 32) (hr : Kd.C (Kd.int .i64) w0 A l.length l) (hc : l.length ≤ c) (hB : Below w0.heap.size w0 w) :
    Calls Try.prog 53 #[.agg #[.int .i64 n, .int .i64 d, .slice A l.length c]] w fun e W' => ∃ A c, e = .returned (.slice A (grp n d l).length c) ∧ (∀ W2, KM w0.heap.size W' W2 → Kd.C (Kd.int .i64) W2 A (grp n d l).length (grp n d l)) ∧ Below w.heap.size w W' := by
  have hu22 := Try.underlying22
  have hu24 := Try.underlying24
  have hB1 := below_alloc (Below.refl w.heap.size w) (.cells #[.int .i64 n, .int .i64 d, .slice A l.length c] 24)
  by_cases h0 : 0 < l.length
  · go_enter Try.func53, Try.ntmps53
    have hd : decide (0 < (l.length : Int)) = true := by simpa using h0
    have hG : grp n d l = l := by unfold grp; rw [if_pos h0]
    go_wp2
    go_ret
    rw [hG]
    exact ⟨A, c, rfl, fun W2 hk => Kd.C_below hr ((hB.trans (hB1.mono hB.size)).trans (hk.2.1 (Nat.le_trans hB.size hB1.size))), hB1⟩
  · have hl : l = [] := List.eq_nil_of_length_eq_zero (by omega)
    subst hl
    obtain ⟨N, rfl⟩ : ∃ N : Nat, n = N := ⟨n.toNat, by omega⟩
    have hX (v : Int) : ((w.alloc (.cells #[.int .i64 N, .int .i64 d, .slice A 0 c] 24)).alloc (.cells #[.int .i64 v] 3)).heap[w.heap.size + 1]? = some (.cells #[.int .i64 v] 3 (0, 0)) := by
      have := blk_new (w.alloc (.cells #[.int .i64 N, .int .i64 d, .slice A 0 c] 24)) (.cells #[.int .i64 v] 3)
      rwa [World.size_alloc] at this
    have hfin (v : Int) (m : Nat) (hm : m ≤ 32) (hG : grp N d [] = List.replicate m v) (g : Nat) (W' : World) (hg : ((w.alloc (.cells #[.int .i64 N, .int .i64 d, .slice A 0 c] 24)).alloc (.cells #[.int .i64 v] 3)).heap.size ≤ g) (hW : W'.heap[g]? = some (.cells (List.replicate m (.int .i64 v)).toArray 3 (0, 0))) (hb : Below ((w.alloc (.cells #[.int .i64 N, .int .i64 d, .slice A 0 c] 24)).alloc (.cells #[.int .i64 v] 3)).heap.size ((w.alloc (.cells #[.int .i64 N, .int .i64 d, .slice A 0 c] 24)).alloc (.cells #[.int .i64 v] 3)) W') :
        ∃ A' c', (Value.slice (some ⟨g, 0, none⟩) m m) = .slice A' (grp N d []).length c' ∧ (∀ W2, KM w0.heap.size W' W2 → Kd.C (Kd.int .i64) W2 A' (grp N d []).length (grp N d [])) ∧ Below w.heap.size w W' := by
      rw [hG]
      refine ⟨some ⟨g, 0, none⟩, m, by rw [List.length_replicate], fun W2 hk => C_rep (by omega) (hk.2.2 _ _ _ _ hW (.inl rfl)), ?_⟩
      exact (below_alloc (below_alloc (Below.refl _ _) _) _).trans (hb.mono (by simp; omega))
    by_cases h3 : 3 < (N : Int) ∧ (N : Int) % 3 = 0 ∧ 8 ≤ d
    · have hG : grp N d [] = List.replicate (N / 3) 3 := by unfold grp; rw [if_neg (by simp), if_pos h3]; congr 1
      have hf := hfin 3 (N / 3) (by omega) hG
      obtain ⟨e1, e2, e3⟩ := h3
      have hC := Repeat_ok 3 (N / 3) (by omega) (by omega) (w.heap.size + 1) _ (hX 3)
      clear hX hfin hr
      go_enter Try.func53, Try.ntmps53
      go_wp2_with (first | (go_at_call 55; refine hC.mono ?_; rintro e W' ⟨g, rfl, hg, hW, hb⟩; clear hC))
      go_ret
      exact Exists.elim (hf g W' hg hW hb) fun A' h => Exists.elim h fun c' h => ⟨A', c', congrArg Ending.returned h.1, h.2⟩
    · have hG : grp N d [] = List.replicate N 1 := by unfold grp; rw [if_neg (by simp), if_neg h3]; congr 1
      have hf := hfin 1 N (by omega) hG
      have hC := Repeat_ok 1 N (by omega) (by omega) (w.heap.size + 1) _ (hX 1)
      clear hX hfin hr
      go_enter Try.func53, Try.ntmps53
      go_wp2_with (first | (go_at_call 55; refine hC.mono ?_; rintro e W' ⟨g, rfl, hg, hW, hb⟩))
      all_goals go_ret
      all_goals exact Exists.elim (hf g W' hg hW hb) fun A' h => Exists.elim h fun c' h => ⟨A', c', congrArg Ending.returned h.1, h.2⟩

/-! ### ratio_abs: function 44 -/
def absU (a : Int) : Int := if a < 0 then IntKind.u64.wrap (-(IntKind.u64.wrap a)) else IntKind.u64.wrap a
def ratio_abs.f (a0 : Int) : Option Int := some (absU a0)
theorem ratio_abs.calls (a0 : Int) (r : Int) (w : World) (h : ratio_abs.f a0 = some r) :
    Calls Try.prog 44 #[.int .i64 a0] w fun e w' => e = .returned (.int .u64 r) ∧ Drawn0 w w' := by
  obtain rfl := Option.some.inj h
  unfold absU
  by_cases c2 : a0 < 0
  · rw [if_pos c2]
    have c2b0 : decide (a0 < 0) = true := decide_eq_true c2
    clear c2 h
    go_enter Try.func44, Try.ntmps44
    go_wp2
    go_ret
    exact ⟨rfl, Drawn0.refl _⟩
  · rw [if_neg c2]
    have c2b0 : decide (a0 < 0) = false := decide_eq_false c2
    clear c2 h
    go_enter Try.func44, Try.ntmps44
    go_wp2
    go_ret
    exact ⟨rfl, Drawn0.refl _⟩

/-! ### ratio_common: function 45 -/
def ratio_common.f (a0 a1 : Int) : Option Int := if 0 ≤ a0 ∧ 0 ≤ a1 then some (Int.gcd a0 a1) else none
theorem gcd_step {a b : Int} (ha : 0 ≤ a) (hb : 0 ≤ b) : (Int.gcd b (a % b) : Int) = Int.gcd a b := by
  obtain ⟨m, rfl⟩ := Int.eq_ofNat_of_zero_le ha
  obtain ⟨n, rfl⟩ := Int.eq_ofNat_of_zero_le hb
  rw [← Int.natCast_emod]
  simp only [Int.gcd_natCast_natCast]
  rw [Nat.gcd_comm m n, Nat.gcd_rec n m, Nat.gcd_comm]
set_option maxHeartbeats 400000 in
theorem ratio_common.go (n : Nat) : ∀ (a0 a1 : Int) (w : World), 0 ≤ a0 → 0 ≤ a1 → a1 < n →
    Calls Try.prog 45 #[.int .u64 a0, .int .u64 a1] w fun e w' => e = .returned (.int .u64 (Int.gcd a0 a1)) ∧ Drawn0 w w' := by
  induction n with
  | zero => intro a0 a1 w h0 h1 h2; omega
  | succ n ih =>
    intro a0 a1 w h0 h1 h2
    by_cases c : a1 = 0
    · subst c
      have hg : ((Int.gcd a0 0 : Nat) : Int) = a0 := by simp; omega
      rw [hg]
      clear hg ih
      go_enter Try.func45, Try.ntmps45
      go_wp2
      go_ret
      exact ⟨rfl, Drawn0.refl _⟩
    · rw [← gcd_step h0 h1]
      have hlt : a0 % a1 < n := by have := Int.emod_lt_of_pos a0 (show 0 < a1 by omega); omega
      have hge : 0 ≤ a0 % a1 := Int.emod_nonneg _ c
      have c3b0 : (a1 == 0) = false := beq_eq_false_iff_ne.mpr c
      have c3b1 : (a1 != 0) = true := bne_iff_ne.mpr c
      have IH := ih a1 ((a0 % a1))
      generalize hr : (Int.gcd a1 ((a0 % a1)) : Int) = r
      rw [hr] at IH
      have IH2 := Aside0.mk IH
      clear IH ih hr
      go_enter Try.func45, Try.ntmps45
      go_wp2_with (go_at_call 45; (with_reducible refine (IH2.out _ h1 hge hlt).mono ?_); rintro e w' ⟨rfl, ⟨nd, rfl⟩⟩)
      go_ret
      exact ⟨rfl, _, rfl⟩
theorem ratio_common.calls (a0 a1 : Int) (r : Int) (w : World) (h : ratio_common.f a0 a1 = some r) :
    Calls Try.prog 45 #[.int .u64 a0, .int .u64 a1] w fun e w' => e = .returned (.int .u64 r) ∧ Drawn0 w w' := by
  unfold ratio_common.f at h
  split at h
  next hc => obtain rfl := Option.some.inj h; exact ratio_common.go (a1.toNat + 1) a0 a1 w hc.1 hc.2 (by omega)
  next => cases h


/-! ### ratio_Right: function 38 -/
theorem absU_nonneg (a : Int) : 0 ≤ absU a := by
  have h : ∀ x, 0 ≤ IntKind.u64.wrap x := fun x => by simp only [IntKind.wrap]; simp [IntKind.signed, IntKind.bits]; omega
  unfold absU; split <;> exact h _
def rightB (n d : Int) : Bool := decide (1 ≤ d) && (decide (mx (absU n) (absU d) ≤ 1000000000) && ((Int.gcd (absU n) (absU d) : Int) == 1))
theorem abs_q (a0 : Int) (w : World) (n : Nat) : Calls Try.prog 44 #[.int .i64 a0] (w.drewN n) fun e w' => e = .returned (.int .u64 (absU a0)) ∧ ∃ m, w' = w.drewN m := by
  refine (ratio_abs.calls a0 _ _ rfl).mono ?_
  rintro e w' ⟨rfl, ⟨m, rfl⟩⟩
  exact ⟨rfl, _, World.drewN_drewN _ _ _⟩
theorem common_q (a0 a1 : Int) (w : World) (n : Nat) (h0 : 0 ≤ a0) (h1 : 0 ≤ a1) : Calls Try.prog 45 #[.int .u64 a0, .int .u64 a1] (w.drewN n) fun e w' => e = .returned (.int .u64 (Int.gcd a0 a1)) ∧ ∃ m, w' = w.drewN m := by
  refine (ratio_common.calls a0 a1 _ _ (by unfold ratio_common.f; rw [if_pos ⟨h0, h1⟩])).mono ?_
  rintro e w' ⟨rfl, ⟨m, rfl⟩⟩
  exact ⟨rfl, _, World.drewN_drewN _ _ _⟩
set_option maxHeartbeats 1000000 in
set_option maxRecDepth 100000 in
theorem ratio_Right.any (a b : Int) (w : World) :
    Calls Try.prog 38 #[.agg #[.int .i64 a, .int .i64 b]] w fun e w' => e = .returned (.bool (rightB a b)) ∧ Below w.heap.size w w' := by
  unfold rightB
  have ha := absU_nonneg a
  have hb := absU_nonneg b
  have HB := Aside0.mk (Below.refl w.heap.size w)
  by_cases c1 : 1 ≤ b
  · have d1 : decide (1 ≤ b) = true := decide_eq_true c1
    rw [d1, Bool.true_and]
    clear c1
    by_cases c2 : mx (absU a) (absU b) ≤ 1000000000
    · have c3 : decide ((if absU a < absU b then absU b else absU a) ≤ 1000000000) = true := decide_eq_true c2
      rw [decide_eq_true c2, Bool.true_and]
      clear c2
      go_enter Try.func38, Try.ntmps38
      go_wp2
      go_quiet (first | (go_at_call 44; exact abs_q _ _ _) | (go_at_call 45; exact common_q _ _ _ _ (by assumption) (by assumption)))
      go_wp2
      all_goals
        go_ret
        exact ⟨rfl, by repeat (first | exact HB.out | apply below_alloc | apply pw_below_drewN)⟩
    · have c3 : decide ((if absU a < absU b then absU b else absU a) ≤ 1000000000) = false := decide_eq_false c2
      rw [decide_eq_false c2, Bool.false_and]
      clear c2
      go_enter Try.func38, Try.ntmps38
      go_wp2
      go_quiet (first | (go_at_call 44; exact abs_q _ _ _) | (go_at_call 45; exact common_q _ _ _ _ (by assumption) (by assumption)))
      go_wp2
      all_goals
        go_ret
        exact ⟨rfl, by repeat (first | exact HB.out | apply below_alloc | apply pw_below_drewN)⟩
  · have d1 : decide (1 ≤ b) = false := decide_eq_false c1
    rw [d1, Bool.false_and]
    clear c1
    go_enter Try.func38, Try.ntmps38
    go_wp2
    go_quiet (fail)
    go_wp2
    go_ret
    exact ⟨rfl, by repeat (first | exact HB.out | apply below_alloc | apply pw_below_drewN)⟩
def ratio_Right.f (a0_0 a0_1 : Int) : Option Bool := some (rightB a0_0 a0_1)
theorem ratio_Right.calls (a b : Int) (r : Bool) (w : World) (h : ratio_Right.f a b = some r) :
    Calls Try.prog 38 #[.agg #[.int .i64 a, .int .i64 b]] w fun e w' => e = .returned (.bool r) ∧ Below w.heap.size w w' := by
  obtain rfl := Option.some.inj h
  exact ratio_Right.any a b w
theorem Right_eq {a b : Int} {x : Bool} (h : rightB a b = x) (w : World) :
    Calls Try.prog 38 #[.agg #[.int .i64 a, .int .i64 b]] w fun e w' => e = .returned (.bool x) ∧ Below w.heap.size w w' := h ▸ ratio_Right.any a b w

/-! ### ratio_Compare: function 31 -/
def cmpD (a b c d : Int) : Int := wrap64 (wrap64 (a * d) - wrap64 (c * b))
def cmpI (a b c d : Int) : Int := if (rightB a b && (rightB c d && !(cmpD a b c d == 0))) = true then (if cmpD a b c d < 0 then -1 else 1) else 0
def ratio_Compare.f (a b c d : Int) : Option Int := some (cmpI a b c d)
theorem bcell {W w1 : World} (hb : Below W.heap.size W w1) : (∀ b o, b < W.heap.size → w1.cell? ⟨b, o, none⟩ = W.cell? ⟨b, o, none⟩) ∧ (∀ b o, b < W.heap.size → w1.frozen? ⟨b, o, none⟩ = W.frozen? ⟨b, o, none⟩) :=
  ⟨fun b o h => hb.cell (p := ⟨b, o, none⟩) h, fun b o h => hb.frozen (p := ⟨b, o, none⟩) h⟩
set_option maxHeartbeats 1000000 in
set_option maxRecDepth 100000 in
theorem ratio_Compare.calls (a b c d r : Int) (w : World) (h : ratio_Compare.f a b c d = some r) :
    Calls Try.prog 31 #[.agg #[.int .i64 a, .int .i64 b], .agg #[.int .i64 c, .int .i64 d]] w fun e w' => e = .returned (.int .i64 r) ∧ Below w.heap.size w w' := by
  have h0 : cmpI a b c d = r := Option.some.inj h
  unfold cmpI cmpD at h0
  clear h
  have HB := Aside0.mk (Below.refl w.heap.size w)
  by_cases h1 : rightB a b = true
  · rw [h1, Bool.true_and] at h0
    have R := Aside0.mk (Right_eq h1)
    clear h1
    by_cases h2 : rightB c d = true
    · rw [h2, Bool.true_and] at h0
      have RR := Aside0.mk (Right_eq h2)
      clear h2
      generalize hE : wrap64 (wrap64 (a * d) - wrap64 (c * b)) = E at h0
      by_cases h3 : E = 0
      · have e1 : (E == 0) = true := beq_iff_eq.mpr h3
        rw [e1, if_neg (by decide)] at h0
        have HE := Aside0.mk (hE.trans h3)
        subst h0
        clear h3 e1 hE
        go_enter Try.func31, Try.ntmps31
        go_wp2_with (first | (go_at_call 38; (with_reducible refine (R.out _).mono ?_); rintro e w1 ⟨rfl, hb⟩; obtain ⟨hc1, hf1⟩ := bcell hb; rw [HE.out]) | (go_at_call 38; (with_reducible refine (RR.out _).mono ?_); rintro e w2 ⟨rfl, hb2⟩))
        go_ret
        exact ⟨rfl, ((by repeat (first | exact HB.out | apply below_alloc) : Below w.heap.size w _).trans (hb.mono (by simp; omega))).trans (hb2.mono (by have := hb.size; simp at this; omega))⟩
      · have e1 : (E == 0) = false := beq_eq_false_iff_ne.mpr h3
        rw [e1, if_pos (by decide)] at h0
        have HE := Aside0.mk hE
        clear hE h3
        by_cases h4 : E < 0
        · have e4 : decide (E < 0) = true := decide_eq_true h4
          rw [if_pos h4] at h0
          subst h0
          clear h4
          go_enter Try.func31, Try.ntmps31
          go_wp2_with (first | (go_at_call 38; (with_reducible refine (R.out _).mono ?_); rintro e w1 ⟨rfl, hb⟩; obtain ⟨hc1, hf1⟩ := bcell hb; rw [HE.out]) | (go_at_call 38; (with_reducible refine (RR.out _).mono ?_); rintro e w2 ⟨rfl, hb2⟩))
          go_ret
          exact ⟨rfl, ((by repeat (first | exact HB.out | apply below_alloc) : Below w.heap.size w _).trans (hb.mono (by simp; omega))).trans (hb2.mono (by have := hb.size; simp at this; omega))⟩
        · have e4 : decide (E < 0) = false := decide_eq_false h4
          rw [if_neg h4] at h0
          subst h0
          clear h4
          go_enter Try.func31, Try.ntmps31
          go_wp2_with (first | (go_at_call 38; (with_reducible refine (R.out _).mono ?_); rintro e w1 ⟨rfl, hb⟩; obtain ⟨hc1, hf1⟩ := bcell hb; rw [HE.out]) | (go_at_call 38; (with_reducible refine (RR.out _).mono ?_); rintro e w2 ⟨rfl, hb2⟩))
          go_ret
          exact ⟨rfl, ((by repeat (first | exact HB.out | apply below_alloc) : Below w.heap.size w _).trans (hb.mono (by simp; omega))).trans (hb2.mono (by have := hb.size; simp at this; omega))⟩
    · replace h2 := Bool.eq_false_iff.mpr h2
      rw [h2, Bool.false_and, if_neg (by decide)] at h0
      have RR := Aside0.mk (Right_eq h2)
      subst h0
      clear h2
      go_enter Try.func31, Try.ntmps31
      go_wp2_with (first | (go_at_call 38; (with_reducible refine (R.out _).mono ?_); rintro e w1 ⟨rfl, hb⟩; obtain ⟨hc1, hf1⟩ := bcell hb) | (go_at_call 38; (with_reducible refine (RR.out _).mono ?_); rintro e w2 ⟨rfl, hb2⟩))
      go_ret
      exact ⟨rfl, ((by repeat (first | exact HB.out | apply below_alloc) : Below w.heap.size w _).trans (hb.mono (by simp; omega))).trans (hb2.mono (by have := hb.size; simp at this; omega))⟩
  · replace h1 := Bool.eq_false_iff.mpr h1
    rw [h1, Bool.false_and, if_neg (by decide)] at h0
    have R := Aside0.mk (Right_eq h1)
    subst h0
    clear h1
    go_enter Try.func31, Try.ntmps31
    go_wp2_with (go_at_call 38; (with_reducible refine (R.out _).mono ?_); rintro e w1 ⟨rfl, hb⟩)
    go_ret
    exact ⟨rfl, (by repeat (first | exact HB.out | apply below_alloc) : Below w.heap.size w _).trans (hb.mono (by simp; omega))⟩

/-! ### ratio_Of: function 26 -/
def ratio_Of.f (a0 : Int) (a1 : Int) : Option (Int × Int × Int) := if a1 = 0 then (some (0, 0, 11)) else ((ratio_abs.f a0).bind fun t104 => ((ratio_abs.f a1).bind fun t105 => ((ratio_common.f t104 t105).bind fun t106 => (if t106 = 0 then (none) else (if (mx (IntKind.u64.wrap (Int.tdiv t104 t106)) (IntKind.u64.wrap (Int.tdiv t105 t106))) > 1000000000 then (some (0, 0, 10)) else (if ((decide (a0 < 0)) != (decide (a1 < 0))) = true then (some (wrap64 (-(wrap64 (IntKind.u64.wrap (Int.tdiv t104 t106)))), wrap64 (IntKind.u64.wrap (Int.tdiv t105 t106)), 0)) else (some (wrap64 (IntKind.u64.wrap (Int.tdiv t104 t106)), wrap64 (IntKind.u64.wrap (Int.tdiv t105 t106)), 0))))))))
set_option maxHeartbeats 8000000 in
set_option maxRecDepth 100000 in
theorem ratio_Of.calls (a0 : Int) (a1 : Int) (r1 : Int) (r2 : Int) (r3 : Int) (w : World) (h : ratio_Of.f a0 a1 = some (r1, r2, r3)) :
 Calls Try.prog 26 #[.int .i64 a0, .int .i64 a1] w fun e w' => e = .returned (.tuple #[.agg #[.int .i64 r1, .int .i64 r2], .int .i64 r3]) ∧ Below w.heap.size w w' := by
 have hu26 := Try.underlying26
 have HB := Aside0.mk (Below.refl w.heap.size w)
 have H : (if a1 = 0 then (some (0, 0, 11)) else ((ratio_abs.f a0).bind fun t104 => ((ratio_abs.f a1).bind fun t105 => ((ratio_common.f t104 t105).bind fun t106 => (if t106 = 0 then (none) else (if (mx (IntKind.u64.wrap (Int.tdiv t104 t106)) (IntKind.u64.wrap (Int.tdiv t105 t106))) > 1000000000 then (some (0, 0, 10)) else (if ((decide (a0 < 0)) != (decide (a1 < 0))) = true then (some (wrap64 (-(wrap64 (IntKind.u64.wrap (Int.tdiv t104 t106)))), wrap64 (IntKind.u64.wrap (Int.tdiv t105 t106)), 0)) else (some (wrap64 (IntKind.u64.wrap (Int.tdiv t104 t106)), wrap64 (IntKind.u64.wrap (Int.tdiv t105 t106)), 0))))))))) = some (r1, r2, r3) := h
 clear h
 by_cases c3 : a1 = 0
 · rw [if_pos c3] at H
   have c3b0 : (a1 == 0) = true := beq_iff_eq.mpr c3
   have c3b1 : (a1 != 0) = false := bne_eq_false_iff_eq.mpr c3
   clear c3
   simp only [Option.some.injEq, Prod.mk.injEq] at H
   obtain ⟨rfl, rfl, rfl⟩ := H
   go_enter Try.func26, Try.ntmps26
   go_wp2_with (first | ((with_reducible refine gate_dst (N := 4) rfl ?_); refine box_event ?hg (N := 4) ?hd (cs := #[.int .i64 0, .int .i64 0]) (t := 26) ?hr ?_; (case hd => rfl); (case hg => rfl); (case hr => first | (go_simp; done) | (go_simp; rfl)); intro gb103 hg w4 hbox hb; have n0_ := Aside0.mk (below_step (by repeat (first | (with_reducible first | exact HB.out | apply below_alloc | apply pw_below_drewN | apply below_drew1) | exact HB.out)) hb); have n1_ := Aside0.mk (hbox); have n2_ := Aside0.mk ((by rw [hg]; exact (below_size (by repeat (first | (with_reducible first | exact HB.out | apply below_alloc | apply pw_below_drewN | apply below_drew1) | exact HB.out))) : w.heap.size ≤ gb103)); have n3_ := Aside0.mk ((by rw [hg]; exact (below_size (by repeat (first | (with_reducible first | exact HB.out | apply below_alloc | apply pw_below_drewN | apply below_drew1) | exact HB.out))) : w.heap.size ≤ gb103)); clear HB; have HB := n0_; have BK103 := n1_; have GW103 := n2_; have GE103 := n3_; clear n0_ n1_ n2_ n3_; clear hb hbox hg; have hcz5_0 : w4.cell? ⟨gb103, 0, none⟩ = some (.int .i64 0) := (blk_cell BK103.out 0).trans rfl; have hcz5_1 : w4.cell? ⟨gb103, 1, none⟩ = some (.int .i64 0) := (blk_cell BK103.out 1).trans rfl; have hfz5_0 := blk_frozen BK103.out 0; have hfz5_1 := blk_frozen BK103.out 1))
   repeat (go_quiet (first | ((with_reducible refine gate_dst (N := 4) rfl ?_); refine box_event ?hg (N := 4) ?hd (cs := #[.int .i64 0, .int .i64 0]) (t := 26) ?hr ?_; (case hd => rfl); (case hg => rfl); (case hr => first | (go_simp; done) | (go_simp; rfl)); intro gb103 hg w4 hbox hb; have n0_ := Aside0.mk (below_step (by repeat (first | (with_reducible first | exact HB.out | apply below_alloc | apply pw_below_drewN | apply below_drew1) | exact HB.out)) hb); have n1_ := Aside0.mk (hbox); have n2_ := Aside0.mk ((by rw [hg]; exact (below_size (by repeat (first | (with_reducible first | exact HB.out | apply below_alloc | apply pw_below_drewN | apply below_drew1) | exact HB.out))) : w.heap.size ≤ gb103)); have n3_ := Aside0.mk ((by rw [hg]; exact (below_size (by repeat (first | (with_reducible first | exact HB.out | apply below_alloc | apply pw_below_drewN | apply below_drew1) | exact HB.out))) : w.heap.size ≤ gb103)); clear HB; have HB := n0_; have BK103 := n1_; have GW103 := n2_; have GE103 := n3_; clear n0_ n1_ n2_ n3_; clear hb hbox hg; have hcz5_0 : w4.cell? ⟨gb103, 0, none⟩ = some (.int .i64 0) := (blk_cell BK103.out 0).trans rfl; have hcz5_1 : w4.cell? ⟨gb103, 1, none⟩ = some (.int .i64 0) := (blk_cell BK103.out 1).trans rfl; have hfz5_0 := blk_frozen BK103.out 0; have hfz5_1 := blk_frozen BK103.out 1)); try go_wp2_with (first | ((with_reducible refine gate_dst (N := 4) rfl ?_); refine box_event ?hg (N := 4) ?hd (cs := #[.int .i64 0, .int .i64 0]) (t := 26) ?hr ?_; (case hd => rfl); (case hg => rfl); (case hr => first | (go_simp; done) | (go_simp; rfl)); intro gb103 hg w4 hbox hb; have n0_ := Aside0.mk (below_step (by repeat (first | (with_reducible first | exact HB.out | apply below_alloc | apply pw_below_drewN | apply below_drew1) | exact HB.out)) hb); have n1_ := Aside0.mk (hbox); have n2_ := Aside0.mk ((by rw [hg]; exact (below_size (by repeat (first | (with_reducible first | exact HB.out | apply below_alloc | apply pw_below_drewN | apply below_drew1) | exact HB.out))) : w.heap.size ≤ gb103)); have n3_ := Aside0.mk ((by rw [hg]; exact (below_size (by repeat (first | (with_reducible first | exact HB.out | apply below_alloc | apply pw_below_drewN | apply below_drew1) | exact HB.out))) : w.heap.size ≤ gb103)); clear HB; have HB := n0_; have BK103 := n1_; have GW103 := n2_; have GE103 := n3_; clear n0_ n1_ n2_ n3_; clear hb hbox hg; have hcz5_0 : w4.cell? ⟨gb103, 0, none⟩ = some (.int .i64 0) := (blk_cell BK103.out 0).trans rfl; have hcz5_1 : w4.cell? ⟨gb103, 1, none⟩ = some (.int .i64 0) := (blk_cell BK103.out 1).trans rfl; have hfz5_0 := blk_frozen BK103.out 0; have hfz5_1 := blk_frozen BK103.out 1)))
   refine bodyPost_ret (results_ct rfl _ _ gb103 26 #[.int .i64 0, .int .i64 0] (0, 0) _ rfl (by (with_reducible repeat (first | refine blk_drewN ?_ _ | refine blk_drew ?_ | refine blk_alloc ?_ _)); refine blk_put (cs := #[.int .i64 0, .int .i64 0]) ?_ 1 _ rfl; (with_reducible repeat (first | refine blk_drewN ?_ _ | refine blk_drew ?_ | refine blk_alloc ?_ _)); refine blk_put (cs := #[.int .i64 0, .int .i64 0]) ?_ 0 _ rfl; (with_reducible repeat (first | refine blk_drewN ?_ _ | refine blk_drew ?_ | refine blk_alloc ?_ _)); exact BK103.out) Try.underlying26 rfl (by kernel_rfl)) rfl ?_
   exact ⟨by first | rfl | (simp [errW_none, errW_some] <;> rfl) | (simp [*, errW_none, errW_some] <;> rfl), by repeat (first | (with_reducible first | exact HB.out | apply below_alloc | apply pw_below_drewN | apply below_drew1 | refine below_set ?_ GE103.out) | exact HB.out)⟩
 · rw [if_neg c3] at H
   have c3b0 : (a1 == 0) = false := beq_eq_false_iff_ne.mpr c3
   have c3b1 : (a1 != 0) = true := bne_iff_ne.mpr c3
   replace H := Option.bind_eq_some_iff.mp H
   obtain ⟨t104, A60, H⟩ := H
   replace H : ((ratio_abs.f a1).bind fun t105 => ((ratio_common.f t104 t105).bind fun t106 => (if t106 = 0 then (none) else (if (mx (IntKind.u64.wrap (Int.tdiv t104 t106)) (IntKind.u64.wrap (Int.tdiv t105 t106))) > 1000000000 then (some (0, 0, 10)) else (if ((decide (a0 < 0)) != (decide (a1 < 0))) = true then (some (wrap64 (-(wrap64 (IntKind.u64.wrap (Int.tdiv t104 t106)))), wrap64 (IntKind.u64.wrap (Int.tdiv t105 t106)), 0)) else (some (wrap64 (IntKind.u64.wrap (Int.tdiv t104 t106)), wrap64 (IntKind.u64.wrap (Int.tdiv t105 t106)), 0))))))) = some (r1, r2, r3) := H
   have A6 := Aside0.mk A60
   clear A60
   replace H := Option.bind_eq_some_iff.mp H
   obtain ⟨t105, A70, H⟩ := H
   replace H : ((ratio_common.f t104 t105).bind fun t106 => (if t106 = 0 then (none) else (if (mx (IntKind.u64.wrap (Int.tdiv t104 t106)) (IntKind.u64.wrap (Int.tdiv t105 t106))) > 1000000000 then (some (0, 0, 10)) else (if ((decide (a0 < 0)) != (decide (a1 < 0))) = true then (some (wrap64 (-(wrap64 (IntKind.u64.wrap (Int.tdiv t104 t106)))), wrap64 (IntKind.u64.wrap (Int.tdiv t105 t106)), 0)) else (some (wrap64 (IntKind.u64.wrap (Int.tdiv t104 t106)), wrap64 (IntKind.u64.wrap (Int.tdiv t105 t106)), 0)))))) = some (r1, r2, r3) := H
   have A7 := Aside0.mk A70
   clear A70
   replace H := Option.bind_eq_some_iff.mp H
   obtain ⟨t106, A80, H⟩ := H
   replace H : (if t106 = 0 then (none) else (if (mx (IntKind.u64.wrap (Int.tdiv t104 t106)) (IntKind.u64.wrap (Int.tdiv t105 t106))) > 1000000000 then (some (0, 0, 10)) else (if ((decide (a0 < 0)) != (decide (a1 < 0))) = true then (some (wrap64 (-(wrap64 (IntKind.u64.wrap (Int.tdiv t104 t106)))), wrap64 (IntKind.u64.wrap (Int.tdiv t105 t106)), 0)) else (some (wrap64 (IntKind.u64.wrap (Int.tdiv t104 t106)), wrap64 (IntKind.u64.wrap (Int.tdiv t105 t106)), 0))))) = some (r1, r2, r3) := H
   have A8 := Aside0.mk A80
   clear A80
   by_cases c9 : t106 = 0
   · rw [if_pos c9] at H
     exact absurd H (by simp)
   · rw [if_neg c9] at H
     have c9b0 : (t106 == 0) = false := beq_eq_false_iff_ne.mpr c9
     have c9b1 : (t106 != 0) = true := bne_iff_ne.mpr c9
     obtain ⟨ji10, hji10⟩ : ∃ j_ : Int, (mx (IntKind.u64.wrap (Int.tdiv t104 t106)) (IntKind.u64.wrap (Int.tdiv t105 t106))) = j_ := ⟨_, rfl⟩
     replace H : (if (ji10) > 1000000000 then (some (0, 0, 10)) else (if ((decide (a0 < 0)) != (decide (a1 < 0))) = true then (some (wrap64 (-(wrap64 (IntKind.u64.wrap (Int.tdiv t104 t106)))), wrap64 (IntKind.u64.wrap (Int.tdiv t105 t106)), 0)) else (some (wrap64 (IntKind.u64.wrap (Int.tdiv t104 t106)), wrap64 (IntKind.u64.wrap (Int.tdiv t105 t106)), 0)))) = some (r1, r2, r3) := by first | (rw [hji10] at H; exact H) | (simp only [hji10] at H ⊢; exact H)
     (try rw [hji10] at A6)
     (try rw [hji10] at A7)
     (try rw [hji10] at A8)
     have hji10_ : (if (IntKind.u64.wrap (Int.tdiv t104 t106)) < (IntKind.u64.wrap (Int.tdiv t105 t106)) then (IntKind.u64.wrap (Int.tdiv t105 t106)) else (IntKind.u64.wrap (Int.tdiv t104 t106))) = ji10 := hji10
     by_cases c11 : (ji10) > 1000000000
     · rw [if_pos c11] at H
       have c11b0 : decide (1000000000 < (ji10)) = true := decide_eq_true c11
       clear c11
       simp only [Option.some.injEq, Prod.mk.injEq] at H
       obtain ⟨rfl, rfl, rfl⟩ := H
       go_enter Try.func26, Try.ntmps26
       go_wp2_with (first | ((with_reducible refine gate_dst (N := 4) rfl ?_); refine box_event ?hg (N := 4) ?hd (cs := #[.int .i64 0, .int .i64 0]) (t := 26) ?hr ?_; (case hd => rfl); (case hg => rfl); (case hr => first | (go_simp; done) | (go_simp; rfl)); intro gb103 hg w12 hbox hb; have n0_ := Aside0.mk (below_step (by repeat (first | (with_reducible first | exact HB.out | apply below_alloc | apply pw_below_drewN | apply below_drew1) | exact HB.out)) hb); have n1_ := Aside0.mk (hbox); have n2_ := Aside0.mk ((by rw [hg]; exact (below_size (by repeat (first | (with_reducible first | exact HB.out | apply below_alloc | apply pw_below_drewN | apply below_drew1) | exact HB.out))) : w.heap.size ≤ gb103)); have n3_ := Aside0.mk ((by rw [hg]; exact (below_size (by repeat (first | (with_reducible first | exact HB.out | apply below_alloc | apply pw_below_drewN | apply below_drew1) | exact HB.out))) : w.heap.size ≤ gb103)); clear HB; have HB := n0_; have BK103 := n1_; have GW103 := n2_; have GE103 := n3_; clear n0_ n1_ n2_ n3_; clear hb hbox hg) | (go_at_call 44; (with_reducible refine (ratio_abs.calls a0 t104 _ A6.out).mono ?_); rintro e w' ⟨rfl, ⟨nd, rfl⟩⟩; (try first | exact ⟨rfl, _, World.drewN_drewN _ _ _⟩ | exact ⟨rfl, _, Eq.trans (World.drewN_drewN _ _ _) (congrArg (World.drewN _) (Nat.add_assoc _ _ _))⟩)) | (go_at_call 44; (with_reducible refine (ratio_abs.calls a1 t105 _ A7.out).mono ?_); rintro e w' ⟨rfl, ⟨nd, rfl⟩⟩; (try first | exact ⟨rfl, _, World.drewN_drewN _ _ _⟩ | exact ⟨rfl, _, Eq.trans (World.drewN_drewN _ _ _) (congrArg (World.drewN _) (Nat.add_assoc _ _ _))⟩)) | (go_at_call 45; (with_reducible refine (ratio_common.calls t104 t105 t106 _ A8.out).mono ?_); rintro e w' ⟨rfl, ⟨nd, rfl⟩⟩; (try first | exact ⟨rfl, _, World.drewN_drewN _ _ _⟩ | exact ⟨rfl, _, Eq.trans (World.drewN_drewN _ _ _) (congrArg (World.drewN _) (Nat.add_assoc _ _ _))⟩); have hcz13_0 : w12.cell? ⟨gb103, 0, none⟩ = some (.int .i64 0) := (blk_cell BK103.out 0).trans rfl; have hcz13_1 : w12.cell? ⟨gb103, 1, none⟩ = some (.int .i64 0) := (blk_cell BK103.out 1).trans rfl; have hfz13_0 := blk_frozen BK103.out 0; have hfz13_1 := blk_frozen BK103.out 1))
       repeat (go_quiet (first | ((with_reducible refine gate_dst (N := 4) rfl ?_); refine box_event ?hg (N := 4) ?hd (cs := #[.int .i64 0, .int .i64 0]) (t := 26) ?hr ?_; (case hd => rfl); (case hg => rfl); (case hr => first | (go_simp; done) | (go_simp; rfl)); intro gb103 hg w12 hbox hb; have n0_ := Aside0.mk (below_step (by repeat (first | (with_reducible first | exact HB.out | apply below_alloc | apply pw_below_drewN | apply below_drew1) | exact HB.out)) hb); have n1_ := Aside0.mk (hbox); have n2_ := Aside0.mk ((by rw [hg]; exact (below_size (by repeat (first | (with_reducible first | exact HB.out | apply below_alloc | apply pw_below_drewN | apply below_drew1) | exact HB.out))) : w.heap.size ≤ gb103)); have n3_ := Aside0.mk ((by rw [hg]; exact (below_size (by repeat (first | (with_reducible first | exact HB.out | apply below_alloc | apply pw_below_drewN | apply below_drew1) | exact HB.out))) : w.heap.size ≤ gb103)); clear HB; have HB := n0_; have BK103 := n1_; have GW103 := n2_; have GE103 := n3_; clear n0_ n1_ n2_ n3_; clear hb hbox hg) | (go_at_call 44; (with_reducible refine (ratio_abs.calls a0 t104 _ A6.out).mono ?_); rintro e w' ⟨rfl, ⟨nd, rfl⟩⟩; (try first | exact ⟨rfl, _, World.drewN_drewN _ _ _⟩ | exact ⟨rfl, _, Eq.trans (World.drewN_drewN _ _ _) (congrArg (World.drewN _) (Nat.add_assoc _ _ _))⟩)) | (go_at_call 44; (with_reducible refine (ratio_abs.calls a1 t105 _ A7.out).mono ?_); rintro e w' ⟨rfl, ⟨nd, rfl⟩⟩; (try first | exact ⟨rfl, _, World.drewN_drewN _ _ _⟩ | exact ⟨rfl, _, Eq.trans (World.drewN_drewN _ _ _) (congrArg (World.drewN _) (Nat.add_assoc _ _ _))⟩)) | (go_at_call 45; (with_reducible refine (ratio_common.calls t104 t105 t106 _ A8.out).mono ?_); rintro e w' ⟨rfl, ⟨nd, rfl⟩⟩; (try first | exact ⟨rfl, _, World.drewN_drewN _ _ _⟩ | exact ⟨rfl, _, Eq.trans (World.drewN_drewN _ _ _) (congrArg (World.drewN _) (Nat.add_assoc _ _ _))⟩); have hcz13_0 : w12.cell? ⟨gb103, 0, none⟩ = some (.int .i64 0) := (blk_cell BK103.out 0).trans rfl; have hcz13_1 : w12.cell? ⟨gb103, 1, none⟩ = some (.int .i64 0) := (blk_cell BK103.out 1).trans rfl; have hfz13_0 := blk_frozen BK103.out 0; have hfz13_1 := blk_frozen BK103.out 1)); try go_wp2_with (first | ((with_reducible refine gate_dst (N := 4) rfl ?_); refine box_event ?hg (N := 4) ?hd (cs := #[.int .i64 0, .int .i64 0]) (t := 26) ?hr ?_; (case hd => rfl); (case hg => rfl); (case hr => first | (go_simp; done) | (go_simp; rfl)); intro gb103 hg w12 hbox hb; have n0_ := Aside0.mk (below_step (by repeat (first | (with_reducible first | exact HB.out | apply below_alloc | apply pw_below_drewN | apply below_drew1) | exact HB.out)) hb); have n1_ := Aside0.mk (hbox); have n2_ := Aside0.mk ((by rw [hg]; exact (below_size (by repeat (first | (with_reducible first | exact HB.out | apply below_alloc | apply pw_below_drewN | apply below_drew1) | exact HB.out))) : w.heap.size ≤ gb103)); have n3_ := Aside0.mk ((by rw [hg]; exact (below_size (by repeat (first | (with_reducible first | exact HB.out | apply below_alloc | apply pw_below_drewN | apply below_drew1) | exact HB.out))) : w.heap.size ≤ gb103)); clear HB; have HB := n0_; have BK103 := n1_; have GW103 := n2_; have GE103 := n3_; clear n0_ n1_ n2_ n3_; clear hb hbox hg) | (go_at_call 44; (with_reducible refine (ratio_abs.calls a0 t104 _ A6.out).mono ?_); rintro e w' ⟨rfl, ⟨nd, rfl⟩⟩; (try first | exact ⟨rfl, _, World.drewN_drewN _ _ _⟩ | exact ⟨rfl, _, Eq.trans (World.drewN_drewN _ _ _) (congrArg (World.drewN _) (Nat.add_assoc _ _ _))⟩)) | (go_at_call 44; (with_reducible refine (ratio_abs.calls a1 t105 _ A7.out).mono ?_); rintro e w' ⟨rfl, ⟨nd, rfl⟩⟩; (try first | exact ⟨rfl, _, World.drewN_drewN _ _ _⟩ | exact ⟨rfl, _, Eq.trans (World.drewN_drewN _ _ _) (congrArg (World.drewN _) (Nat.add_assoc _ _ _))⟩)) | (go_at_call 45; (with_reducible refine (ratio_common.calls t104 t105 t106 _ A8.out).mono ?_); rintro e w' ⟨rfl, ⟨nd, rfl⟩⟩; (try first | exact ⟨rfl, _, World.drewN_drewN _ _ _⟩ | exact ⟨rfl, _, Eq.trans (World.drewN_drewN _ _ _) (congrArg (World.drewN _) (Nat.add_assoc _ _ _))⟩); have hcz13_0 : w12.cell? ⟨gb103, 0, none⟩ = some (.int .i64 0) := (blk_cell BK103.out 0).trans rfl; have hcz13_1 : w12.cell? ⟨gb103, 1, none⟩ = some (.int .i64 0) := (blk_cell BK103.out 1).trans rfl; have hfz13_0 := blk_frozen BK103.out 0; have hfz13_1 := blk_frozen BK103.out 1)))
       refine bodyPost_ret (results_ct rfl _ _ gb103 26 #[.int .i64 0, .int .i64 0] (0, 0) _ rfl (by (with_reducible repeat (first | refine blk_drewN ?_ _ | refine blk_drew ?_ | refine blk_alloc ?_ _)); refine blk_put (cs := #[.int .i64 0, .int .i64 0]) ?_ 1 _ rfl; (with_reducible repeat (first | refine blk_drewN ?_ _ | refine blk_drew ?_ | refine blk_alloc ?_ _)); refine blk_put (cs := #[.int .i64 0, .int .i64 0]) ?_ 0 _ rfl; (with_reducible repeat (first | refine blk_drewN ?_ _ | refine blk_drew ?_ | refine blk_alloc ?_ _)); exact BK103.out) Try.underlying26 rfl (by kernel_rfl)) rfl ?_
       exact ⟨by first | rfl | (simp [errW_none, errW_some] <;> rfl) | (simp only [← hji10]; first | rfl | (simp [errW_none, errW_some] <;> rfl)) | (simp [*, errW_none, errW_some] <;> rfl), by repeat (first | (with_reducible first | exact HB.out | apply below_alloc | apply pw_below_drewN | apply below_drew1 | refine below_set ?_ GE103.out) | exact HB.out)⟩
     · rw [if_neg c11] at H
       have c11b0 : decide (1000000000 < (ji10)) = false := decide_eq_false c11
       clear c11
       by_cases c14 : ((decide (a0 < 0)) != (decide (a1 < 0))) = true
       · rw [if_pos c14] at H
         have c14b0 : ((decide (a0 < 0)) != (decide (a1 < 0))) = true := c14
         (try (have c14b1 : decide ((decide (a0 < 0)) = (decide (a1 < 0))) = false := by simpa using c14))
         (try (have c14b2 : ((decide (a0 < 0)) == (decide (a1 < 0))) = false := by simpa using c14))
         (try (have c14b3 : ¬ ((decide (a0 < 0)) = (decide (a1 < 0))) := by simpa using c14))
         clear c14
         simp only [Option.some.injEq, Prod.mk.injEq] at H
         obtain ⟨rfl, rfl, rfl⟩ := H
         go_enter Try.func26, Try.ntmps26
         go_wp2_with (first | ((with_reducible refine gate_dst (N := 4) rfl ?_); refine box_event ?hg (N := 4) ?hd (cs := #[.int .i64 0, .int .i64 0]) (t := 26) ?hr ?_; (case hd => rfl); (case hg => rfl); (case hr => first | (go_simp; done) | (go_simp; rfl)); intro gb103 hg w15 hbox hb; have n0_ := Aside0.mk (below_step (by repeat (first | (with_reducible first | exact HB.out | apply below_alloc | apply pw_below_drewN | apply below_drew1) | exact HB.out)) hb); have n1_ := Aside0.mk (hbox); have n2_ := Aside0.mk ((by rw [hg]; exact (below_size (by repeat (first | (with_reducible first | exact HB.out | apply below_alloc | apply pw_below_drewN | apply below_drew1) | exact HB.out))) : w.heap.size ≤ gb103)); have n3_ := Aside0.mk ((by rw [hg]; exact (below_size (by repeat (first | (with_reducible first | exact HB.out | apply below_alloc | apply pw_below_drewN | apply below_drew1) | exact HB.out))) : w.heap.size ≤ gb103)); clear HB; have HB := n0_; have BK103 := n1_; have GW103 := n2_; have GE103 := n3_; clear n0_ n1_ n2_ n3_; clear hb hbox hg) | (go_at_call 44; (with_reducible refine (ratio_abs.calls a0 t104 _ A6.out).mono ?_); rintro e w' ⟨rfl, ⟨nd, rfl⟩⟩; (try first | exact ⟨rfl, _, World.drewN_drewN _ _ _⟩ | exact ⟨rfl, _, Eq.trans (World.drewN_drewN _ _ _) (congrArg (World.drewN _) (Nat.add_assoc _ _ _))⟩)) | (go_at_call 44; (with_reducible refine (ratio_abs.calls a1 t105 _ A7.out).mono ?_); rintro e w' ⟨rfl, ⟨nd, rfl⟩⟩; (try first | exact ⟨rfl, _, World.drewN_drewN _ _ _⟩ | exact ⟨rfl, _, Eq.trans (World.drewN_drewN _ _ _) (congrArg (World.drewN _) (Nat.add_assoc _ _ _))⟩)) | (go_at_call 45; (with_reducible refine (ratio_common.calls t104 t105 t106 _ A8.out).mono ?_); rintro e w' ⟨rfl, ⟨nd, rfl⟩⟩; (try first | exact ⟨rfl, _, World.drewN_drewN _ _ _⟩ | exact ⟨rfl, _, Eq.trans (World.drewN_drewN _ _ _) (congrArg (World.drewN _) (Nat.add_assoc _ _ _))⟩)) | ((with_reducible refine gate_dst (N := 9) rfl ?_); refine box_event ?hg (N := 9) ?hd (cs := #[.int .i64 0, .int .i64 0]) (t := 26) ?hr ?_; (case hd => rfl); (case hg => rfl); (case hr => first | (go_simp; done) | (go_simp; rfl)); intro gb107 hg w16 hbox hb; have n0_ := Aside0.mk (blk_below (qB BK103.out) hb); have n1_ := Aside0.mk (below_step (by repeat (first | (with_reducible first | exact HB.out | apply below_alloc | apply pw_below_drewN | apply below_drew1 | refine below_set ?_ GE103.out) | exact HB.out)) hb); have n2_ := Aside0.mk (hbox); have n3_ := Aside0.mk ((by rw [hg]; exact (below_size (by repeat (first | (with_reducible first | exact HB.out | apply below_alloc | apply pw_below_drewN | apply below_drew1 | refine below_set ?_ GE103.out) | exact HB.out))) : w.heap.size ≤ gb107)); have n4_ := Aside0.mk ((by rw [hg]; exact (below_size (by repeat (first | (with_reducible first | exact HB.out | apply below_alloc | apply pw_below_drewN | apply below_drew1 | refine below_set ?_ GE103.out) | exact HB.out))) : w.heap.size ≤ gb107)); have n5_ := Aside0.mk ((by rw [hg]; exact Nat.ne_of_lt (blk_lt (qB BK103.out)) : gb103 ≠ gb107)); have n6_ := Aside0.mk ((by rw [hg]; exact Nat.ne_of_gt (blk_lt (qB BK103.out)) : gb107 ≠ gb103)); clear BK103; clear HB; have BK103 := n0_; have HB := n1_; have BK107 := n2_; have GW107 := n3_; have GE107 := n4_; have NB103_107 := n5_; have NB107_103 := n6_; clear n0_ n1_ n2_ n3_ n4_ n5_ n6_; clear hb hbox hg; have hnb17 := NB107_103.out; have hnc17 := NB103_107.out; have hcz18_0 : w16.cell? ⟨gb107, 0, none⟩ = some (.int .i64 0) := (blk_cell BK107.out 0).trans rfl; have hcz18_1 : w16.cell? ⟨gb107, 1, none⟩ = some (.int .i64 0) := (blk_cell BK107.out 1).trans rfl; have hfz18_0 := blk_frozen BK107.out 0; have hfz18_1 := blk_frozen BK107.out 1; have hcz19_0 : w16.cell? ⟨gb103, 0, none⟩ = some (.int .i64 0) := (blk_cell BK103.out 0).trans rfl; have hcz19_1 : w16.cell? ⟨gb103, 1, none⟩ = some (.int .i64 0) := (blk_cell BK103.out 1).trans rfl; have hfz19_0 := blk_frozen BK103.out 0; have hfz19_1 := blk_frozen BK103.out 1))
         repeat (go_quiet (first | ((with_reducible refine gate_dst (N := 4) rfl ?_); refine box_event ?hg (N := 4) ?hd (cs := #[.int .i64 0, .int .i64 0]) (t := 26) ?hr ?_; (case hd => rfl); (case hg => rfl); (case hr => first | (go_simp; done) | (go_simp; rfl)); intro gb103 hg w15 hbox hb; have n0_ := Aside0.mk (below_step (by repeat (first | (with_reducible first | exact HB.out | apply below_alloc | apply pw_below_drewN | apply below_drew1) | exact HB.out)) hb); have n1_ := Aside0.mk (hbox); have n2_ := Aside0.mk ((by rw [hg]; exact (below_size (by repeat (first | (with_reducible first | exact HB.out | apply below_alloc | apply pw_below_drewN | apply below_drew1) | exact HB.out))) : w.heap.size ≤ gb103)); have n3_ := Aside0.mk ((by rw [hg]; exact (below_size (by repeat (first | (with_reducible first | exact HB.out | apply below_alloc | apply pw_below_drewN | apply below_drew1) | exact HB.out))) : w.heap.size ≤ gb103)); clear HB; have HB := n0_; have BK103 := n1_; have GW103 := n2_; have GE103 := n3_; clear n0_ n1_ n2_ n3_; clear hb hbox hg) | (go_at_call 44; (with_reducible refine (ratio_abs.calls a0 t104 _ A6.out).mono ?_); rintro e w' ⟨rfl, ⟨nd, rfl⟩⟩; (try first | exact ⟨rfl, _, World.drewN_drewN _ _ _⟩ | exact ⟨rfl, _, Eq.trans (World.drewN_drewN _ _ _) (congrArg (World.drewN _) (Nat.add_assoc _ _ _))⟩)) | (go_at_call 44; (with_reducible refine (ratio_abs.calls a1 t105 _ A7.out).mono ?_); rintro e w' ⟨rfl, ⟨nd, rfl⟩⟩; (try first | exact ⟨rfl, _, World.drewN_drewN _ _ _⟩ | exact ⟨rfl, _, Eq.trans (World.drewN_drewN _ _ _) (congrArg (World.drewN _) (Nat.add_assoc _ _ _))⟩)) | (go_at_call 45; (with_reducible refine (ratio_common.calls t104 t105 t106 _ A8.out).mono ?_); rintro e w' ⟨rfl, ⟨nd, rfl⟩⟩; (try first | exact ⟨rfl, _, World.drewN_drewN _ _ _⟩ | exact ⟨rfl, _, Eq.trans (World.drewN_drewN _ _ _) (congrArg (World.drewN _) (Nat.add_assoc _ _ _))⟩)) | ((with_reducible refine gate_dst (N := 9) rfl ?_); refine box_event ?hg (N := 9) ?hd (cs := #[.int .i64 0, .int .i64 0]) (t := 26) ?hr ?_; (case hd => rfl); (case hg => rfl); (case hr => first | (go_simp; done) | (go_simp; rfl)); intro gb107 hg w16 hbox hb; have n0_ := Aside0.mk (blk_below (qB BK103.out) hb); have n1_ := Aside0.mk (below_step (by repeat (first | (with_reducible first | exact HB.out | apply below_alloc | apply pw_below_drewN | apply below_drew1 | refine below_set ?_ GE103.out) | exact HB.out)) hb); have n2_ := Aside0.mk (hbox); have n3_ := Aside0.mk ((by rw [hg]; exact (below_size (by repeat (first | (with_reducible first | exact HB.out | apply below_alloc | apply pw_below_drewN | apply below_drew1 | refine below_set ?_ GE103.out) | exact HB.out))) : w.heap.size ≤ gb107)); have n4_ := Aside0.mk ((by rw [hg]; exact (below_size (by repeat (first | (with_reducible first | exact HB.out | apply below_alloc | apply pw_below_drewN | apply below_drew1 | refine below_set ?_ GE103.out) | exact HB.out))) : w.heap.size ≤ gb107)); have n5_ := Aside0.mk ((by rw [hg]; exact Nat.ne_of_lt (blk_lt (qB BK103.out)) : gb103 ≠ gb107)); have n6_ := Aside0.mk ((by rw [hg]; exact Nat.ne_of_gt (blk_lt (qB BK103.out)) : gb107 ≠ gb103)); clear BK103; clear HB; have BK103 := n0_; have HB := n1_; have BK107 := n2_; have GW107 := n3_; have GE107 := n4_; have NB103_107 := n5_; have NB107_103 := n6_; clear n0_ n1_ n2_ n3_ n4_ n5_ n6_; clear hb hbox hg; have hnb17 := NB107_103.out; have hnc17 := NB103_107.out; have hcz18_0 : w16.cell? ⟨gb107, 0, none⟩ = some (.int .i64 0) := (blk_cell BK107.out 0).trans rfl; have hcz18_1 : w16.cell? ⟨gb107, 1, none⟩ = some (.int .i64 0) := (blk_cell BK107.out 1).trans rfl; have hfz18_0 := blk_frozen BK107.out 0; have hfz18_1 := blk_frozen BK107.out 1; have hcz19_0 : w16.cell? ⟨gb103, 0, none⟩ = some (.int .i64 0) := (blk_cell BK103.out 0).trans rfl; have hcz19_1 : w16.cell? ⟨gb103, 1, none⟩ = some (.int .i64 0) := (blk_cell BK103.out 1).trans rfl; have hfz19_0 := blk_frozen BK103.out 0; have hfz19_1 := blk_frozen BK103.out 1)); try go_wp2_with (first | ((with_reducible refine gate_dst (N := 4) rfl ?_); refine box_event ?hg (N := 4) ?hd (cs := #[.int .i64 0, .int .i64 0]) (t := 26) ?hr ?_; (case hd => rfl); (case hg => rfl); (case hr => first | (go_simp; done) | (go_simp; rfl)); intro gb103 hg w15 hbox hb; have n0_ := Aside0.mk (below_step (by repeat (first | (with_reducible first | exact HB.out | apply below_alloc | apply pw_below_drewN | apply below_drew1) | exact HB.out)) hb); have n1_ := Aside0.mk (hbox); have n2_ := Aside0.mk ((by rw [hg]; exact (below_size (by repeat (first | (with_reducible first | exact HB.out | apply below_alloc | apply pw_below_drewN | apply below_drew1) | exact HB.out))) : w.heap.size ≤ gb103)); have n3_ := Aside0.mk ((by rw [hg]; exact (below_size (by repeat (first | (with_reducible first | exact HB.out | apply below_alloc | apply pw_below_drewN | apply below_drew1) | exact HB.out))) : w.heap.size ≤ gb103)); clear HB; have HB := n0_; have BK103 := n1_; have GW103 := n2_; have GE103 := n3_; clear n0_ n1_ n2_ n3_; clear hb hbox hg) | (go_at_call 44; (with_reducible refine (ratio_abs.calls a0 t104 _ A6.out).mono ?_); rintro e w' ⟨rfl, ⟨nd, rfl⟩⟩; (try first | exact ⟨rfl, _, World.drewN_drewN _ _ _⟩ | exact ⟨rfl, _, Eq.trans (World.drewN_drewN _ _ _) (congrArg (World.drewN _) (Nat.add_assoc _ _ _))⟩)) | (go_at_call 44; (with_reducible refine (ratio_abs.calls a1 t105 _ A7.out).mono ?_); rintro e w' ⟨rfl, ⟨nd, rfl⟩⟩; (try first | exact ⟨rfl, _, World.drewN_drewN _ _ _⟩ | exact ⟨rfl, _, Eq.trans (World.drewN_drewN _ _ _) (congrArg (World.drewN _) (Nat.add_assoc _ _ _))⟩)) | (go_at_call 45; (with_reducible refine (ratio_common.calls t104 t105 t106 _ A8.out).mono ?_); rintro e w' ⟨rfl, ⟨nd, rfl⟩⟩; (try first | exact ⟨rfl, _, World.drewN_drewN _ _ _⟩ | exact ⟨rfl, _, Eq.trans (World.drewN_drewN _ _ _) (congrArg (World.drewN _) (Nat.add_assoc _ _ _))⟩)) | ((with_reducible refine gate_dst (N := 9) rfl ?_); refine box_event ?hg (N := 9) ?hd (cs := #[.int .i64 0, .int .i64 0]) (t := 26) ?hr ?_; (case hd => rfl); (case hg => rfl); (case hr => first | (go_simp; done) | (go_simp; rfl)); intro gb107 hg w16 hbox hb; have n0_ := Aside0.mk (blk_below (qB BK103.out) hb); have n1_ := Aside0.mk (below_step (by repeat (first | (with_reducible first | exact HB.out | apply below_alloc | apply pw_below_drewN | apply below_drew1 | refine below_set ?_ GE103.out) | exact HB.out)) hb); have n2_ := Aside0.mk (hbox); have n3_ := Aside0.mk ((by rw [hg]; exact (below_size (by repeat (first | (with_reducible first | exact HB.out | apply below_alloc | apply pw_below_drewN | apply below_drew1 | refine below_set ?_ GE103.out) | exact HB.out))) : w.heap.size ≤ gb107)); have n4_ := Aside0.mk ((by rw [hg]; exact (below_size (by repeat (first | (with_reducible first | exact HB.out | apply below_alloc | apply pw_below_drewN | apply below_drew1 | refine below_set ?_ GE103.out) | exact HB.out))) : w.heap.size ≤ gb107)); have n5_ := Aside0.mk ((by rw [hg]; exact Nat.ne_of_lt (blk_lt (qB BK103.out)) : gb103 ≠ gb107)); have n6_ := Aside0.mk ((by rw [hg]; exact Nat.ne_of_gt (blk_lt (qB BK103.out)) : gb107 ≠ gb103)); clear BK103; clear HB; have BK103 := n0_; have HB := n1_; have BK107 := n2_; have GW107 := n3_; have GE107 := n4_; have NB103_107 := n5_; have NB107_103 := n6_; clear n0_ n1_ n2_ n3_ n4_ n5_ n6_; clear hb hbox hg; have hnb17 := NB107_103.out; have hnc17 := NB103_107.out; have hcz18_0 : w16.cell? ⟨gb107, 0, none⟩ = some (.int .i64 0) := (blk_cell BK107.out 0).trans rfl; have hcz18_1 : w16.cell? ⟨gb107, 1, none⟩ = some (.int .i64 0) := (blk_cell BK107.out 1).trans rfl; have hfz18_0 := blk_frozen BK107.out 0; have hfz18_1 := blk_frozen BK107.out 1; have hcz19_0 : w16.cell? ⟨gb103, 0, none⟩ = some (.int .i64 0) := (blk_cell BK103.out 0).trans rfl; have hcz19_1 : w16.cell? ⟨gb103, 1, none⟩ = some (.int .i64 0) := (blk_cell BK103.out 1).trans rfl; have hfz19_0 := blk_frozen BK103.out 0; have hfz19_1 := blk_frozen BK103.out 1)))
         refine bodyPost_ret (results_ct rfl _ _ gb103 26 #[.int .i64 (wrap64 (-(wrap64 (IntKind.u64.wrap (Int.tdiv t104 t106))))), .int .i64 (wrap64 (IntKind.u64.wrap (Int.tdiv t105 t106)))] (0, 0) _ rfl (by (with_reducible repeat (first | refine blk_drewN ?_ _ | refine blk_drew ?_ | refine blk_alloc ?_ _)); refine blk_put (cs := #[.int .i64 (wrap64 (-(wrap64 (IntKind.u64.wrap (Int.tdiv t104 t106))))), .int .i64 0]) ?_ 1 _ rfl; (with_reducible repeat (first | refine blk_drewN ?_ _ | refine blk_drew ?_ | refine blk_alloc ?_ _)); refine blk_put (cs := #[.int .i64 0, .int .i64 0]) ?_ 0 _ rfl; (with_reducible repeat (first | refine blk_drewN ?_ _ | refine blk_drew ?_ | refine blk_alloc ?_ _)); refine blk_far ?_ NB103_107.out _; (with_reducible repeat (first | refine blk_drewN ?_ _ | refine blk_drew ?_ | refine blk_alloc ?_ _)); refine blk_far ?_ NB103_107.out _; (with_reducible repeat (first | refine blk_drewN ?_ _ | refine blk_drew ?_ | refine blk_alloc ?_ _)); refine blk_far ?_ NB103_107.out _; (with_reducible repeat (first | refine blk_drewN ?_ _ | refine blk_drew ?_ | refine blk_alloc ?_ _)); exact BK103.out) Try.underlying26 rfl (by kernel_rfl)) rfl ?_
         exact ⟨by first | rfl | (simp [errW_none, errW_some] <;> rfl) | (simp only [← hji10]; first | rfl | (simp [errW_none, errW_some] <;> rfl)) | (simp [*, errW_none, errW_some] <;> rfl), by repeat (first | (with_reducible first | exact HB.out | apply below_alloc | apply pw_below_drewN | apply below_drew1 | refine below_set ?_ (Aside0.out (by assumption))) | exact HB.out)⟩
       · rw [if_neg c14] at H
         have c14b0 : ((decide (a0 < 0)) != (decide (a1 < 0))) = false := by simpa using c14
         (try (have c14b1 : decide ((decide (a0 < 0)) = (decide (a1 < 0))) = true := by simpa using c14))
         (try (have c14b2 : ((decide (a0 < 0)) == (decide (a1 < 0))) = true := by simpa using c14))
         clear c14
         simp only [Option.some.injEq, Prod.mk.injEq] at H
         obtain ⟨rfl, rfl, rfl⟩ := H
         go_enter Try.func26, Try.ntmps26
         go_wp2_with (first | ((with_reducible refine gate_dst (N := 4) rfl ?_); refine box_event ?hg (N := 4) ?hd (cs := #[.int .i64 0, .int .i64 0]) (t := 26) ?hr ?_; (case hd => rfl); (case hg => rfl); (case hr => first | (go_simp; done) | (go_simp; rfl)); intro gb103 hg w20 hbox hb; have n0_ := Aside0.mk (below_step (by repeat (first | (with_reducible first | exact HB.out | apply below_alloc | apply pw_below_drewN | apply below_drew1) | exact HB.out)) hb); have n1_ := Aside0.mk (hbox); have n2_ := Aside0.mk ((by rw [hg]; exact (below_size (by repeat (first | (with_reducible first | exact HB.out | apply below_alloc | apply pw_below_drewN | apply below_drew1) | exact HB.out))) : w.heap.size ≤ gb103)); have n3_ := Aside0.mk ((by rw [hg]; exact (below_size (by repeat (first | (with_reducible first | exact HB.out | apply below_alloc | apply pw_below_drewN | apply below_drew1) | exact HB.out))) : w.heap.size ≤ gb103)); clear HB; have HB := n0_; have BK103 := n1_; have GW103 := n2_; have GE103 := n3_; clear n0_ n1_ n2_ n3_; clear hb hbox hg) | (go_at_call 44; (with_reducible refine (ratio_abs.calls a0 t104 _ A6.out).mono ?_); rintro e w' ⟨rfl, ⟨nd, rfl⟩⟩; (try first | exact ⟨rfl, _, World.drewN_drewN _ _ _⟩ | exact ⟨rfl, _, Eq.trans (World.drewN_drewN _ _ _) (congrArg (World.drewN _) (Nat.add_assoc _ _ _))⟩)) | (go_at_call 44; (with_reducible refine (ratio_abs.calls a1 t105 _ A7.out).mono ?_); rintro e w' ⟨rfl, ⟨nd, rfl⟩⟩; (try first | exact ⟨rfl, _, World.drewN_drewN _ _ _⟩ | exact ⟨rfl, _, Eq.trans (World.drewN_drewN _ _ _) (congrArg (World.drewN _) (Nat.add_assoc _ _ _))⟩)) | (go_at_call 45; (with_reducible refine (ratio_common.calls t104 t105 t106 _ A8.out).mono ?_); rintro e w' ⟨rfl, ⟨nd, rfl⟩⟩; (try first | exact ⟨rfl, _, World.drewN_drewN _ _ _⟩ | exact ⟨rfl, _, Eq.trans (World.drewN_drewN _ _ _) (congrArg (World.drewN _) (Nat.add_assoc _ _ _))⟩)) | ((with_reducible refine gate_dst (N := 9) rfl ?_); refine box_event ?hg (N := 9) ?hd (cs := #[.int .i64 0, .int .i64 0]) (t := 26) ?hr ?_; (case hd => rfl); (case hg => rfl); (case hr => first | (go_simp; done) | (go_simp; rfl)); intro gb107 hg w21 hbox hb; have n0_ := Aside0.mk (blk_below (qB BK103.out) hb); have n1_ := Aside0.mk (below_step (by repeat (first | (with_reducible first | exact HB.out | apply below_alloc | apply pw_below_drewN | apply below_drew1 | refine below_set ?_ GE103.out) | exact HB.out)) hb); have n2_ := Aside0.mk (hbox); have n3_ := Aside0.mk ((by rw [hg]; exact (below_size (by repeat (first | (with_reducible first | exact HB.out | apply below_alloc | apply pw_below_drewN | apply below_drew1 | refine below_set ?_ GE103.out) | exact HB.out))) : w.heap.size ≤ gb107)); have n4_ := Aside0.mk ((by rw [hg]; exact (below_size (by repeat (first | (with_reducible first | exact HB.out | apply below_alloc | apply pw_below_drewN | apply below_drew1 | refine below_set ?_ GE103.out) | exact HB.out))) : w.heap.size ≤ gb107)); have n5_ := Aside0.mk ((by rw [hg]; exact Nat.ne_of_lt (blk_lt (qB BK103.out)) : gb103 ≠ gb107)); have n6_ := Aside0.mk ((by rw [hg]; exact Nat.ne_of_gt (blk_lt (qB BK103.out)) : gb107 ≠ gb103)); clear BK103; clear HB; have BK103 := n0_; have HB := n1_; have BK107 := n2_; have GW107 := n3_; have GE107 := n4_; have NB103_107 := n5_; have NB107_103 := n6_; clear n0_ n1_ n2_ n3_ n4_ n5_ n6_; clear hb hbox hg; have hnb22 := NB107_103.out; have hnc22 := NB103_107.out; have hcz23_0 : w21.cell? ⟨gb107, 0, none⟩ = some (.int .i64 0) := (blk_cell BK107.out 0).trans rfl; have hcz23_1 : w21.cell? ⟨gb107, 1, none⟩ = some (.int .i64 0) := (blk_cell BK107.out 1).trans rfl; have hfz23_0 := blk_frozen BK107.out 0; have hfz23_1 := blk_frozen BK107.out 1; have hcz24_0 : w21.cell? ⟨gb103, 0, none⟩ = some (.int .i64 0) := (blk_cell BK103.out 0).trans rfl; have hcz24_1 : w21.cell? ⟨gb103, 1, none⟩ = some (.int .i64 0) := (blk_cell BK103.out 1).trans rfl; have hfz24_0 := blk_frozen BK103.out 0; have hfz24_1 := blk_frozen BK103.out 1))
         repeat (go_quiet (first | ((with_reducible refine gate_dst (N := 4) rfl ?_); refine box_event ?hg (N := 4) ?hd (cs := #[.int .i64 0, .int .i64 0]) (t := 26) ?hr ?_; (case hd => rfl); (case hg => rfl); (case hr => first | (go_simp; done) | (go_simp; rfl)); intro gb103 hg w20 hbox hb; have n0_ := Aside0.mk (below_step (by repeat (first | (with_reducible first | exact HB.out | apply below_alloc | apply pw_below_drewN | apply below_drew1) | exact HB.out)) hb); have n1_ := Aside0.mk (hbox); have n2_ := Aside0.mk ((by rw [hg]; exact (below_size (by repeat (first | (with_reducible first | exact HB.out | apply below_alloc | apply pw_below_drewN | apply below_drew1) | exact HB.out))) : w.heap.size ≤ gb103)); have n3_ := Aside0.mk ((by rw [hg]; exact (below_size (by repeat (first | (with_reducible first | exact HB.out | apply below_alloc | apply pw_below_drewN | apply below_drew1) | exact HB.out))) : w.heap.size ≤ gb103)); clear HB; have HB := n0_; have BK103 := n1_; have GW103 := n2_; have GE103 := n3_; clear n0_ n1_ n2_ n3_; clear hb hbox hg) | (go_at_call 44; (with_reducible refine (ratio_abs.calls a0 t104 _ A6.out).mono ?_); rintro e w' ⟨rfl, ⟨nd, rfl⟩⟩; (try first | exact ⟨rfl, _, World.drewN_drewN _ _ _⟩ | exact ⟨rfl, _, Eq.trans (World.drewN_drewN _ _ _) (congrArg (World.drewN _) (Nat.add_assoc _ _ _))⟩)) | (go_at_call 44; (with_reducible refine (ratio_abs.calls a1 t105 _ A7.out).mono ?_); rintro e w' ⟨rfl, ⟨nd, rfl⟩⟩; (try first | exact ⟨rfl, _, World.drewN_drewN _ _ _⟩ | exact ⟨rfl, _, Eq.trans (World.drewN_drewN _ _ _) (congrArg (World.drewN _) (Nat.add_assoc _ _ _))⟩)) | (go_at_call 45; (with_reducible refine (ratio_common.calls t104 t105 t106 _ A8.out).mono ?_); rintro e w' ⟨rfl, ⟨nd, rfl⟩⟩; (try first | exact ⟨rfl, _, World.drewN_drewN _ _ _⟩ | exact ⟨rfl, _, Eq.trans (World.drewN_drewN _ _ _) (congrArg (World.drewN _) (Nat.add_assoc _ _ _))⟩)) | ((with_reducible refine gate_dst (N := 9) rfl ?_); refine box_event ?hg (N := 9) ?hd (cs := #[.int .i64 0, .int .i64 0]) (t := 26) ?hr ?_; (case hd => rfl); (case hg => rfl); (case hr => first | (go_simp; done) | (go_simp; rfl)); intro gb107 hg w21 hbox hb; have n0_ := Aside0.mk (blk_below (qB BK103.out) hb); have n1_ := Aside0.mk (below_step (by repeat (first | (with_reducible first | exact HB.out | apply below_alloc | apply pw_below_drewN | apply below_drew1 | refine below_set ?_ GE103.out) | exact HB.out)) hb); have n2_ := Aside0.mk (hbox); have n3_ := Aside0.mk ((by rw [hg]; exact (below_size (by repeat (first | (with_reducible first | exact HB.out | apply below_alloc | apply pw_below_drewN | apply below_drew1 | refine below_set ?_ GE103.out) | exact HB.out))) : w.heap.size ≤ gb107)); have n4_ := Aside0.mk ((by rw [hg]; exact (below_size (by repeat (first | (with_reducible first | exact HB.out | apply below_alloc | apply pw_below_drewN | apply below_drew1 | refine below_set ?_ GE103.out) | exact HB.out))) : w.heap.size ≤ gb107)); have n5_ := Aside0.mk ((by rw [hg]; exact Nat.ne_of_lt (blk_lt (qB BK103.out)) : gb103 ≠ gb107)); have n6_ := Aside0.mk ((by rw [hg]; exact Nat.ne_of_gt (blk_lt (qB BK103.out)) : gb107 ≠ gb103)); clear BK103; clear HB; have BK103 := n0_; have HB := n1_; have BK107 := n2_; have GW107 := n3_; have GE107 := n4_; have NB103_107 := n5_; have NB107_103 := n6_; clear n0_ n1_ n2_ n3_ n4_ n5_ n6_; clear hb hbox hg; have hnb22 := NB107_103.out; have hnc22 := NB103_107.out; have hcz23_0 : w21.cell? ⟨gb107, 0, none⟩ = some (.int .i64 0) := (blk_cell BK107.out 0).trans rfl; have hcz23_1 : w21.cell? ⟨gb107, 1, none⟩ = some (.int .i64 0) := (blk_cell BK107.out 1).trans rfl; have hfz23_0 := blk_frozen BK107.out 0; have hfz23_1 := blk_frozen BK107.out 1; have hcz24_0 : w21.cell? ⟨gb103, 0, none⟩ = some (.int .i64 0) := (blk_cell BK103.out 0).trans rfl; have hcz24_1 : w21.cell? ⟨gb103, 1, none⟩ = some (.int .i64 0) := (blk_cell BK103.out 1).trans rfl; have hfz24_0 := blk_frozen BK103.out 0; have hfz24_1 := blk_frozen BK103.out 1)); try go_wp2_with (first | ((with_reducible refine gate_dst (N := 4) rfl ?_); refine box_event ?hg (N := 4) ?hd (cs := #[.int .i64 0, .int .i64 0]) (t := 26) ?hr ?_; (case hd => rfl); (case hg => rfl); (case hr => first | (go_simp; done) | (go_simp; rfl)); intro gb103 hg w20 hbox hb; have n0_ := Aside0.mk (below_step (by repeat (first | (with_reducible first | exact HB.out | apply below_alloc | apply pw_below_drewN | apply below_drew1) | exact HB.out)) hb); have n1_ := Aside0.mk (hbox); have n2_ := Aside0.mk ((by rw [hg]; exact (below_size (by repeat (first | (with_reducible first | exact HB.out | apply below_alloc | apply pw_below_drewN | apply below_drew1) | exact HB.out))) : w.heap.size ≤ gb103)); have n3_ := Aside0.mk ((by rw [hg]; exact (below_size (by repeat (first | (with_reducible first | exact HB.out | apply below_alloc | apply pw_below_drewN | apply below_drew1) | exact HB.out))) : w.heap.size ≤ gb103)); clear HB; have HB := n0_; have BK103 := n1_; have GW103 := n2_; have GE103 := n3_; clear n0_ n1_ n2_ n3_; clear hb hbox hg) | (go_at_call 44; (with_reducible refine (ratio_abs.calls a0 t104 _ A6.out).mono ?_); rintro e w' ⟨rfl, ⟨nd, rfl⟩⟩; (try first | exact ⟨rfl, _, World.drewN_drewN _ _ _⟩ | exact ⟨rfl, _, Eq.trans (World.drewN_drewN _ _ _) (congrArg (World.drewN _) (Nat.add_assoc _ _ _))⟩)) | (go_at_call 44; (with_reducible refine (ratio_abs.calls a1 t105 _ A7.out).mono ?_); rintro e w' ⟨rfl, ⟨nd, rfl⟩⟩; (try first | exact ⟨rfl, _, World.drewN_drewN _ _ _⟩ | exact ⟨rfl, _, Eq.trans (World.drewN_drewN _ _ _) (congrArg (World.drewN _) (Nat.add_assoc _ _ _))⟩)) | (go_at_call 45; (with_reducible refine (ratio_common.calls t104 t105 t106 _ A8.out).mono ?_); rintro e w' ⟨rfl, ⟨nd, rfl⟩⟩; (try first | exact ⟨rfl, _, World.drewN_drewN _ _ _⟩ | exact ⟨rfl, _, Eq.trans (World.drewN_drewN _ _ _) (congrArg (World.drewN _) (Nat.add_assoc _ _ _))⟩)) | ((with_reducible refine gate_dst (N := 9) rfl ?_); refine box_event ?hg (N := 9) ?hd (cs := #[.int .i64 0, .int .i64 0]) (t := 26) ?hr ?_; (case hd => rfl); (case hg => rfl); (case hr => first | (go_simp; done) | (go_simp; rfl)); intro gb107 hg w21 hbox hb; have n0_ := Aside0.mk (blk_below (qB BK103.out) hb); have n1_ := Aside0.mk (below_step (by repeat (first | (with_reducible first | exact HB.out | apply below_alloc | apply pw_below_drewN | apply below_drew1 | refine below_set ?_ GE103.out) | exact HB.out)) hb); have n2_ := Aside0.mk (hbox); have n3_ := Aside0.mk ((by rw [hg]; exact (below_size (by repeat (first | (with_reducible first | exact HB.out | apply below_alloc | apply pw_below_drewN | apply below_drew1 | refine below_set ?_ GE103.out) | exact HB.out))) : w.heap.size ≤ gb107)); have n4_ := Aside0.mk ((by rw [hg]; exact (below_size (by repeat (first | (with_reducible first | exact HB.out | apply below_alloc | apply pw_below_drewN | apply below_drew1 | refine below_set ?_ GE103.out) | exact HB.out))) : w.heap.size ≤ gb107)); have n5_ := Aside0.mk ((by rw [hg]; exact Nat.ne_of_lt (blk_lt (qB BK103.out)) : gb103 ≠ gb107)); have n6_ := Aside0.mk ((by rw [hg]; exact Nat.ne_of_gt (blk_lt (qB BK103.out)) : gb107 ≠ gb103)); clear BK103; clear HB; have BK103 := n0_; have HB := n1_; have BK107 := n2_; have GW107 := n3_; have GE107 := n4_; have NB103_107 := n5_; have NB107_103 := n6_; clear n0_ n1_ n2_ n3_ n4_ n5_ n6_; clear hb hbox hg; have hnb22 := NB107_103.out; have hnc22 := NB103_107.out; have hcz23_0 : w21.cell? ⟨gb107, 0, none⟩ = some (.int .i64 0) := (blk_cell BK107.out 0).trans rfl; have hcz23_1 : w21.cell? ⟨gb107, 1, none⟩ = some (.int .i64 0) := (blk_cell BK107.out 1).trans rfl; have hfz23_0 := blk_frozen BK107.out 0; have hfz23_1 := blk_frozen BK107.out 1; have hcz24_0 : w21.cell? ⟨gb103, 0, none⟩ = some (.int .i64 0) := (blk_cell BK103.out 0).trans rfl; have hcz24_1 : w21.cell? ⟨gb103, 1, none⟩ = some (.int .i64 0) := (blk_cell BK103.out 1).trans rfl; have hfz24_0 := blk_frozen BK103.out 0; have hfz24_1 := blk_frozen BK103.out 1)))
         refine bodyPost_ret (results_ct rfl _ _ gb103 26 #[.int .i64 (wrap64 (IntKind.u64.wrap (Int.tdiv t104 t106))), .int .i64 (wrap64 (IntKind.u64.wrap (Int.tdiv t105 t106)))] (0, 0) _ rfl (by (with_reducible repeat (first | refine blk_drewN ?_ _ | refine blk_drew ?_ | refine blk_alloc ?_ _)); refine blk_put (cs := #[.int .i64 (wrap64 (IntKind.u64.wrap (Int.tdiv t104 t106))), .int .i64 0]) ?_ 1 _ rfl; (with_reducible repeat (first | refine blk_drewN ?_ _ | refine blk_drew ?_ | refine blk_alloc ?_ _)); refine blk_put (cs := #[.int .i64 0, .int .i64 0]) ?_ 0 _ rfl; (with_reducible repeat (first | refine blk_drewN ?_ _ | refine blk_drew ?_ | refine blk_alloc ?_ _)); refine blk_far ?_ NB103_107.out _; (with_reducible repeat (first | refine blk_drewN ?_ _ | refine blk_drew ?_ | refine blk_alloc ?_ _)); refine blk_far ?_ NB103_107.out _; (with_reducible repeat (first | refine blk_drewN ?_ _ | refine blk_drew ?_ | refine blk_alloc ?_ _)); exact BK103.out) Try.underlying26 rfl (by kernel_rfl)) rfl ?_
         exact ⟨by first | rfl | (simp [errW_none, errW_some] <;> rfl) | (simp only [← hji10]; first | rfl | (simp [errW_none, errW_some] <;> rfl)) | (simp [*, errW_none, errW_some] <;> rfl), by repeat (first | (with_reducible first | exact HB.out | apply below_alloc | apply pw_below_drewN | apply below_drew1 | refine below_set ?_ (Aside0.out (by assumption))) | exact HB.out)⟩

/-! ### ratio_deed_do: function 49 -/
/-- The variables of a deed: the function, both ratios, what comes of it. -/
structure D4 (W : World) (n g : Nat) (a b c d : Int) : Prop where
  f : W.heap[n]? = some (.cells #[.func (.func g) #[] #[]] 66 (0, 0))
  x : W.heap[n + 1]? = some (.cells #[.int .i64 a, .int .i64 b] 26 (0, 0))
  y : W.heap[n + 1 + 1]? = some (.cells #[.int .i64 c, .int .i64 d] 26 (0, 0))
  r : W.heap[n + 1 + 1 + 1]? = some (.cells #[.int .i64 0, .int .i64 0] 26 (0, 0))
theorem D4.step {W W1 : World} {n g : Nat} {a b c d : Int} (h : D4 W n g a b c d) (hb : Below W.heap.size W W1) : D4 W1 n g a b c d := ⟨blk_below h.f hb, blk_below h.x hb, blk_below h.y hb, blk_below h.r hb⟩
theorem D4.new (w : World) (g : Nat) (a b c d : Int) : D4 ((((w.alloc (.cells #[.func (.func g) #[] #[]] 66)).alloc (.cells #[.int .i64 a, .int .i64 b] 26)).alloc (.cells #[.int .i64 c, .int .i64 d] 26)).alloc (.cells #[.int .i64 0, .int .i64 0] 26)) w.heap.size g a b c d := by
  have h0 := blk_new w (.cells #[.func (.func g) #[] #[]] 66)
  have h1 := blk_new (w.alloc (.cells #[.func (.func g) #[] #[]] 66)) (.cells #[.int .i64 a, .int .i64 b] 26)
  have h2 := blk_new ((w.alloc (.cells #[.func (.func g) #[] #[]] 66)).alloc (.cells #[.int .i64 a, .int .i64 b] 26)) (.cells #[.int .i64 c, .int .i64 d] 26)
  have h3 := blk_new (((w.alloc (.cells #[.func (.func g) #[] #[]] 66)).alloc (.cells #[.int .i64 a, .int .i64 b] 26)).alloc (.cells #[.int .i64 c, .int .i64 d] 26)) (.cells #[.int .i64 0, .int .i64 0] 26)
  simp only [World.size_alloc] at h1 h2 h3
  exact ⟨blk_alloc (blk_alloc (blk_alloc h0 _) _) _, blk_alloc (blk_alloc h1 _) _, blk_alloc h2 _, h3⟩
theorem D4.cells {W : World} {n g : Nat} {a b c d : Int} (h : D4 W n g a b c d) : W.cell? ⟨n, 0, none⟩ = some (.func (.func g) #[] #[]) ∧ W.cell? ⟨n + 1, 0, none⟩ = some (.int .i64 a) ∧ W.cell? ⟨n + 1, 1, none⟩ = some (.int .i64 b) ∧ W.cell? ⟨n + 1 + 1, 0, none⟩ = some (.int .i64 c) ∧ W.cell? ⟨n + 1 + 1, 1, none⟩ = some (.int .i64 d) ∧ W.cell? ⟨n + 1 + 1 + 1, 0, none⟩ = some (.int .i64 0) ∧ W.cell? ⟨n + 1 + 1 + 1, 1, none⟩ = some (.int .i64 0) ∧ W.frozen? ⟨n + 1 + 1 + 1, 0, none⟩ = false ∧ W.frozen? ⟨n + 1 + 1 + 1, 1, none⟩ = false :=
  ⟨(blk_cell h.f 0).trans rfl, (blk_cell h.x 0).trans rfl, (blk_cell h.x 1).trans rfl, (blk_cell h.y 0).trans rfl, (blk_cell h.y 1).trans rfl, (blk_cell h.r 0).trans rfl, (blk_cell h.r 1).trans rfl, blk_frozen h.r 0, blk_frozen h.r 1⟩
def doI (a b c d tn td : Int) : Option (Int × Int × Int) := if (rightB a b && rightB c d) = true then ratio_Of.f tn td else some (0, 0, 10)
set_option maxHeartbeats 1000000 in
set_option maxRecDepth 100000 in
theorem deed_do_any (g : Nat) (eg : ∀ args w, (callFunc g args).run Try.prog w = .ok (.enter g args) w) (tn td a b c d r1 r2 r3 : Int) (w : World)
    (hT : ∀ W : World, Calls Try.prog g #[.agg #[.int .i64 a, .int .i64 b], .agg #[.int .i64 c, .int .i64 d]] W fun e W' => e = .returned (.tuple #[.int .i64 tn, .int .i64 td]) ∧ Below W.heap.size W W')
    (h : doI a b c d tn td = some (r1, r2, r3)) :
    Calls Try.prog 49 #[.agg #[.func (.func g) #[] #[]], .agg #[.int .i64 a, .int .i64 b], .agg #[.int .i64 c, .int .i64 d]] w fun e w' => e = .returned (.tuple #[.agg #[.int .i64 r1, .int .i64 r2], .int .i64 r3]) ∧ Below w.heap.size w w' := by
  have HB := Aside0.mk (Below.refl w.heap.size w)
  have hu := Try.underlying26
  have hu54 := Try.underlying66
  have F0 := D4.new w g a b c d
  have HT := Aside0.mk hT
  clear hT
  unfold doI at h
  by_cases h1 : rightB a b = true
  · have R := Aside0.mk (Right_eq h1)
    by_cases h2 : rightB c d = true
    · have RR := Aside0.mk (Right_eq h2)
      simp only [h1, h2, Bool.and_self, if_true] at h
      have HO := Aside0.mk (fun W => ratio_Of.calls tn td r1 r2 r3 W h)
      clear h h1 h2
      go_enter Try.func49, Try.ntmps49
      go_wp2_with (first
        | (go_at_call 38; (with_reducible refine (R.out _).mono ?_); rintro e w1 ⟨rfl, hb⟩; have F1 := F0.step hb; have HB1 := Aside0.mk ((by repeat (first | exact HB.out | apply below_alloc) : Below w.heap.size w _).trans (hb.mono (by simp; omega))); obtain ⟨q0, q1, q2, q3, q4, q5, q6, q7, q8⟩ := F1.cells; clear hb F0)
        | (go_at_call 38; (with_reducible refine (RR.out _).mono ?_); rintro e w2 ⟨rfl, hb⟩; have F2 := F1.step hb; have HB2 := Aside0.mk (HB1.out.trans (hb.mono HB1.out.size)); clear q0 q1 q2 q3 q4 q5 q6 q7 q8; obtain ⟨q0, q1, q2, q3, q4, q5, q6, q7, q8⟩ := F2.cells; clear hb F1)
        | (go_at_fn g; refine (HT.out _).mono ?_; rintro e w3 ⟨rfl, hb⟩; have F3 := F2.step hb; have HB3 := Aside0.mk (HB2.out.trans (hb.mono HB2.out.size)); clear q0 q1 q2 q3 q4 q5 q6 q7 q8; obtain ⟨q0, q1, q2, q3, q4, q5, q6, q7, q8⟩ := F3.cells; clear hb F2)
        | (go_at_call 26; (with_reducible refine (HO.out _).mono ?_); rintro e w4 ⟨rfl, hb⟩; have F4 := F3.step hb; have HB4 := Aside0.mk (HB3.out.trans (hb.mono HB3.out.size)); clear q0 q1 q2 q3 q4 q5 q6 q7 q8; obtain ⟨q0, q1, q2, q3, q4, q5, q6, q7, q8⟩ := F4.cells; clear hb F3))
      refine bodyPost_ret (results_ct rfl _ _ (w.heap.size + 1 + 1 + 1) 26 #[.int .i64 r1, .int .i64 r2] (0, 0) _ rfl (blk_put (cs := #[.int .i64 r1, .int .i64 0]) (blk_put F4.r 0 _ rfl) 1 _ rfl) Try.underlying26 rfl (by kernel_rfl)) rfl ?_
      exact ⟨rfl, below_set (below_set HB4.out (by omega)) (by omega)⟩
    · have RR := Aside0.mk (Right_eq (Bool.eq_false_iff.mpr h2))
      simp only [h2, Bool.and_false, if_false, Bool.false_eq_true] at h
      obtain ⟨rfl, rfl, rfl⟩ : (0 : Int) = r1 ∧ (0 : Int) = r2 ∧ (10 : Int) = r3 := by simpa using h
      clear h h1 h2
      go_enter Try.func49, Try.ntmps49
      go_wp2_with (first
        | (go_at_call 38; (with_reducible refine (R.out _).mono ?_); rintro e w1 ⟨rfl, hb⟩; have F1 := F0.step hb; have HB1 := Aside0.mk ((by repeat (first | exact HB.out | apply below_alloc) : Below w.heap.size w _).trans (hb.mono (by simp; omega))); obtain ⟨q0, q1, q2, q3, q4, q5, q6, q7, q8⟩ := F1.cells; clear hb F0)
        | (go_at_call 38; (with_reducible refine (RR.out _).mono ?_); rintro e w2 ⟨rfl, hb⟩; have F2 := F1.step hb; have HB2 := Aside0.mk (HB1.out.trans (hb.mono HB1.out.size)); clear q0 q1 q2 q3 q4 q5 q6 q7 q8; obtain ⟨q0, q1, q2, q3, q4, q5, q6, q7, q8⟩ := F2.cells; clear hb F1))
      refine bodyPost_ret (results_ct rfl _ _ (w.heap.size + 1 + 1 + 1) 26 #[.int .i64 0, .int .i64 0] (0, 0) _ rfl (blk_put (cs := #[.int .i64 0, .int .i64 0]) (blk_put F2.r 0 _ rfl) 1 _ rfl) Try.underlying26 rfl (by kernel_rfl)) rfl ?_
      exact ⟨rfl, below_set (below_set HB2.out (by omega)) (by omega)⟩
  · have R := Aside0.mk (Right_eq (Bool.eq_false_iff.mpr h1))
    simp only [h1, Bool.false_and, if_false, Bool.false_eq_true] at h
    obtain ⟨rfl, rfl, rfl⟩ : (0 : Int) = r1 ∧ (0 : Int) = r2 ∧ (10 : Int) = r3 := by simpa using h
    clear h h1
    go_enter Try.func49, Try.ntmps49
    go_wp2_with (go_at_call 38; (with_reducible refine (R.out _).mono ?_); rintro e w1 ⟨rfl, hb⟩; have F1 := F0.step hb; have HB1 := Aside0.mk ((by repeat (first | exact HB.out | apply below_alloc) : Below w.heap.size w _).trans (hb.mono (by simp; omega))); obtain ⟨q0, q1, q2, q3, q4, q5, q6, q7, q8⟩ := F1.cells; clear hb F0)
    refine bodyPost_ret (results_ct rfl _ _ (w.heap.size + 1 + 1 + 1) 26 #[.int .i64 0, .int .i64 0] (0, 0) _ rfl (blk_put (cs := #[.int .i64 0, .int .i64 0]) (blk_put F1.r 0 _ rfl) 1 _ rfl) Try.underlying26 rfl (by kernel_rfl)) rfl ?_
    exact ⟨rfl, below_set (below_set HB1.out (by omega)) (by omega)⟩

/-! ### ratio_Sub: function 29 -/
set_option maxRecDepth 100000 in
theorem Sub_terms (a b c d : Int) (w : World) :
    Calls Try.prog 48 #[.agg #[.int .i64 a, .int .i64 b], .agg #[.int .i64 c, .int .i64 d]] w fun e w' => e = .returned (.tuple #[.int .i64 (wrap64 (wrap64 (a * d) - wrap64 (c * b))), .int .i64 (wrap64 (b * d))]) ∧ Below w.heap.size w w' := by
  have HB := Aside0.mk (Below.refl w.heap.size w)
  go_enter Try.func48, Try.ntmps48
  go_wp2
  go_quiet (fail)
  go_wp2
  go_ret2
  exact ⟨by first | rfl | (simp only [i64_w]; done) | (simp only [i64_w]; rfl), by repeat (first | exact HB.out | apply below_alloc | apply pw_below_drewN | apply below_drew1)⟩
def ratio_Sub.f (a b c d : Int) : Option (Int × Int × Int) := doI a b c d (wrap64 (wrap64 (a * d) - wrap64 (c * b))) (wrap64 (b * d))
theorem ratio_Sub.new (w : World) (x y : Obj) (cs : Array Value) (t : TypeId) : (((w.alloc x).alloc y).alloc (.cells cs t)).heap[w.heap.size + 1 + 1]? = some (.cells cs t (0, 0)) := by
  have h := blk_new ((w.alloc x).alloc y) (.cells cs t)
  simpa only [World.size_alloc] using h
set_option maxHeartbeats 1000000 in
set_option maxRecDepth 100000 in
theorem ratio_Sub.calls (a b c d r1 r2 r3 : Int) (w : World) (h : ratio_Sub.f a b c d = some (r1, r2, r3)) :
    Calls Try.prog 29 #[.agg #[.int .i64 a, .int .i64 b], .agg #[.int .i64 c, .int .i64 d]] w fun e w' => e = .returned (.tuple #[.agg #[.int .i64 r1, .int .i64 r2], .int .i64 r3]) ∧ Below w.heap.size w w' := by
  have HB := Aside0.mk (Below.refl w.heap.size w)
  have hu := Try.underlying26
  have hu54 := Try.underlying66
  have HD := Aside0.mk (fun W => deed_do_any 48 (enters_of Try.func48 (by kernel_rfl) rfl) _ _ a b c d r1 r2 r3 W (fun W => Sub_terms a b c d W) h)
  have HX := Aside0.mk (ratio_Sub.new w (.cells #[.int .i64 a, .int .i64 b] 26) (.cells #[.int .i64 c, .int .i64 d] 26) #[.int .i64 0, .int .i64 0] 26)
  clear h
  go_enter Try.func29, Try.ntmps29
  go_wp2_with (go_at_call 49; (with_reducible refine (HD.out _).mono ?_); rintro e w1 ⟨rfl, hb⟩; have BX := Aside0.mk (blk_below HX.out hb); have HB1 := Aside0.mk ((by repeat (first | exact HB.out | apply below_alloc) : Below w.heap.size w _).trans (hb.mono (by simp; omega))); have q5 : w1.cell? ⟨w.heap.size + 1 + 1, 0, none⟩ = some (.int .i64 0) := (blk_cell BX.out 0).trans rfl; have q6 : w1.cell? ⟨w.heap.size + 1 + 1, 1, none⟩ = some (.int .i64 0) := (blk_cell BX.out 1).trans rfl; have q7 := blk_frozen BX.out 0; have q8 := blk_frozen BX.out 1; clear hb)
  refine bodyPost_ret (results_ct rfl _ _ (w.heap.size + 1 + 1) 26 #[.int .i64 r1, .int .i64 r2] (0, 0) _ rfl (blk_put (cs := #[.int .i64 r1, .int .i64 0]) (blk_put BX.out 0 _ rfl) 1 _ rfl) Try.underlying26 rfl (by kernel_rfl)) rfl ?_
  exact ⟨rfl, below_set (below_set HB1.out (by omega)) (by omega)⟩

/-! ### ratio_Mul: function 32 -/
set_option maxRecDepth 100000 in
theorem Mul_terms (a b c d : Int) (w : World) :
    Calls Try.prog 51 #[.agg #[.int .i64 a, .int .i64 b], .agg #[.int .i64 c, .int .i64 d]] w fun e w' => e = .returned (.tuple #[.int .i64 (wrap64 (a * c)), .int .i64 (wrap64 (b * d))]) ∧ Below w.heap.size w w' := by
  have HB := Aside0.mk (Below.refl w.heap.size w)
  go_enter Try.func51, Try.ntmps51
  go_wp2
  go_quiet (fail)
  go_wp2
  go_ret2
  exact ⟨by first | rfl | (simp only [i64_w]; done) | (simp only [i64_w]; rfl), by repeat (first | exact HB.out | apply below_alloc | apply pw_below_drewN | apply below_drew1)⟩
def ratio_Mul.f (a b c d : Int) : Option (Int × Int × Int) := doI a b c d (wrap64 (a * c)) (wrap64 (b * d))
theorem ratio_Mul.new (w : World) (x y : Obj) (cs : Array Value) (t : TypeId) : (((w.alloc x).alloc y).alloc (.cells cs t)).heap[w.heap.size + 1 + 1]? = some (.cells cs t (0, 0)) := by
  have h := blk_new ((w.alloc x).alloc y) (.cells cs t)
  simpa only [World.size_alloc] using h
set_option maxHeartbeats 1000000 in
set_option maxRecDepth 100000 in
theorem ratio_Mul.calls (a b c d r1 r2 r3 : Int) (w : World) (h : ratio_Mul.f a b c d = some (r1, r2, r3)) :
    Calls Try.prog 32 #[.agg #[.int .i64 a, .int .i64 b], .agg #[.int .i64 c, .int .i64 d]] w fun e w' => e = .returned (.tuple #[.agg #[.int .i64 r1, .int .i64 r2], .int .i64 r3]) ∧ Below w.heap.size w w' := by
  have HB := Aside0.mk (Below.refl w.heap.size w)
  have hu := Try.underlying26
  have hu54 := Try.underlying66
  have HD := Aside0.mk (fun W => deed_do_any 51 (enters_of Try.func51 (by kernel_rfl) rfl) _ _ a b c d r1 r2 r3 W (fun W => Mul_terms a b c d W) h)
  have HX := Aside0.mk (ratio_Mul.new w (.cells #[.int .i64 a, .int .i64 b] 26) (.cells #[.int .i64 c, .int .i64 d] 26) #[.int .i64 0, .int .i64 0] 26)
  clear h
  go_enter Try.func32, Try.ntmps32
  go_wp2_with (go_at_call 49; (with_reducible refine (HD.out _).mono ?_); rintro e w1 ⟨rfl, hb⟩; have BX := Aside0.mk (blk_below HX.out hb); have HB1 := Aside0.mk ((by repeat (first | exact HB.out | apply below_alloc) : Below w.heap.size w _).trans (hb.mono (by simp; omega))); have q5 : w1.cell? ⟨w.heap.size + 1 + 1, 0, none⟩ = some (.int .i64 0) := (blk_cell BX.out 0).trans rfl; have q6 : w1.cell? ⟨w.heap.size + 1 + 1, 1, none⟩ = some (.int .i64 0) := (blk_cell BX.out 1).trans rfl; have q7 := blk_frozen BX.out 0; have q8 := blk_frozen BX.out 1; clear hb)
  refine bodyPost_ret (results_ct rfl _ _ (w.heap.size + 1 + 1) 26 #[.int .i64 r1, .int .i64 r2] (0, 0) _ rfl (blk_put (cs := #[.int .i64 r1, .int .i64 0]) (blk_put BX.out 0 _ rfl) 1 _ rfl) Try.underlying26 rfl (by kernel_rfl)) rfl ?_
  exact ⟨rfl, below_set (below_set HB1.out (by omega)) (by omega)⟩

end Go.Proofs.Ytbncdlnnjhadgaa.Q
