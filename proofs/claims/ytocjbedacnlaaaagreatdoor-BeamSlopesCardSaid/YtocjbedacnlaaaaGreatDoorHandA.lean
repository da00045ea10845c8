/- Hand texts, laid as one (merge23.py). No conditions. -/
import Derived.Test.YtocjbedacnlaaaaGreatDoorQ0
import Derived.Shelf.Unicode.DecodeSlow
import Derived.Shelf.Abstract
import Derived.IntWalk
import Derived.WalkKit
import Derived.BigCall
import Derived.Deep.QuietTactic
import Derived.BigQuiet
import Derived.Deep.RegionHeld3
import Derived.Test.YtocjbedacnlaaaaGreatDoorChecked
import Derived.LaidEql
import Derived.Stop.Asserts
import Derived.RowKitTokens
import Derived.Deep.DeepMust
import Derived.Shelf.GgClosure.StringsIndexFunc
import Derived.Ground.GgwProg
import Derived.Shelf.GgClosure.StringsIndexFuncTop
import Derived.Shelf.Strings.FuncGrows
import Derived.Shelf.Unicode.ValidAny
import Derived.Lib.LaidU8T
import Derived.Test.YtocjbedacnlaaaaGreatDoorProg
import Derived.DeepKeys5
import Derived.Maps.OwnSet
import Derived.Maps.OwnOps
import Derived.Maps.RangeWalk
import Derived.WalkSpells
/- What the five listed variables hold, as a walk wants it. No conditions. -/
namespace Go.Proofs.YtocjbedacnlaaaaGreatDoor.Q
open Go.RowKit Go.Shelf Go.Proofs.YtocjbedacnlaaaaGreatDoorW.PrintWords
set_option linter.unusedVariables false
set_option linter.unusedSimpArgs false
/-- What the listed variables hold: the error type's handle, the dots' lengths, the steps' half tones, the tables of package utf8. -/
structure SentsE (w : World) : Prop where
  err : w.cell? ⟨0, 0, none⟩ = some (.iface 126 (.agg #[.pointer (some ⟨5, 64, none⟩)]))
  dot : ∀ (i : Nat) (x : Int), ([1, 1, 3, 2, 7, 4] : List Int)[i]? = some x → w.cell? ⟨1, i, none⟩ = some (.int .i64 x)
  half : ∀ (i : Nat) (x : Int), ([0, 2, 4, 5, 7, 9, 11] : List Int)[i]? = some x → w.cell? ⟨4, i, none⟩ = some (.int .i64 x)
  tabs : Lib.Utf8Tabs 2 3 w
theorem cell_lt {w : World} {p : Addr} {v : Value} (h : w.cell? p = some v) : p.block < w.heap.size := by
  rcases Nat.lt_or_ge p.block w.heap.size with h' | h'
  · exact h'
  · simp [World.cell?, Array.getElem?_eq_none h'] at h
theorem SentsE.below {w W : World} (h : SentsE w) (hb : Below w.heap.size w W) : SentsE W :=
  ⟨(hb.cell (p := ⟨0, 0, none⟩) (cell_lt h.err)).trans h.err,
   fun i x hx => (hb.cell (p := ⟨1, i, none⟩) (cell_lt (h.dot i x hx))).trans (h.dot i x hx),
   fun i x hx => (hb.cell (p := ⟨4, i, none⟩) (cell_lt (h.half i x hx))).trans (h.half i x hx),
   Utf8Tabs_below h.tabs hb⟩
theorem sents_step {w X : World} (h : Aside0 (SentsE w)) (hb : Below w.heap.size w X) : Aside0 (SentsE X) := ⟨h.out.below hb⟩
end Go.Proofs.YtocjbedacnlaaaaGreatDoor.Q
/- slices.IndexFunc over whole numbers, over events and over ratios, at any function value that answers as a plain predicate does. No conditions. -/
namespace Go.Proofs.YtocjbedacnlaaaaGreatDoor.Q
open Go.RowKit Go.Shelf Go.Proofs.YtocjbedacnlaaaaGreatDoorW.PrintWords
set_option linter.unusedVariables false
set_option linter.unusedSimpArgs false
/-- The number of the first thing that is so; -1: none is. -/
def idxF {α : Type} (p : α → Bool) (l : List α) : Int := match l.findIdx? p with | some i => (i : Int) | none => -1
theorem idxF_at {α : Type} {p : α → Bool} {l : List α} {k : Nat} (hk : k < l.length) (hp : p l[k] = true) (hn : ∀ j (hj : j < k), p (l[j]'(by omega)) = false) : idxF p l = k := by
  have : l.findIdx? p = some k := by
    rw [List.findIdx?_eq_some_iff_getElem]
    exact ⟨hk, hp, fun j hj => by simp [hn j hj]⟩
  unfold idxF; rw [this]
theorem idxF_no {α : Type} {p : α → Bool} {l : List α} (hn : ∀ j (hj : j < l.length), p l[j] = false) : idxF p l = -1 := by
  have : l.findIdx? p = none := by
    rw [List.findIdx?_eq_none_iff]
    intro x hx
    obtain ⟨j, hj, rfl⟩ := List.getElem_of_mem hx
    exact hn j hj
  unfold idxF; rw [this]
theorem idxF_any {α : Type} (p : α → Bool) (l : List α) : decide (0 ≤ idxF p l) = l.any p := by
  unfold idxF
  cases h : l.findIdx? p with
  | none =>
    rw [List.findIdx?_eq_none_iff] at h
    rw [show l.any p = false from by rw [List.any_eq_false]; intro x hx; simp [h x hx]]
    rfl
  | some i =>
    rw [List.findIdx?_eq_some_iff_getElem] at h
    obtain ⟨h1, h2, _⟩ := h
    rw [show l.any p = true from List.any_eq_true.2 ⟨_, List.getElem_mem h1, h2⟩]
    simp
theorem ret_i {a b : Int} (h : a = b) : Ending.returned (.int .i64 a) = .returned (.int .i64 b) := by rw [h]
set_option maxHeartbeats 2000000 in
set_option maxRecDepth 100000 in
theorem idxI_calls (g : Nat) (lb : Array Value) (eg : ∀ args w, (callFunc g args).run Tryz.prog w = .ok (.enter g args) w) (p : Int → Bool) (A : Option Addr) (c : Nat) (l : List Int) (w : World)
    (hp : ∀ (W : World) (x : Int), Below w.heap.size w W → Calls Tryz.prog g (#[.int .i64 x] ++ lb) W fun e W' => e = .returned (.bool (p x)) ∧ Below W.heap.size W W')
    (hr : Kd.C (Kd.int .i64) w A l.length l) :
    Calls Tryz.prog 43 #[.slice A l.length c, .func (.func g) #[] lb] w fun e w' => e = .returned (.int .i64 (idxF p l)) ∧ Below w.heap.size w w' := by
  have hu22 := Tryz.underlying22
  have hlen := hr.2.1
  have HP := Aside0.mk hp
  have HR := Aside0.mk hr
  clear hp hr
  go_enter Tryz.func43, Tryz.ntmps43
  go_wp2
  go_loopw [5, 8] (fun _ i wr => ∃ k : Nat, k ≤ l.length ∧ i = .int .i64 k ∧ Aside0 (∀ j (hj : j < k) (hl : j < l.length), p l[j] = false) ∧ Aside0 (Below w.heap.size w wr)) (fun _ i _ => l.length - (intOf i).toNat)
  case atStart => exact ⟨0, Nat.zero_le _, rfl, ⟨fun j hj => absurd hj (Nat.not_lt_zero _)⟩, ⟨Below.refl _ _⟩⟩
  case round =>
    obtain ⟨k, hk, rfl, HN, HB⟩ := hrel
    by_cases hlt : k < l.length
    · have w2 : IntKind.i64.wrap ((k : Int) + 1) = ((k + 1 : Nat) : Int) := by rw [IntWalk.i64_in _ (by omega)]; omega
      obtain ⟨ad, rfl, hx⟩ := Kd.at_int (Kd.C_below HR.out HB.out) (k : Int) (by omega) (by omega)
      rw [Int.toNat_natCast] at hx
      have hgk : rd l (k : Int) = l[k] := by simp [rd, List.getD, hlt]
      have HG := Aside0.mk hgk
      generalize rd l (k : Int) = x at hx hgk HG
      clear hgk
      by_cases hq : p x = true
      · have hc := HP.out wr x HB.out
        rw [hq] at hc
        have HQ := Aside0.mk hq
        have HC := Aside0.mk hc
        clear hq hc
        go_wp2_with (first | ((with_reducible refine HC.out.mono ?_); rintro e w1 ⟨rfl, hb1⟩))
        go_ret
        exact ⟨ret_i (idxF_at hlt (by rw [← HG.out]; exact HQ.out) (fun j hj => HN.out j hj (by omega))).symm, HB.out.trans (hb1.mono HB.out.size)⟩
      · replace hq := Bool.eq_false_iff.mpr hq
        have hc := HP.out wr x HB.out
        rw [hq] at hc
        have HQ := Aside0.mk hq
        have HC := Aside0.mk hc
        clear hq hc
        go_wp2_with (first | ((with_reducible refine HC.out.mono ?_); rintro e w1 ⟨rfl, hb1⟩))
        go_roundw
        case rel =>
          refine ⟨k + 1, hlt, by go_num, ⟨fun j hj hl => ?_⟩, ⟨HB.out.trans (hb1.mono HB.out.size)⟩⟩
          rcases Nat.lt_or_ge j k with h | h
          · exact HN.out j h hl
          · obtain rfl : j = k := by omega
            rw [← HG.out]; exact HQ.out
        case measure => simp [intOf]; omega
    · have HH : Aside0 (k = l.length) := ⟨by omega⟩
      go_wp2
      go_ret
      exact ⟨ret_i (idxF_no (fun j hj => HN.out j (by have := HH.out; omega) hj)).symm, HB.out⟩
end Go.Proofs.YtocjbedacnlaaaaGreatDoor.Q
/- How high a pitch sounds; how long a value is: the walks that read the package tables. -/
namespace Go.Proofs.YtocjbedacnlaaaaGreatDoor.Q
open Go.RowKit Go.Shelf Go.Proofs.YtocjbedacnlaaaaGreatDoorW.PrintWords
set_option linter.unusedVariables false
set_option linter.unusedSimpArgs false
/-- The half tones of each step above C. -/
def halfL (n : Int) : Int := ([0, 2, 4, 5, 7, 9, 11] : List Int).getD n.toNat 0
set_option maxHeartbeats 2000000 in
set_option maxRecDepth 100000 in
theorem number_one (s : Nat) (hs : s ≤ 6) (x a b : Int) (w : World) (hc : w.cell? ⟨4, s, none⟩ = some (.int .i64 x)) (hx0 : 0 ≤ x) (hx1 : x ≤ 11) (ha : -100 ≤ a) (ha2 : a ≤ 100) (hb : -100 ≤ b) (hb2 : b ≤ 100) :
    Calls Tryz.prog 118 #[.agg #[.int .i64 (s : Int), .int .i64 a, .int .i64 b]] w fun e w' => e = .returned (.int .i64 (12 * (b + 1) + x + a)) ∧ Below w.heap.size w w' := by
  have hu43 := Tryz.underlying43
  have hu177 := Tryz.underlying177
  have HB := Aside0.mk (Below.refl w.heap.size w)
  have hl := cell_lt hc
  dsimp only at hl
  go_enter Tryz.func118, Tryz.ntmps118
  go_wp2
  go_quiet (fail)
  go_wp2
  go_ret
  exact ⟨rfl, by repeat (first | exact HB.out | apply below_alloc | apply pw_below_drewN)⟩

set_option maxHeartbeats 4000000 in
set_option maxRecDepth 100000 in
theorem length_one (n : Int) (m : Int) (b d : Nat) (x y z : Int) (r1 r2 r3 : Int) (w : World) (hb : b ≤ 6) (hd : d ≤ 2) (hx0 : 1 ≤ x) (hx1 : x ≤ 7) (hy0 : 1 ≤ y) (hy1 : y ≤ 4) (hz : y * 2 ^ b = z) (hz0 : 1 ≤ z) (hz1 : z ≤ 256) (hn0 : 1 ≤ n) (hn1 : n ≤ 15) (hm0 : 1 ≤ m) (hm1 : m ≤ 15)
    (hc0 : w.cell? ⟨1, d * 2, none⟩ = some (.int .i64 x)) (hc1 : w.cell? ⟨1, d * 2 + 1, none⟩ = some (.int .i64 y))
    (hR : ∀ W, Below w.heap.size w W → Calls Tryz.prog 95 #[.agg #[.int .i64 (b : Int), .int .i64 (d : Int), .int .i64 n, .int .i64 m]] W fun e W' => e = .returned (.bool true) ∧ Below W.heap.size W W')
    (hO : ∀ W, Calls Tryz.prog 58 #[.int .i64 (wrap64 (x * m)), .int .i64 (wrap64 (z * n))] W fun e W' => e = .returned (.tuple #[.agg #[.int .i64 r1, .int .i64 r2], .int .i64 r3]) ∧ Below W.heap.size W W') :
    Calls Tryz.prog 83 #[.agg #[.int .i64 (b : Int), .int .i64 (d : Int), .int .i64 n, .int .i64 m]] w fun e w' => e = .returned (.tuple #[.agg #[.int .i64 r1, .int .i64 r2], .int .i64 r3]) ∧ Below w.heap.size w w' := by
  have hu39 := Tryz.underlying39
  have hu72 := Tryz.underlying72
  have hu152 := Tryz.underlying152
  have HB := Aside0.mk (Below.refl w.heap.size w)
  have hl := cell_lt hc0
  dsimp only at hl
  have HR := Aside0.mk hR
  have HO := Aside0.mk hO
  have HC0 := Aside0.mk hc0
  have HC1 := Aside0.mk hc1
  have hB0 : Below w.heap.size w ((w.alloc (.cells #[.int .i64 (b : Int), .int .i64 (d : Int), .int .i64 n, .int .i64 m] 39)).alloc (.cells #[.int .i64 0, .int .i64 0] 72)) := below_alloc (below_alloc (Below.refl _ _) _) _
  have BM0 := blk_alloc (blk_new w (.cells #[.int .i64 (b : Int), .int .i64 (d : Int), .int .i64 n, .int .i64 m] 39)) (.cells #[.int .i64 0, .int .i64 0] 72)
  have BO0 := blk_new (w.alloc (.cells #[.int .i64 (b : Int), .int .i64 (d : Int), .int .i64 n, .int .i64 m] 39)) (.cells #[.int .i64 0, .int .i64 0] 72)
  rw [World.size_alloc] at BO0
  have HB0 := Aside0.mk hB0
  have HM0 := Aside0.mk BM0
  have HO0 := Aside0.mk BO0
  have hzw : wrap64 (y * 2 ^ b) = z := by rw [hz]; unfold wrap64; omega
  have HZ := Aside0.mk hzw
  clear hz hzw
  clear hR hO hc0 hc1 hB0 BM0 BO0
  go_enter Tryz.func83, Tryz.ntmps83
  go_wp2_with (first | (go_at_call 95; ((with_reducible refine (HR.out _ HB0.out).mono ?_); rintro e w1 ⟨rfl, hb1⟩; have HM1 := Aside0.mk (blk_below HM0.out hb1); have HO1 := Aside0.mk (blk_below HO0.out hb1); have HB1 := Aside0.mk (below_step HB0.out hb1); have k0 := (HB1.out.cell (p := ⟨1, d * 2, none⟩) hl).trans HC0.out; have k1 := (HB1.out.cell (p := ⟨1, d * 2 + 1, none⟩) hl).trans HC1.out; have m0 : w1.cell? ⟨w.heap.size, 0, none⟩ = some (.int .i64 (b : Int)) := (blk_cell HM1.out 0).trans rfl; have m1 : w1.cell? ⟨w.heap.size, 1, none⟩ = some (.int .i64 (d : Int)) := (blk_cell HM1.out 1).trans rfl; have m2 : w1.cell? ⟨w.heap.size, 2, none⟩ = some (.int .i64 n) := (blk_cell HM1.out 2).trans rfl; have m3 : w1.cell? ⟨w.heap.size, 3, none⟩ = some (.int .i64 m) := (blk_cell HM1.out 3).trans rfl; have o0 : w1.cell? ⟨w.heap.size + 1, 0, none⟩ = some (.int .i64 0) := (blk_cell HO1.out 0).trans rfl; have o1 : w1.cell? ⟨w.heap.size + 1, 1, none⟩ = some (.int .i64 0) := (blk_cell HO1.out 1).trans rfl; have f0 := blk_frozen HO1.out 0; have f1 := blk_frozen HO1.out 1; have hz2 := hb1.size; simp only [World.size_alloc] at hz2; have hz3 : w.heap.size < w1.heap.size := (by omega); have hz4 : w.heap.size + 1 < w1.heap.size := (by omega); have hz5 : 1 < w1.heap.size := (by omega); clear hb1 hz2)))
  go_quiet (fail)
  go_wp2
  rw [HZ.out]
  go_quiet (fail)
  go_wp2_with (first | (go_at_call 58; ((with_reducible refine (HO.out _).mono ?_); rintro e w2 ⟨rfl, hb2⟩; have HO2 := Aside0.mk (blk_below (blk_drewN (blk_alloc HO1.out _) _) hb2); have HB2 := Aside0.mk (below_step (pw_below_drewN (below_alloc HB1.out _) _) hb2); have p0 : w2.cell? ⟨w.heap.size + 1, 0, none⟩ = some (.int .i64 0) := (blk_cell HO2.out 0).trans rfl; have p1 : w2.cell? ⟨w.heap.size + 1, 1, none⟩ = some (.int .i64 0) := (blk_cell HO2.out 1).trans rfl; have q0 := blk_frozen HO2.out 0; have q1 := blk_frozen HO2.out 1; clear hb2)))
  refine bodyPost_ret (results_ct rfl _ _ (w.heap.size + 1) 72 #[.int .i64 r1, .int .i64 r2] (0, 0) _ rfl (blk_put (cs := #[.int .i64 r1, .int .i64 0]) (blk_put HO2.out 0 _ rfl) 1 _ rfl) Tryz.underlying72 rfl (by kernel_rfl)) rfl ?_
  exact ⟨rfl, below_set (below_set HB2.out (by omega)) (by omega)⟩
set_option maxHeartbeats 4000000 in
set_option maxRecDepth 100000 in
theorem length_plain (b d : Nat) (x y z : Int) (r1 r2 r3 : Int) (w : World) (hb : b ≤ 6) (hd : d ≤ 2) (hx0 : 1 ≤ x) (hx1 : x ≤ 7) (hy0 : 1 ≤ y) (hy1 : y ≤ 4) (hz : y * 2 ^ b = z) (hz0 : 1 ≤ z) (hz1 : z ≤ 256)
    (hc0 : w.cell? ⟨1, d * 2, none⟩ = some (.int .i64 x)) (hc1 : w.cell? ⟨1, d * 2 + 1, none⟩ = some (.int .i64 y))
    (hR : ∀ W, Below w.heap.size w W → Calls Tryz.prog 95 #[.agg #[.int .i64 (b : Int), .int .i64 (d : Int), .int .i64 0, .int .i64 0]] W fun e W' => e = .returned (.bool true) ∧ Below W.heap.size W W')
    (hO : ∀ W, Calls Tryz.prog 58 #[.int .i64 (x), .int .i64 (z)] W fun e W' => e = .returned (.tuple #[.agg #[.int .i64 r1, .int .i64 r2], .int .i64 r3]) ∧ Below W.heap.size W W') :
    Calls Tryz.prog 83 #[.agg #[.int .i64 (b : Int), .int .i64 (d : Int), .int .i64 0, .int .i64 0]] w fun e w' => e = .returned (.tuple #[.agg #[.int .i64 r1, .int .i64 r2], .int .i64 r3]) ∧ Below w.heap.size w w' := by
  have hu39 := Tryz.underlying39
  have hu72 := Tryz.underlying72
  have hu152 := Tryz.underlying152
  have HB := Aside0.mk (Below.refl w.heap.size w)
  have hl := cell_lt hc0
  dsimp only at hl
  have HR := Aside0.mk hR
  have HO := Aside0.mk hO
  have HC0 := Aside0.mk hc0
  have HC1 := Aside0.mk hc1
  have hB0 : Below w.heap.size w ((w.alloc (.cells #[.int .i64 (b : Int), .int .i64 (d : Int), .int .i64 0, .int .i64 0] 39)).alloc (.cells #[.int .i64 0, .int .i64 0] 72)) := below_alloc (below_alloc (Below.refl _ _) _) _
  have BM0 := blk_alloc (blk_new w (.cells #[.int .i64 (b : Int), .int .i64 (d : Int), .int .i64 0, .int .i64 0] 39)) (.cells #[.int .i64 0, .int .i64 0] 72)
  have BO0 := blk_new (w.alloc (.cells #[.int .i64 (b : Int), .int .i64 (d : Int), .int .i64 0, .int .i64 0] 39)) (.cells #[.int .i64 0, .int .i64 0] 72)
  rw [World.size_alloc] at BO0
  have HB0 := Aside0.mk hB0
  have HM0 := Aside0.mk BM0
  have HO0 := Aside0.mk BO0
  have hzw : wrap64 (y * 2 ^ b) = z := by rw [hz]; unfold wrap64; omega
  have HZ := Aside0.mk hzw
  clear hz hzw
  clear hR hO hc0 hc1 hB0 BM0 BO0
  go_enter Tryz.func83, Tryz.ntmps83
  go_wp2_with (first | (go_at_call 95; ((with_reducible refine (HR.out _ HB0.out).mono ?_); rintro e w1 ⟨rfl, hb1⟩; have HM1 := Aside0.mk (blk_below HM0.out hb1); have HO1 := Aside0.mk (blk_below HO0.out hb1); have HB1 := Aside0.mk (below_step HB0.out hb1); have k0 := (HB1.out.cell (p := ⟨1, d * 2, none⟩) hl).trans HC0.out; have k1 := (HB1.out.cell (p := ⟨1, d * 2 + 1, none⟩) hl).trans HC1.out; have m0 : w1.cell? ⟨w.heap.size, 0, none⟩ = some (.int .i64 (b : Int)) := (blk_cell HM1.out 0).trans rfl; have m1 : w1.cell? ⟨w.heap.size, 1, none⟩ = some (.int .i64 (d : Int)) := (blk_cell HM1.out 1).trans rfl; have m2 : w1.cell? ⟨w.heap.size, 2, none⟩ = some (.int .i64 0) := (blk_cell HM1.out 2).trans rfl; have m3 : w1.cell? ⟨w.heap.size, 3, none⟩ = some (.int .i64 0) := (blk_cell HM1.out 3).trans rfl; have o0 : w1.cell? ⟨w.heap.size + 1, 0, none⟩ = some (.int .i64 0) := (blk_cell HO1.out 0).trans rfl; have o1 : w1.cell? ⟨w.heap.size + 1, 1, none⟩ = some (.int .i64 0) := (blk_cell HO1.out 1).trans rfl; have f0 := blk_frozen HO1.out 0; have f1 := blk_frozen HO1.out 1; have hz2 := hb1.size; simp only [World.size_alloc] at hz2; have hz3 : w.heap.size < w1.heap.size := (by omega); have hz4 : w.heap.size + 1 < w1.heap.size := (by omega); have hz5 : 1 < w1.heap.size := (by omega); clear hb1 hz2)))
  go_quiet (fail)
  rw [HZ.out]
  go_wp2_with (first | (go_at_call 58; ((with_reducible refine (HO.out _).mono ?_); rintro e w2 ⟨rfl, hb2⟩; have HO2 := Aside0.mk (blk_below (blk_drewN (blk_alloc HO1.out _) _) hb2); have HB2 := Aside0.mk (below_step (pw_below_drewN (below_alloc HB1.out _) _) hb2); have p0 : w2.cell? ⟨w.heap.size + 1, 0, none⟩ = some (.int .i64 0) := (blk_cell HO2.out 0).trans rfl; have p1 : w2.cell? ⟨w.heap.size + 1, 1, none⟩ = some (.int .i64 0) := (blk_cell HO2.out 1).trans rfl; have q0 := blk_frozen HO2.out 0; have q1 := blk_frozen HO2.out 1; clear hb2)))
  refine bodyPost_ret (results_ct rfl _ _ (w.heap.size + 1) 72 #[.int .i64 r1, .int .i64 r2] (0, 0) _ rfl (blk_put (cs := #[.int .i64 r1, .int .i64 0]) (blk_put HO2.out 0 _ rfl) 1 _ rfl) Tryz.underlying72 rfl (by kernel_rfl)) rfl ?_
  exact ⟨rfl, below_set (below_set HB2.out (by omega)) (by omega)⟩

set_option maxHeartbeats 4000000 in
set_option maxRecDepth 100000 in
theorem length_no (b d n m : Int) (w : World)
    (hR : ∀ W, Below w.heap.size w W → Calls Tryz.prog 95 #[.agg #[.int .i64 b, .int .i64 d, .int .i64 n, .int .i64 m]] W fun e W' => e = .returned (.bool false) ∧ Below W.heap.size W W') :
    Calls Tryz.prog 83 #[.agg #[.int .i64 b, .int .i64 d, .int .i64 n, .int .i64 m]] w fun e w' => e = .returned (.tuple #[.agg #[.int .i64 0, .int .i64 0], .int .i64 40]) ∧ Below w.heap.size w w' := by
  have hu39 := Tryz.underlying39
  have hu72 := Tryz.underlying72
  have HR := Aside0.mk hR
  have hB0 : Below w.heap.size w ((w.alloc (.cells #[.int .i64 b, .int .i64 d, .int .i64 n, .int .i64 m] 39)).alloc (.cells #[.int .i64 0, .int .i64 0] 72)) := below_alloc (below_alloc (Below.refl _ _) _) _
  have BO0 := blk_new (w.alloc (.cells #[.int .i64 b, .int .i64 d, .int .i64 n, .int .i64 m] 39)) (.cells #[.int .i64 0, .int .i64 0] 72)
  rw [World.size_alloc] at BO0
  have HB0 := Aside0.mk hB0
  have HO0 := Aside0.mk BO0
  clear hR hB0 BO0
  go_enter Tryz.func83, Tryz.ntmps83
  go_wp2_with (first | (go_at_call 95; ((with_reducible refine (HR.out _ HB0.out).mono ?_); rintro e w1 ⟨rfl, hb1⟩; have HO1 := Aside0.mk (blk_below HO0.out hb1); have HB1 := Aside0.mk (below_step HB0.out hb1); have o0 : w1.cell? ⟨w.heap.size + 1, 0, none⟩ = some (.int .i64 0) := (blk_cell HO1.out 0).trans rfl; have o1 : w1.cell? ⟨w.heap.size + 1, 1, none⟩ = some (.int .i64 0) := (blk_cell HO1.out 1).trans rfl; have f0 := blk_frozen HO1.out 0; have f1 := blk_frozen HO1.out 1; clear hb1)))
  refine bodyPost_ret (results_ct rfl _ _ (w.heap.size + 1) 72 #[.int .i64 0, .int .i64 0] (0, 0) _ rfl (blk_put (cs := #[.int .i64 0, .int .i64 0]) (blk_put HO1.out 0 _ rfl) 1 _ rfl) Tryz.underlying72 rfl (by kernel_rfl)) rfl ?_
  exact ⟨rfl, below_set (below_set HB1.out (by omega)) (by omega)⟩
end Go.Proofs.YtocjbedacnlaaaaGreatDoor.Q
/- Whether each thing of a list is above the one ahead of it: the walk over whole numbers. No conditions. -/
namespace Go.Proofs.YtocjbedacnlaaaaGreatDoor.Q
open Go.RowKit Go.Shelf Go.Proofs.YtocjbedacnlaaaaGreatDoorW.PrintWords
set_option linter.unusedVariables false
set_option linter.unusedSimpArgs false
/-- Is each thing above the one ahead of it, from the k-th on? -/
def risesF {α : Type} (p : α → α → Bool) : List α → Bool
  | [] => true
  | [_] => true
  | a :: b :: t => p b a && risesF p (b :: t)
theorem risesF_iff {α : Type} {p : α → α → Bool} : ∀ {l : List α}, risesF p l = true ↔ ∀ k (h : k + 1 < l.length), p l[k + 1] l[k] = true
  | [] => by simp [risesF]
  | [a] => by simp [risesF]
  | a :: b :: t => by
    rw [risesF, Bool.and_eq_true, risesF_iff]
    constructor
    · rintro ⟨h1, h2⟩ k hk
      cases k with
      | zero => exact h1
      | succ k => exact h2 k (by simpa using hk)
    · intro h
      exact ⟨h 0 (by simp), fun k hk => h (k + 1) (by simpa using hk)⟩
theorem risesF_no {α : Type} {p : α → α → Bool} {l : List α} {k : Nat} (h : k + 1 < l.length) (hp : p l[k + 1] l[k] = false) : risesF p l = false := by
  rw [← Bool.not_eq_true, risesF_iff]
  intro h2
  rw [h2 k h] at hp
  cases hp
theorem ret_b {a b : Bool} (h : a = b) : Ending.returned (.bool a) = .returned (.bool b) := by rw [h]
/-- Is a number above another one? -/
def gtB (a b : Int) : Bool := decide (b < a)
set_option maxHeartbeats 1000000 in
set_option maxRecDepth 100000 in
theorem gt_w (a b : Int) (w : World) : Calls Tryz.prog 117 #[.int .i64 a, .int .i64 b] w fun e w' => e = .returned (.bool (gtB a b)) ∧ w = w' := by
  unfold gtB
  generalize hd : decide (b < a) = d
  go_enter Tryz.func117, Tryz.ntmps117
  go_wp2
  go_ret
  exact ⟨rfl, rfl⟩
set_option maxHeartbeats 4000000 in
set_option maxRecDepth 100000 in
theorem risesI_calls (A : Option Addr) (c : Nat) (l : List Int) (w : World) (hr : Kd.C (Kd.int .i64) w A l.length l) :
    Calls Tryz.prog 116 #[.slice A l.length c, .func (.func 117) #[] #[]] w fun e w' => e = .returned (.bool (risesF gtB l)) ∧ Below w.heap.size w w' := by
  have hu22 := Tryz.underlying22
  have eg : ∀ args w, (callFunc 117 args).run Tryz.prog w = .ok (.enter 117 args) w := enters_of Tryz.func117 (by kernel_rfl) rfl
  have hlen := hr.2.1
  have HR := Aside0.mk hr
  clear hr
  go_enter Tryz.func116, Tryz.ntmps116
  go_wp2
  go_loopw [5, 8] (fun _ i wr => ∃ k : Nat, k ≤ l.length ∧ i = .int .i64 k ∧ Aside0 (∀ j (hj : j + 1 < k) (hl : j + 1 < l.length), gtB l[j + 1] l[j] = true) ∧ Aside0 (Below w.heap.size w wr)) (fun _ i _ => l.length - (intOf i).toNat)
  case atStart => exact ⟨0, Nat.zero_le _, rfl, ⟨fun j hj => absurd hj (Nat.not_lt_zero _)⟩, ⟨Below.refl _ _⟩⟩
  case round =>
    obtain ⟨k, hk, rfl, HN, HB⟩ := hrel
    by_cases hlt : k < l.length
    · have w2 : IntKind.i64.wrap ((k : Int) + 1) = ((k + 1 : Nat) : Int) := by rw [IntWalk.i64_in _ (by omega)]; omega
      by_cases h0 : k = 0
      · have HH := Aside0.mk h0
        have hd : decide (0 < k) = false := by simp [h0]
        have hd2 : decide ((0 : Int) < (k : Int)) = false := by simp [h0]
        clear h0
        go_wp2
        go_quiet (fail)
        go_wp2
        go_roundw
        case rel => exact ⟨k + 1, hlt, by go_num, ⟨fun j hj => absurd hj (by have := HH.out; omega)⟩, ⟨pw_below_drewN HB.out _⟩⟩
        case measure => simp [intOf]; omega
      · obtain ⟨j0, hjk⟩ : ∃ j0, k = j0 + 1 := ⟨k - 1, by omega⟩
        have hd4 : j0 < l.length := by omega
        obtain ⟨ad, rfl, hx⟩ := Kd.at_int (Kd.C_below HR.out HB.out) (k : Int) (by omega) (by omega)
        obtain ⟨ad', he, hy⟩ := Kd.at_int (Kd.C_below HR.out HB.out) (j0 : Int) (by omega) (by omega)
        obtain rfl := Option.some.inj he
        clear he
        rw [Int.toNat_natCast] at hx hy
        have w3 : IntKind.i64.wrap ((k : Int) - 1) = (j0 : Int) := by rw [IntWalk.i64_in _ (by omega)]; omega
        have hgx : rd l (k : Int) = l[k] := by simp [rd, List.getD, hlt]
        have hgy : rd l (j0 : Int) = l[j0] := by simp [rd, List.getD, hd4]
        have HX := Aside0.mk hgx
        have HY := Aside0.mk hgy
        generalize rd l (k : Int) = x at hx hgx HX
        generalize rd l (j0 : Int) = y at hy hgy HY
        clear hgx hgy
        have hd : decide (0 < k) = true := by simp; omega
        have HJ := Aside0.mk hjk
        have hd2 : decide ((0 : Int) < (k : Int)) = true := by simp; omega
        have hd5 : (j0 : Int) < (l.length : Int) := by omega
        have hd6 : (0 : Int) ≤ (j0 : Int) := by omega
        clear h0 hjk
        cases hq : gtB x y with
        | true =>
          have hc := fun W => gt_w x y W
          rw [hq] at hc
          have HQ := Aside0.mk hq
          clear hq
          go_wp2
          go_quiet (exact Calls.quiet_of_same ((hc _).mono fun _ _ h => ⟨h.1, h.2.symm⟩))
          go_wp2
          go_roundw
          case rel =>
            have e := HJ.out
            refine ⟨k + 1, hlt, by go_num, ⟨fun j hj hl => ?_⟩, ⟨pw_below_drewN HB.out _⟩⟩
            rcases Nat.lt_or_ge (j + 1) k with h | h
            · exact HN.out j h hl
            · subst e
              obtain rfl : j0 = j := by omega
              rw [← HX.out, ← HY.out]
              exact HQ.out
          case measure => simp [intOf]; omega
        | false =>
          have hc := fun W => gt_w x y W
          rw [hq] at hc
          have HQ := Aside0.mk hq
          clear hq
          go_wp2
          go_quiet (exact Calls.quiet_of_same ((hc _).mono fun _ _ h => ⟨h.1, h.2.symm⟩))
          go_wp2
          go_ret
          refine ⟨ret_b (Eq.symm ?_), pw_below_drewN HB.out _⟩
          have e := HJ.out
          subst e
          exact risesF_no hlt (by rw [← HX.out, ← HY.out]; exact HQ.out)
    · have HH : Aside0 (k = l.length) := ⟨by omega⟩
      go_wp2
      go_ret
      exact ⟨ret_b (risesF_iff.2 (fun j hj => HN.out j (by have := HH.out; omega) hj)).symm, HB.out⟩
end Go.Proofs.YtocjbedacnlaaaaGreatDoor.Q
/- Whether each thing of a list is above the one ahead of it: the walk over pitches. No conditions. -/
namespace Go.Proofs.YtocjbedacnlaaaaGreatDoor.Q
open Go.RowKit Go.Shelf Go.Proofs.YtocjbedacnlaaaaGreatDoorW.PrintWords
set_option linter.unusedVariables false
set_option linter.unusedSimpArgs false
set_option maxHeartbeats 4000000 in
set_option maxRecDepth 100000 in
theorem risesP_calls (p : S43 → S43 → Bool) (A : Option Addr) (c : Nat) (l : List S43) (w : World) (hr : Kd.C k43 w A l.length l)
    (hp : ∀ (j : Nat) (h : j + 1 < l.length) (W : World), Below w.heap.size w W → Calls Tryz.prog 101 #[.agg #[.int .i64 l[j + 1].f0, .int .i64 l[j + 1].f1, .int .i64 l[j + 1].f2], .agg #[.int .i64 l[j].f0, .int .i64 l[j].f1, .int .i64 l[j].f2]] W fun e W' => e = .returned (.bool (p l[j + 1] l[j])) ∧ Below W.heap.size W W') :
    Calls Tryz.prog 100 #[.slice A l.length c, .func (.func 101) #[] #[]] w fun e w' => e = .returned (.bool (risesF p l)) ∧ Below w.heap.size w w' := by
  have hu36 := Tryz.underlying36
  have hu43 := Tryz.underlying43
  have HP := Aside0.mk hp
  clear hp
  have eg : ∀ args w, (callFunc 101 args).run Tryz.prog w = .ok (.enter 101 args) w := enters_of Tryz.func101 (by kernel_rfl) rfl
  have hlen := hr.2.1
  have HR := Aside0.mk hr
  clear hr
  go_enter Tryz.func100, Tryz.ntmps100
  go_wp2
  go_loopw [5, 8] (fun _ i wr => ∃ k : Nat, k ≤ l.length ∧ i = .int .i64 k ∧ Aside0 (∀ j (hj : j + 1 < k) (hl : j + 1 < l.length), p l[j + 1] l[j] = true) ∧ Aside0 (Below w.heap.size w wr)) (fun _ i _ => l.length - (intOf i).toNat)
  case atStart => exact ⟨0, Nat.zero_le _, rfl, ⟨fun j hj => absurd hj (Nat.not_lt_zero _)⟩, ⟨Below.refl _ _⟩⟩
  case round =>
    obtain ⟨k, hk, rfl, HN, HB⟩ := hrel
    by_cases hlt : k < l.length
    · have w2 : IntKind.i64.wrap ((k : Int) + 1) = ((k + 1 : Nat) : Int) := by rw [IntWalk.i64_in _ (by omega)]; omega
      by_cases h0 : k = 0
      · have HH := Aside0.mk h0
        have hd : decide (0 < k) = false := by simp [h0]
        have hd2 : decide ((0 : Int) < (k : Int)) = false := by simp [h0]
        clear h0
        go_wp2
        go_quiet (fail)
        go_wp2
        go_roundw
        case rel => exact ⟨k + 1, hlt, by go_num, ⟨fun j hj => absurd hj (by have := HH.out; omega)⟩, ⟨pw_below_drewN HB.out _⟩⟩
        case measure => simp [intOf]; omega
      · obtain ⟨j0, hjk⟩ : ∃ j0, k = j0 + 1 := ⟨k - 1, by omega⟩
        have hd4 : j0 < l.length := by omega
        obtain ⟨ad, rfl, hx, hx1, hx2⟩ := at_T43 (Kd.C_below HR.out HB.out) (k : Int) (by omega) (by omega)
        obtain ⟨ad', he, hy, hy1, hy2⟩ := at_T43 (Kd.C_below HR.out HB.out) (j0 : Int) (by omega) (by omega)
        obtain rfl := Option.some.inj he
        clear he
        rw [Int.toNat_natCast] at hx hx1 hx2 hy hy1 hy2
        have w3 : IntKind.i64.wrap ((k : Int) - 1) = (j0 : Int) := by rw [IntWalk.i64_in _ (by omega)]; omega
        have hgx : rd_T43 l (k : Int) = l[k] := by simp [rd_T43, List.getD, hlt]
        have hgy : rd_T43 l (j0 : Int) = l[j0] := by simp [rd_T43, List.getD, hd4]
        have HX := Aside0.mk hgx
        have HY := Aside0.mk hgy
        generalize rd_T43 l (k : Int) = x at hx hx1 hx2 hgx HX
        generalize rd_T43 l (j0 : Int) = y at hy hy1 hy2 hgy HY
        have hc : ∀ W, Below w.heap.size w W → Calls Tryz.prog 101 #[.agg #[.int .i64 x.f0, .int .i64 x.f1, .int .i64 x.f2], .agg #[.int .i64 y.f0, .int .i64 y.f1, .int .i64 y.f2]] W fun e W' => e = .returned (.bool (p x y)) ∧ Below W.heap.size W W' := by
          subst hjk
          rw [hgx, hgy]
          exact HP.out j0 hlt
        clear hgx hgy
        have hd : decide (0 < k) = true := by simp; omega
        have HJ := Aside0.mk hjk
        have hd2 : decide ((0 : Int) < (k : Int)) = true := by simp; omega
        have hd5 : (j0 : Int) < (l.length : Int) := by omega
        have hd6 : (0 : Int) ≤ (j0 : Int) := by omega
        clear h0 hjk
        cases hq : p x y with
        | true =>
          rw [hq] at hc
          have HQ := Aside0.mk hq
          have HC := Aside0.mk hc
          clear hq hc
          go_wp2
          go_region_held3 (fun w' => w'.cell? (ad.add (k * 3)) = some (.int .i64 x.f0) ∧ w'.cell? ⟨(ad.add (k * 3)).block, (ad.add (k * 3)).off + 1, none⟩ = some (.int .i64 x.f1) ∧ w'.cell? ⟨(ad.add (k * 3)).block, (ad.add (k * 3)).off + 2, none⟩ = some (.int .i64 x.f2) ∧ w'.cell? (ad.add (j0 * 3)) = some (.int .i64 y.f0) ∧ w'.cell? ⟨(ad.add (j0 * 3)).block, (ad.add (j0 * 3)).off + 1, none⟩ = some (.int .i64 y.f1) ∧ w'.cell? ⟨(ad.add (j0 * 3)).block, (ad.add (j0 * 3)).off + 2, none⟩ = some (.int .i64 y.f2)) (first | (exact ⟨hz1, hz2, hz3, hz4, hz5, hz6⟩) | go_keep) (((with_reducible refine (HC.out _ (by first | exact HB.out | exact below_drew1 HB.out | exact pw_below_drewN HB.out _)).mono ?_); rintro e w1 ⟨rfl, hb1⟩; have hz1 := (hb1.cell (cell_lt hx)).trans hx; have hz2 := (hb1.cell (cell_lt hx1)).trans hx1; have hz3 := (hb1.cell (cell_lt hx2)).trans hx2; have hz4 := (hb1.cell (cell_lt hy)).trans hy; have hz5 := (hb1.cell (cell_lt hy1)).trans hy1; have hz6 := (hb1.cell (cell_lt hy2)).trans hy2; have HB1 := Aside0.mk (below_step (by first | exact HB.out | exact below_drew1 HB.out | exact pw_below_drewN HB.out _) hb1)))
          go_wp2
          go_roundw
          case rel =>
            have e := HJ.out
            refine ⟨k + 1, hlt, by go_num, ⟨fun j hj hl => ?_⟩, ⟨by first | exact HB1.out | exact below_drew1 HB1.out | exact pw_below_drewN HB1.out _⟩⟩
            rcases Nat.lt_or_ge (j + 1) k with h | h
            · exact HN.out j h hl
            · subst e
              obtain rfl : j0 = j := by omega
              rw [← HX.out, ← HY.out]
              exact HQ.out
          case measure => simp [intOf]; omega
        | false =>
          rw [hq] at hc
          have HQ := Aside0.mk hq
          have HC := Aside0.mk hc
          clear hq hc
          go_wp2
          go_region_held3 (fun w' => w'.cell? (ad.add (k * 3)) = some (.int .i64 x.f0) ∧ w'.cell? ⟨(ad.add (k * 3)).block, (ad.add (k * 3)).off + 1, none⟩ = some (.int .i64 x.f1) ∧ w'.cell? ⟨(ad.add (k * 3)).block, (ad.add (k * 3)).off + 2, none⟩ = some (.int .i64 x.f2) ∧ w'.cell? (ad.add (j0 * 3)) = some (.int .i64 y.f0) ∧ w'.cell? ⟨(ad.add (j0 * 3)).block, (ad.add (j0 * 3)).off + 1, none⟩ = some (.int .i64 y.f1) ∧ w'.cell? ⟨(ad.add (j0 * 3)).block, (ad.add (j0 * 3)).off + 2, none⟩ = some (.int .i64 y.f2)) (first | (exact ⟨hz1, hz2, hz3, hz4, hz5, hz6⟩) | go_keep) (((with_reducible refine (HC.out _ (by first | exact HB.out | exact below_drew1 HB.out | exact pw_below_drewN HB.out _)).mono ?_); rintro e w1 ⟨rfl, hb1⟩; have hz1 := (hb1.cell (cell_lt hx)).trans hx; have hz2 := (hb1.cell (cell_lt hx1)).trans hx1; have hz3 := (hb1.cell (cell_lt hx2)).trans hx2; have hz4 := (hb1.cell (cell_lt hy)).trans hy; have hz5 := (hb1.cell (cell_lt hy1)).trans hy1; have hz6 := (hb1.cell (cell_lt hy2)).trans hy2; have HB1 := Aside0.mk (below_step (by first | exact HB.out | exact below_drew1 HB.out | exact pw_below_drewN HB.out _) hb1)))
          go_wp2
          go_ret
          refine ⟨ret_b (Eq.symm ?_), (by first | exact HB1.out | exact below_drew1 HB1.out | exact pw_below_drewN HB1.out _)⟩
          have e := HJ.out
          subst e
          exact risesF_no hlt (by rw [← HX.out, ← HY.out]; exact HQ.out)
    · have HH : Aside0 (k = l.length) := ⟨by omega⟩
      go_wp2
      go_ret
      exact ⟨ret_b (risesF_iff.2 (fun j hj => HN.out j (by have := HH.out; omega) hj)).symm, HB.out⟩
end Go.Proofs.YtocjbedacnlaaaaGreatDoor.Q
/- errors.As, asked for a wrong{..} (a struct of one number): its contracts over this program (the shape of the worked proof Toyas, turned to a struct that is no pointer). -/
namespace Go.Proofs.YtocjbedacnlaaaaGreatDoor
open Go.RowKit Go.Extern.Stop Go.Stop Go.Extern
set_option linter.unusedVariables false
set_option linter.unusedSimpArgs false
/-- No error. -/
theorem as_nil (t : Value) (w : World) : Calls Tryz.prog 44 #[.nilIface, t] w fun e w' => e = .returned (.bool false) ∧ w' = w := by
  go_enter Tryz.func44, Tryz.ntmps44
  go_wp2
  go_ret
  exact ⟨rfl, rfl⟩
abbrev hT : Value := .pointer (some ⟨5, 60, none⟩)
abbrev hP : Value := .pointer (some ⟨5, 87, none⟩)
theorem as_valueOfP (t : Addr) (w : World) : (ReflectliteValue.unpack (.iface 87 (.pointer (some t)))).run Tryz.prog w
    = .ok (.agg #[hP, .pointer (some ⟨w.heap.size, 0, none⟩), .int .u64 150]) (w.alloc (.cells #[.pointer (some t)] 87)) := by kernel_rfl
theorem as_typeP (a : Addr) (w : World) : (ReflectliteValue.methodAny (ReflectliteValue.valueError "reflectlite.Value.Type" 0) (fun t _ _ _ => ReflectliteType.toType t) #[.agg #[hP, .pointer (some a), .int .u64 150]]).run Tryz.prog w
    = .ok (.iface 126 (.agg #[hP])) w := by kernel_rfl
theorem as_methodKind (h : Value) (w : World) : (Go.method 309 126 (.agg #[h]) "Kind").run Tryz.prog w = .ok (145, h) w := by kernel_rfl
theorem as_kindP (w : World) : ((ReflectliteType.abiMethod fun t => (fun a : Nat => Value.int IntKind.u8 (a : Int)) <$> Rtype.kind t) #[hP]).run Tryz.prog w = .ok (.int .u8 22) w := by kernel_rfl
theorem as_kindT (w : World) : ((ReflectliteType.abiMethod fun t => (fun a : Nat => Value.int IntKind.u8 (a : Int)) <$> Rtype.kind t) #[hT]).run Tryz.prog w = .ok (.int .u8 25) w := by kernel_rfl
theorem as_rlm (z : Sem Value) (f : TypeId → Addr → Nat → Nat → Sem Value) (v : Value) :
    ReflectliteValue.method z f #[v] = (do match ← ReflectliteValue.parts v with | none => z | some (t, a, fl) => f t a fl (fl % 32)) := rfl
theorem as_partsP (a : Addr) (w : World) : (ReflectliteValue.parts (.agg #[hP, .pointer (some a), .int .u64 150])).run Tryz.prog w = .ok (some (87, a, 150)) w := by kernel_rfl
theorem as_isNil (a p : Addr) (W : World) (ha : W.cell? a = some (.pointer (some p))) :
    (ReflectliteValue.method (ReflectliteValue.valueError "reflectlite.Value.IsNil" 0) ReflectliteValue.isNil #[.agg #[hP, .pointer (some a), .int .u64 150]]).run Tryz.prog W = .ok (.bool false) W := by
  rw [as_rlm]
  simp only [Sem.run_bind, as_partsP, Result.andThen]
  simp [ReflectliteValue.isNil, loadVar, isAgg, underlying, Tryz.underlying87, ha, Result.andThen]
theorem as_methodElem (h : Value) (w : World) : (Go.method 309 126 (.agg #[h]) "Elem").run Tryz.prog w = .ok (155, .agg #[h]) w := by kernel_rfl
theorem as_methodImplements (h : Value) (w : World) : (Go.method 309 126 (.agg #[h]) "Implements").run Tryz.prog w = .ok (156, .agg #[h]) w := by kernel_rfl
theorem as_methodAssignable (h : Value) (w : World) : (Go.method 309 126 (.agg #[h]) "AssignableTo").run Tryz.prog w = .ok (153, .agg #[h]) w := by kernel_rfl
theorem as_elemP (w : World) : (ReflectliteType.method ReflectliteType.elem #[.agg #[hP]]).run Tryz.prog w = .ok (.iface 126 (.agg #[hT])) w := by kernel_rfl
theorem as_implements (w : World) : (ReflectliteType.relation "Implements" ReflectliteType.implements_ #[.agg #[hT], .iface 126 (.agg #[.pointer (some ⟨5, 64, none⟩)])]).run Tryz.prog w = .ok (.bool true) w := by kernel_rfl
theorem as_typeOf (v : Value) (w : World) : (ReflectliteType.typeOf #[.iface 60 v]).run Tryz.prog w = .ok (.iface 126 (.agg #[hT])) w := by kernel_rfl
theorem as_assignable (w : World) : (ReflectliteType.relation "AssignableTo" ReflectliteType.assignableTo #[.agg #[hT], .iface 126 (.agg #[hT])]).run Tryz.prog w = .ok (.bool true) w := by kernel_rfl
theorem as_valueOfT (c : Int) (w : World) : (ReflectliteValue.unpack (.iface 60 (.agg #[.int .i64 c]))).run Tryz.prog w
    = .ok (.agg #[hT, .pointer (some ⟨w.heap.size, 0, none⟩), .int .u64 153]) (w.alloc (.cells #[.int .i64 c] 60)) := by kernel_rfl
theorem as_elemOf (w : World) : (Rtype.elem? 87).run Tryz.prog w = .ok (some 60) w := by kernel_rfl
theorem as_mk (p : Addr) (w : World) : (ReflectliteValue.mk 60 p ReflectliteValue.flagAddr).run Tryz.prog w = .ok (.agg #[hT, .pointer (some p), .int .u64 409]) w := by kernel_rfl
theorem as_elemV (a p : Addr) (W : World) (ha : W.cell? a = some (.pointer (some p))) :
    (ReflectliteValue.method (ReflectliteValue.valueError "reflectlite.Value.Elem" 0) ReflectliteValue.elem #[.agg #[hP, .pointer (some a), .int .u64 150]]).run Tryz.prog W
      = .ok (.agg #[hT, .pointer (some p), .int .u64 409]) W := by
  rw [as_rlm]
  simp only [Sem.run_bind, as_partsP, Result.andThen]
  simp [ReflectliteValue.elem, loadVar, isAgg, underlying, Tryz.underlying87, ha, Result.andThen, as_elemOf, as_mk]
theorem as_rls (v x : Value) : ReflectliteValue.set #[v, x] = (do
    let (some (dst, a, fl), some (src, b, _)) := (← ReflectliteValue.parts v, ← ReflectliteValue.parts x)
      | unsupported (.noEntry "extern/(internal/reflectlite.Value).Set.zeroValue")
    if fl / ReflectliteValue.flagAddr % 2 == 0 then unsupported (.noEntry "extern/(internal/reflectlite.Value).Set.unaddressable")
    let val ← loadVar src b
    if ← Rtype.directlyAssignable dst src then storeVar dst a val
    else if ← Rtype.implements dst src then
      if (← Rtype.kind src) == 20 then
        match val with
        | .nilIface => unsupported (.noEntry "extern/reflectlite: a nil value of one interface type handed on as a value of another")
        | _ => storeVar dst a val
      else storeVar dst a (.iface src val)
    else panicString ("reflectlite.Set: value of type " ++ (← Rtype.spelt src) ++ " is not assignable to type " ++ (← Rtype.spelt dst))
    pure (.tuple #[])) := rfl
theorem as_partsA (a : Addr) (w : World) : (ReflectliteValue.parts (.agg #[hT, .pointer (some a), .int .u64 409])).run Tryz.prog w = .ok (some (60, a, 409)) w := by kernel_rfl
theorem as_partsT (a : Addr) (w : World) : (ReflectliteValue.parts (.agg #[hT, .pointer (some a), .int .u64 153])).run Tryz.prog w = .ok (some (60, a, 153)) w := by kernel_rfl
theorem as_direct (w : World) : (Rtype.directlyAssignable 60 60).run Tryz.prog w = .ok true w := by kernel_rfl
theorem as_size (w : World) : (sizeOf 60).run Tryz.prog w = .ok 1 w := by kernel_rfl
theorem as_load (b : Addr) (c : Int) (W : World) (hb : W.cell? b = some (.int .i64 c)) : (loadVar 60 b).run Tryz.prog W = .ok (.agg #[.int .i64 c]) W := by
  have hb' : W.cell? (b.add 0) = some (.int .i64 c) := by simpa [Addr.add] using hb
  simp [loadVar, isAgg, underlying, Tryz.underlying60, as_size, loadCells, loadCellsFrom, Result.andThen, hb, hb']
theorem as_store (ta : Addr) (c : Int) (old : Value) (W : World) (ht : W.cell? ta = some old) (hf : W.frozen? ta = false) : (storeVar 60 ta (.agg #[.int .i64 c])).run Tryz.prog W = .ok () (W.setCell ta (.int .i64 c)) := by
  simp [storeVar, as_size, Value.cells, storeCells, Result.andThen, Addr.add]
  rw [run_store Tryz.prog W ta _ _ (by rfl)]
  simp [ht, hf]
theorem as_set (ta b : Addr) (c : Int) (old : Value) (W : World) (hb : W.cell? b = some (.int .i64 c)) (ht : W.cell? ta = some old) (hf : W.frozen? ta = false) :
    (ReflectliteValue.set #[.agg #[hT, .pointer (some ta), .int .u64 409], .agg #[hT, .pointer (some b), .int .u64 153]]).run Tryz.prog W
      = .ok (.tuple #[]) (W.setCell ta (.int .i64 c)) := by
  rw [as_rls]
  simp only [Sem.run_bind, as_partsA, as_partsT, Result.andThen]
  simp only [ReflectliteValue.flagAddr, Sem.run_bind, as_load b c W hb, as_direct, Result.andThen]
  simp [Result.andThen, as_load b c W hb, as_direct, as_store ta c old W ht hf]
end Go.Proofs.YtocjbedacnlaaaaGreatDoor
/- errors.As, asked for a wrong{..}, of an error that is one. -/
namespace Go.Proofs.YtocjbedacnlaaaaGreatDoor
open Go.RowKit Go.Extern.Stop Go.Stop Go.Extern
set_option linter.unusedVariables false
set_option linter.unusedSimpArgs false
abbrev asW (t : Addr) (c : Int) (w : World) : World := (((w.alloc (.cells #[.pointer (some t)] 87)).alloc (.cells #[hP, .pointer (some ⟨w.heap.size, 0, none⟩), .int .u64 150] 103)).alloc (.cells #[hP, .pointer (some ⟨w.heap.size, 0, none⟩), .int .u64 150] 103)).alloc (.cells #[.int .i64 c] 60)
set_option maxHeartbeats 8000000 in
set_option maxRecDepth 100000 in
theorem as_hit (c : Int) (t : Addr) (old : Value) (w : World) (hg : w.cell? ⟨0, 0, none⟩ = some (.iface 126 (.agg #[.pointer (some ⟨5, 64, none⟩)]))) (ht0 : w.cell? t = some old) (hf0 : w.frozen? t = false) :
    Calls Tryz.prog 44 #[.iface 60 (.agg #[.int .i64 c]), .iface 87 (.pointer (some t))] w fun ev w' => ev = .returned (.bool true) ∧ w' = (asW t c w).setCell t (.int .i64 c) := by
  have h6 := @run_callFunc_extern Tryz.prog 63 _ (fun args => ReflectliteValue.unpack (args.getD 0 (.tuple #[]))) Tryz.func63 (by kernel_rfl) (by kernel_rfl) (by kernel_rfl) (by kernel_rfl)
  have h7 := @run_callFunc_extern Tryz.prog 64 _ (ReflectliteValue.methodAny (ReflectliteValue.valueError "reflectlite.Value.Type" 0) (fun t _ _ _ => ReflectliteType.toType t)) Tryz.func64 (by kernel_rfl) (by kernel_rfl) (by kernel_rfl) (by kernel_rfl)
  have h8 := @run_callFunc_extern Tryz.prog 65 _ (ReflectliteValue.method (ReflectliteValue.valueError "reflectlite.Value.IsNil" 0) ReflectliteValue.isNil) Tryz.func65 (by kernel_rfl) (by kernel_rfl) (by kernel_rfl) (by kernel_rfl)
  have h27 := @run_callFunc_extern Tryz.prog 145 _ (ReflectliteType.abiMethod fun t => do pure (.int .u8 (← Rtype.kind t))) Tryz.func145 (by kernel_rfl) (by kernel_rfl) (by kernel_rfl) (by kernel_rfl)
  have h37 := @run_callFunc_extern Tryz.prog 155 _ (ReflectliteType.method ReflectliteType.elem) Tryz.func155 (by kernel_rfl) (by kernel_rfl) (by kernel_rfl) (by kernel_rfl)
  have h38 := @run_callFunc_extern Tryz.prog 156 _ (ReflectliteType.relation "Implements" ReflectliteType.implements_) Tryz.func156 (by kernel_rfl) (by kernel_rfl) (by kernel_rfl) (by kernel_rfl)
  have h10 := @run_callFunc_extern Tryz.prog 86 _ ReflectliteType.typeOf Tryz.func86 (by kernel_rfl) (by kernel_rfl) (by kernel_rfl) (by kernel_rfl)
  have h35 := @run_callFunc_extern Tryz.prog 153 _ (ReflectliteType.relation "AssignableTo" ReflectliteType.assignableTo) Tryz.func153 (by kernel_rfl) (by kernel_rfl) (by kernel_rfl) (by kernel_rfl)
  have h11 := @run_callFunc_extern Tryz.prog 87 _ (ReflectliteValue.method (ReflectliteValue.valueError "reflectlite.Value.Elem" 0) ReflectliteValue.elem) Tryz.func87 (by kernel_rfl) (by kernel_rfl) (by kernel_rfl) (by kernel_rfl)
  have h12 := @run_callFunc_extern Tryz.prog 88 _ ReflectliteValue.set Tryz.func88 (by kernel_rfl) (by kernel_rfl) (by kernel_rfl) (by kernel_rfl)
  have tO := as_typeOf
  have mA := as_methodAssignable
  have a25 := as_assignable
  have v25 := as_valueOfT
  have f6 := as_valueOfP
  have f7 := as_typeP
  have mK := as_methodKind
  have mE := as_methodElem
  have mI := as_methodImplements
  have k27 := as_kindP
  have k25 := as_kindT
  have e27 := as_elemP
  have i25 := as_implements
  obtain ⟨w1, hw1⟩ : ∃ w1, w.alloc (.cells #[.pointer (some t)] 87) = w1 := ⟨_, rfl⟩
  have n8 := as_isNil ⟨w.heap.size, 0, none⟩ t (w1.alloc (.cells #[hP, .pointer (some ⟨w.heap.size, 0, none⟩), .int .u64 150] 103)) (by rw [← hw1]; simp)
  have hlt : 0 < w.heap.size := by
    rcases Nat.eq_zero_or_pos w.heap.size with h0 | h
    · simp [World.cell?, h0] at hg
    · exact h
  subst hw1
  have hg2 : ((w.alloc (.cells #[.pointer (some t)] 87)).alloc (.cells #[hP, .pointer (some ⟨w.heap.size, 0, none⟩), .int .u64 150] 103)).cell? ⟨0, 0, none⟩ = some (.iface 126 (.agg #[.pointer (some ⟨5, 64, none⟩)])) := by
    rw [World.cell?_alloc_lt _ _ ⟨0, 0, none⟩ (by simp), World.cell?_alloc_lt _ _ ⟨0, 0, none⟩ hlt]; exact hg
  have htl : t.block < w.heap.size := by
    rcases Nat.lt_or_ge t.block w.heap.size with h | h
    · exact h
    · simp [World.cell?, Array.getElem?_eq_none h] at ht0
  have el := as_elemV ⟨w.heap.size, 0, none⟩ t (((w.alloc (.cells #[.pointer (some t)] 87)).alloc (.cells #[hP, .pointer (some ⟨w.heap.size, 0, none⟩), .int .u64 150] 103)).alloc (.cells #[hP, .pointer (some ⟨w.heap.size, 0, none⟩), .int .u64 150] 103)) (by rw [World.cell?_alloc_lt _ _ ⟨w.heap.size, 0, none⟩ (by simp; omega), World.cell?_alloc_lt _ _ ⟨w.heap.size, 0, none⟩ (by simp), World.cell?_alloc_at _ _ _ _ (by simp)]; rfl)
  have st := as_set t ⟨w.heap.size + 1 + 1 + 1, 0, none⟩ c old (asW t c w)
    (by rw [World.cell?_alloc_at _ _ _ _ (by simp)]; rfl)
    (by rw [World.cell?_alloc_lt _ _ t (by simp; omega), World.cell?_alloc_lt _ _ t (by simp; omega), World.cell?_alloc_lt _ _ t (by simp; omega), World.cell?_alloc_lt _ _ t htl]; exact ht0)
    (by rw [World.frozen?_alloc_old _ _ t (by simp; omega), World.frozen?_alloc_old _ _ t (by simp; omega), World.frozen?_alloc_old _ _ t (by simp; omega), World.frozen?_alloc_old _ _ t (Nat.ne_of_lt htl)]; exact hf0)
  go_enter Tryz.func44, Tryz.ntmps44
  go_wp2
  refine wp_loop_rounds 1 ?_
  rw [rounds_succ]
  go_wp2
  go_ret
  exact ⟨rfl, rfl⟩
end Go.Proofs.YtocjbedacnlaaaaGreatDoor
namespace Go.Proofs.YtocjbedacnlaaaaGreatDoor.Q
open Go.RowKit Go.Proofs.YtocjbedacnlaaaaGreatDoorW.PrintWords
set_option linter.unusedVariables false
set_option linter.unusedSimpArgs false
set_option maxHeartbeats 1000000 in
set_option maxRecDepth 100000 in
theorem told_none (w : World) : Calls Tryz.prog 24 #[errW none] w fun e w' => e = .returned (.int .i64 0) ∧ Below w.heap.size w w' := by
  have hu60 := Tryz.underlying60
  rw [errW_none]
  go_enter Tryz.func24, Tryz.ntmps24
  go_wp2_with (go_at_call 44; (with_reducible refine (as_nil _ _).mono ?_); rintro e w' ⟨rfl, rfl⟩)
  go_ret
  exact ⟨rfl, (Below.refl _ w).alloc (Nat.le_refl _) _⟩
set_option maxHeartbeats 4000000 in
set_option maxRecDepth 100000 in
theorem told_some (n : Int) (w : World) (hS : SentsE w) : Calls Tryz.prog 24 #[errW (some n)] w fun e w' => e = .returned (.int .i64 n) ∧ Below w.heap.size w w' := by
  have hu60 := Tryz.underlying60
  rw [errW_some]
  have hb : Below w.heap.size w (w.alloc (.cells #[.int .i64 0] 60)) := (Below.refl _ w).alloc (Nat.le_refl _) _
  have hg := (hS.below hb).err
  have hA := as_hit n ⟨w.heap.size, 0, none⟩ (.int .i64 0) (w.alloc (.cells #[.int .i64 0] 60)) hg (by simp) (by simp)
  have hl : w.heap.size < (w.alloc (.cells #[.int .i64 0] 60)).heap.size := by simp
  have hc0 : (asW ⟨w.heap.size, 0, none⟩ n (w.alloc (.cells #[.int .i64 0] 60))).cell? ⟨w.heap.size, 0, none⟩ = some (.int .i64 0) := by
    unfold asW
    rw [World.cell?_alloc_lt _ _ ⟨w.heap.size, 0, none⟩ (by simp; omega), World.cell?_alloc_lt _ _ ⟨w.heap.size, 0, none⟩ (by simp; omega), World.cell?_alloc_lt _ _ ⟨w.heap.size, 0, none⟩ (by simp; omega), World.cell?_alloc_lt _ _ ⟨w.heap.size, 0, none⟩ (by simp)]
    exact World.cell?_alloc_at _ _ _ _ (by simp)
  have hbb : Below w.heap.size w ((asW ⟨w.heap.size, 0, none⟩ n (w.alloc (.cells #[.int .i64 0] 60))).setCell ⟨w.heap.size, 0, none⟩ (.int .i64 n)) :=
    ((((hb.alloc (by simp) _).alloc (by simp; omega) _).alloc (by simp; omega) _).alloc (by simp; omega) _).setCell (p := ⟨w.heap.size, 0, none⟩) (Nat.le_refl _) _
  have hP : Calls Tryz.prog 44 #[.iface 60 (.agg #[.int .i64 n]), .iface 87 (.pointer (some ⟨w.heap.size, 0, none⟩))] (w.alloc (.cells #[.int .i64 0] 60)) fun e W => e = .returned (.bool true) ∧ W.cell? ⟨w.heap.size, 0, none⟩ = some (.int .i64 n) ∧ Below w.heap.size w W :=
    hA.mono fun e W h => ⟨h.1, by rw [h.2]; exact World.cell?_setCell_same _ _ _ hc0, by rw [h.2]; exact hbb⟩
  have hP' := Aside0.mk hP
  clear hA hg hbb hc0 hP hl
  go_enter Tryz.func24, Tryz.ntmps24
  go_wp2_with (go_at_call 44; go_must (with_reducible refine hP'.out.mono ?_; rintro e w' ⟨rfl, hc, hb'⟩))
  go_ret
  exact ⟨rfl, hb'⟩
end Go.Proofs.YtocjbedacnlaaaaGreatDoor.Q
/-
  DERIVED: THE SHELF's CONTRACTS AT THIS DUMP, IN PLAIN WORDS (tools/lay-plain.mjs out of 'TryzShelf.lean', which tools/lay-shelf.mjs wrote): THE SAME DECLARATIONS UNDER THE SAME NAMES: 'import', 'namespace', 'open', 'def', 'theorem' AND NOTHING ELSE: no command of the shelf's: FOR A HAND-IN. Each laying: the table of numbers ('.._ren') and one theorem, a field a fact of the dump's own or the kernel's comparison; each contract: ONE APPLICATION.
-/
namespace Go.Proofs
open Go.Shelf
def Tryz.lays315_ren : Go.Shelf.Ren := ⟨fun | 315 => 130 | n => n, fun | 9 => 9 | 40 => 161 | 4 => 4 | 3 => 3 | 0 => 0 | 21 => 21 | n => n, fun | n => n⟩
def Tryz.laysGw15_ren : Go.Shelf.Ren := ⟨fun | 15 => 126 | 20 => 130 | n => n, fun | 9 => 9 | 23 => 161 | 3 => 3 | 4 => 4 | 0 => 0 | 21 => 21 | n => n, fun | n => n⟩
def Tryz.laysGw17_ren : Go.Shelf.Ren := ⟨fun | 17 => 115 | 15 => 126 | 20 => 130 | n => n, fun | 9 => 9 | 23 => 161 | 4 => 4 | 3 => 3 | 0 => 0 | 21 => 21 | n => n, fun | n => n⟩
theorem Tryz.laysGw17 : Go.Proofs.LaysGw.n17 Tryz.prog Tryz.laysGw17_ren := {
  mixed := by kernel_rfl
  f15 := Tryz.func126.trans (congrArg some (by kernel_rfl))
  f17 := Tryz.func115.trans (congrArg some (by kernel_rfl))
  f20 := Tryz.func130.trans (congrArg some (by kernel_rfl))
  t0 := Tryz.underlying0
  a0 := Tryz.isAgg0
  z0 := Tryz.sizeOf0
  v0 := Tryz.zeroValue0
  i0 := by kernel_rfl
  t3 := Tryz.underlying3
  a3 := Tryz.isAgg3
  z3 := Tryz.sizeOf3
  v3 := Tryz.zeroValue3
  i3 := by kernel_rfl
  t4 := Tryz.underlying4
  a4 := Tryz.isAgg4
  z4 := Tryz.sizeOf4
  v4 := Tryz.zeroValue4
  i4 := by kernel_rfl
  t9 := Tryz.underlying9
  a9 := Tryz.isAgg9
  z9 := Tryz.sizeOf9
  v9 := Tryz.zeroValue9
  i9 := by kernel_rfl
  t21 := Tryz.underlying21
  a21 := Tryz.isAgg21
  z21 := Tryz.sizeOf21
  v21 := Tryz.zeroValue21
  i21 := by kernel_rfl
  t23 := Tryz.underlying161
  a23 := Tryz.isAgg161
  z23 := Tryz.sizeOf161
  v23 := Tryz.zeroValue161
  i23 := by kernel_rfl }
open Go.RowKit Go.Lib in
theorem Tryz.strings_ContainsFunc_grows (g : Nat) (lb : Array Value) (eg : ∀ args w, (callFunc g args).run Tryz.prog w = .ok (.enter g args) w) (p : Nat → Bool) (s : ByteArray) (w : World) (hp : PredGrows Tryz.prog g lb p w) :
    Calls Tryz.prog 115 #[.string s, .func (.func g) #[] lb] w fun e w' => e = .returned (.bool (decide (0 ≤ Lib.idxFunc p true s))) ∧ Below w.heap.size w w' := Any.strings_ContainsFunc_grows Tryz.laysGw17 g lb eg p s w hp
def Tryz.laysValid_ren : Go.Shelf.Ren := ⟨fun | 196 => 114 | 259 => 125 | n => n, fun | 9 => 9 | 4 => 4 | 3 => 3 | 5 => 5 | 12 => 12 | 119 => 172 | 0 => 0 | 46 => 141 | 139 => 175 | 138 => 174 | 53 => 113 | n => n, fun | 3 => 2 | 4 => 3 | n => n⟩
theorem Tryz.laysValid : Go.Proofs.Lays.n196 Tryz.prog Tryz.laysValid_ren := {
  mixed := by kernel_rfl
  f196 := Tryz.func114.trans (congrArg some (by kernel_rfl))
  f259 := Tryz.func125.trans (congrArg some (by kernel_rfl))
  t0 := Tryz.underlying0
  a0 := Tryz.isAgg0
  z0 := Tryz.sizeOf0
  v0 := Tryz.zeroValue0
  t3 := Tryz.underlying3
  a3 := Tryz.isAgg3
  z3 := Tryz.sizeOf3
  v3 := Tryz.zeroValue3
  t4 := Tryz.underlying4
  a4 := Tryz.isAgg4
  z4 := Tryz.sizeOf4
  v4 := Tryz.zeroValue4
  t5 := Tryz.underlying5
  a5 := Tryz.isAgg5
  z5 := Tryz.sizeOf5
  v5 := Tryz.zeroValue5
  t9 := Tryz.underlying9
  a9 := Tryz.isAgg9
  z9 := Tryz.sizeOf9
  v9 := Tryz.zeroValue9
  t12 := Tryz.underlying12
  a12 := Tryz.isAgg12
  z12 := Tryz.sizeOf12
  v12 := Tryz.zeroValue12
  t46 := Tryz.underlying141
  a46 := Tryz.isAgg141
  z46 := Tryz.sizeOf141
  v46 := Tryz.zeroValue141
  t53 := Tryz.underlying113
  a53 := Tryz.isAgg113
  z53 := Tryz.sizeOf113
  v53 := Tryz.zeroValue113
  t119 := Tryz.underlying172
  a119 := Tryz.isAgg172
  z119 := Tryz.sizeOf172
  t138 := Tryz.underlying174
  a138 := Tryz.isAgg174
  z138 := Tryz.sizeOf174
  v138 := Tryz.zeroValue174
  t139 := Tryz.underlying175
  a139 := Tryz.isAgg175
  z139 := Tryz.sizeOf175
  v139 := Tryz.zeroValue175
  g3 := by kernel_rfl
  g4 := by kernel_rfl }
end Go.Proofs
/- Which words are right: the walk over the library's ValidString and ContainsFunc. No conditions but for the two tables of package utf8. -/
namespace Go.Proofs.YtocjbedacnlaaaaGreatDoor.Q
open Go.RowKit Go.Shelf Go.Proofs.YtocjbedacnlaaaaGreatDoorW.PrintWords
set_option linter.unusedVariables false
set_option linter.unusedSimpArgs false
/-- Runes that no word holds. -/
def oddR (r : Nat) : Bool := decide (r < 32 ∨ r = 127)
set_option maxHeartbeats 2000000 in
set_option maxRecDepth 100000 in
theorem odd_w (r : Nat) (hr : r ≤ 1114111) (w : World) : Calls Tryz.prog 113 #[.int .i32 (r : Int)] w fun e w' => e = .returned (.bool (oddR r)) ∧ w = w' := by
  obtain ⟨B, hB⟩ : ∃ B, oddR r = B := ⟨_, rfl⟩
  rw [hB]
  obtain ⟨N, hN⟩ : ∃ N : Int, N = (r : Int) := ⟨_, rfl⟩
  have HB : Aside0 (B = decide (N < 32 ∨ N = 127)) := ⟨by rw [← hB, hN]; unfold oddR; rw [decide_eq_decide]; omega⟩
  rw [← hN]
  clear hB hN hr
  by_cases c1 : N < 32
  · have HC : Aside0 (B = true) := ⟨by rw [HB.out, decide_eq_true_iff]; omega⟩
    obtain rfl := HC.out
    clear HB HC
    go_enter Tryz.func113, Tryz.ntmps113
    go_wp2
    go_ret
    exact ⟨rfl, rfl⟩
  · by_cases c4 : N = 127
    · have c4a : (N == 127) = true := by simp; omega
      have HC : Aside0 (B = true) := ⟨by rw [HB.out, decide_eq_true_iff]; omega⟩
      obtain rfl := HC.out
      clear HB HC c4
      go_enter Tryz.func113, Tryz.ntmps113
      go_wp2
      go_ret
      exact ⟨rfl, rfl⟩
    · have c4a : (N == 127) = false := by simp; omega
      have HC : Aside0 (B = false) := ⟨by rw [HB.out, decide_eq_false_iff_not]; omega⟩
      obtain rfl := HC.out
      clear HB HC c4
      go_enter Tryz.func113, Tryz.ntmps113
      go_wp2
      go_ret
      exact ⟨rfl, rfl⟩
theorem odd_grows (w : World) : PredGrows Tryz.prog 113 #[] oddR w := fun W x hx _ => (odd_w x hx W).mono fun _ _ ⟨he, hw⟩ => ⟨he, hw ▸ Below.refl _ _⟩
/-- Is a word right? -/
def plnB (s : ByteArray) : Bool := decide ((s.size : Int) ≤ 40) && (Lib.validD s.data.toList && !decide (0 ≤ Lib.idxFunc oddR true s))
set_option maxHeartbeats 2000000 in
set_option maxRecDepth 100000 in
theorem plain_calls (s : ByteArray) (w : World) (hT : Lib.Utf8Tabs 2 3 w) :
    Calls Tryz.prog 96 #[.string s] w fun e w' => e = .returned (.bool (plnB s)) ∧ Below w.heap.size w w' := by
  unfold plnB
  by_cases c1 : (s.size : Int) ≤ 40
  · have cV : Calls Tryz.prog 114 #[.string s] w _ := Any.utf8_ValidString Tryz.laysValid s w (by omega) hT
    have cF : ∀ W, Calls Tryz.prog 115 #[.string s, .func (.func 113) #[] #[]] W _ := fun W => Tryz.strings_ContainsFunc_grows 113 #[] (enters_of Tryz.func113 (by kernel_rfl) rfl) oddR s W (odd_grows W)
    have c1a : decide ((s.size : Int) ≤ 40) = true := decide_eq_true c1
    have c1b : decide (s.size ≤ 40) = true := decide_eq_true (by omega)
    rw [c1a, Bool.true_and]
    generalize Lib.validD s.data.toList = V at cV ⊢
    generalize decide (0 ≤ Lib.idxFunc oddR true s) = F at cF ⊢
    clear hT c1
    cases V with
    | true =>
      rw [Bool.true_and]
      go_enter Tryz.func96, Tryz.ntmps96
      go_wp2_with (first | (go_at_call 114; ((with_reducible refine cV.mono ?_); rintro e w1 ⟨rfl, hb1⟩)) | (go_at_call 115; ((with_reducible refine (cF _).mono ?_); rintro e w2 ⟨rfl, hb2⟩)))
      go_ret
      exact ⟨rfl, hb1.trans (hb2.mono hb1.size)⟩
    | false =>
      rw [Bool.false_and]
      go_enter Tryz.func96, Tryz.ntmps96
      go_wp2_with (first | (go_at_call 114; ((with_reducible refine cV.mono ?_); rintro e w1 ⟨rfl, hb1⟩)) | (go_at_call 115; ((with_reducible refine (cF _).mono ?_); rintro e w2 ⟨rfl, hb2⟩)))
      go_ret
      exact ⟨rfl, hb1⟩
  · have c1a : decide ((s.size : Int) ≤ 40) = false := decide_eq_false c1
    have c1b : decide (s.size ≤ 40) = false := decide_eq_false (by omega)
    rw [c1a, Bool.false_and]
    clear hT c1
    go_enter Tryz.func96, Tryz.ntmps96
    go_wp2
    go_ret
    exact ⟨rfl, Below.refl _ _⟩
end Go.Proofs.YtocjbedacnlaaaaGreatDoor.Q
/- slices.IndexFunc over events, at any function value that answers as a plain predicate does. No conditions. -/
namespace Go.Proofs.YtocjbedacnlaaaaGreatDoor.Q
open Go.RowKit Go.Shelf Go.Proofs.YtocjbedacnlaaaaGreatDoorW.PrintWords
set_option linter.unusedVariables false
set_option linter.unusedSimpArgs false
set_option maxHeartbeats 2000000 in
set_option maxRecDepth 100000 in
theorem idxE_calls (g : Nat) (eg : ∀ args w, (callFunc g args).run Tryz.prog w = .ok (.enter g args) w) (p : S41 → Bool) (A : Option Addr) (c : Nat) (l : List S41) (w : World)
    (hp : ∀ (W : World) (x : S41) (cs : List Value), x ∈ l → k41.K W x cs → Below w.heap.size w W → Calls Tryz.prog g #[.agg cs.toArray] W fun e W' => e = .returned (.bool (p x)) ∧ Below W.heap.size W W')
    (hr : Kd.C k41 w A l.length l) :
    Calls Tryz.prog 78 #[.slice A l.length c, .func (.func g) #[] #[]] w fun e w' => e = .returned (.int .i64 (idxF p l)) ∧ Below w.heap.size w w' := by
  have hu30 := Tryz.underlying30
  have hu41 := Tryz.underlying41
  have hlen := hr.2.1
  have HP := Aside0.mk hp
  have HR := Aside0.mk hr
  clear hp hr
  go_enter Tryz.func78, Tryz.ntmps78
  go_wp2
  go_loopw [5, 8] (fun _ i wr => ∃ k : Nat, k ≤ l.length ∧ i = .int .i64 k ∧ Aside0 (∀ j (hj : j < k) (hl : j < l.length), p l[j] = false) ∧ Aside0 (Below w.heap.size w wr)) (fun _ i _ => l.length - (intOf i).toNat)
  case atStart => exact ⟨0, Nat.zero_le _, rfl, ⟨fun j hj => absurd hj (Nat.not_lt_zero _)⟩, ⟨Below.refl _ _⟩⟩
  case round =>
    obtain ⟨k, hk, rfl, HN, HB⟩ := hrel
    by_cases hlt : k < l.length
    · have w2 : IntKind.i64.wrap ((k : Int) + 1) = ((k + 1 : Nat) : Int) := by rw [IntWalk.i64_in _ (by omega)]; omega
      obtain ⟨ad, A1, e1, A2, e2, A7, e7, rfl, hx0, hx1, hx2, hx3, hx4, hx5, hx6, hx7, hx8, l1, g1, l2, g2, l7, g7⟩ := at_T41 (Kd.C_below HR.out HB.out) (k : Int) (by omega) (by omega)
      rw [Int.toNat_natCast] at hx0 hx1 hx2 hx3 hx4 hx5 hx6 hx7 hx8
      have hgk : rd_T41 l (k : Int) = l[k] := by simp [rd_T41, List.getD, hlt]
      have HG := Aside0.mk hgk
      have hmem : rd_T41 l (k : Int) ∈ l := by rw [hgk]; exact List.getElem_mem hlt
      generalize rd_T41 l (k : Int) = x at hx0 hx1 hx2 hx3 hx4 hx5 hx6 hx7 hx8 l1 g1 l2 g2 l7 g7 hgk HG hmem
      clear hgk
      have hKK := k41_mk wr x l1 g1 l2 g2 l7 g7
      have hc0 := HP.out wr x _ hmem hKK HB.out
      have HC0 := Aside0.mk hc0
      clear hKK hc0 hmem l1 g1 l2 g2 l7 g7
      simp only [List.toArray] at HC0
      by_cases hq : p x = true
      · have hc := HC0.out
        rw [hq] at hc
        have HQ := Aside0.mk hq
        have HC := Aside0.mk hc
        clear hq hc HC0
        go_wp2_with (first | ((with_reducible refine HC.out.mono ?_); rintro e w1 ⟨rfl, hb1⟩))
        go_ret
        exact ⟨ret_i (idxF_at hlt (by rw [← HG.out]; exact HQ.out) (fun j hj => HN.out j hj (by omega))).symm, HB.out.trans (hb1.mono HB.out.size)⟩
      · replace hq := Bool.eq_false_iff.mpr hq
        have hc := HC0.out
        rw [hq] at hc
        have HQ := Aside0.mk hq
        have HC := Aside0.mk hc
        clear hq hc HC0
        go_wp2_with (first | ((with_reducible refine HC.out.mono ?_); rintro e w1 ⟨rfl, hb1⟩))
        go_roundw
        case rel =>
          refine ⟨k + 1, hlt, by go_num, ⟨fun j hj hl => ?_⟩, ⟨HB.out.trans (hb1.mono HB.out.size)⟩⟩
          rcases Nat.lt_or_ge j k with h | h
          · exact HN.out j h hl
          · obtain rfl : j = k := by omega
            rw [← HG.out]; exact HQ.out
        case measure => simp [intOf]; omega
    · have HH : Aside0 (k = l.length) := ⟨by omega⟩
      go_wp2
      go_ret
      exact ⟨ret_i (idxF_no (fun j hj => HN.out j (by have := HH.out; omega) hj)).symm, HB.out⟩
end Go.Proofs.YtocjbedacnlaaaaGreatDoor.Q
/- slices.IndexFunc over ratios, at any function value that answers as a plain predicate does. No conditions. -/
namespace Go.Proofs.YtocjbedacnlaaaaGreatDoor.Q
open Go.RowKit Go.Shelf Go.Proofs.YtocjbedacnlaaaaGreatDoorW.PrintWords
set_option linter.unusedVariables false
set_option linter.unusedSimpArgs false
set_option maxHeartbeats 2000000 in
set_option maxRecDepth 100000 in
theorem idxR_calls (g : Nat) (lb : Array Value) (eg : ∀ args w, (callFunc g args).run Tryz.prog w = .ok (.enter g args) w) (p : S72 → Bool) (A : Option Addr) (c : Nat) (l : List S72) (w : World)
    (hp : ∀ (W : World) (x : S72), Below w.heap.size w W → Calls Tryz.prog g (#[.agg #[.int .i64 x.f0, .int .i64 x.f1]] ++ lb) W fun e W' => e = .returned (.bool (p x)) ∧ Below W.heap.size W W')
    (hr : Kd.C k72 w A l.length l) :
    Calls Tryz.prog 90 #[.slice A l.length c, .func (.func g) #[] lb] w fun e w' => e = .returned (.int .i64 (idxF p l)) ∧ Below w.heap.size w w' := by
  have hu50 := Tryz.underlying50
  have hu72 := Tryz.underlying72
  have hlen := hr.2.1
  have HP := Aside0.mk hp
  have HR := Aside0.mk hr
  clear hp hr
  go_enter Tryz.func90, Tryz.ntmps90
  go_wp2
  go_loopw [5, 8] (fun _ i wr => ∃ k : Nat, k ≤ l.length ∧ i = .int .i64 k ∧ Aside0 (∀ j (hj : j < k) (hl : j < l.length), p l[j] = false) ∧ Aside0 (Below w.heap.size w wr)) (fun _ i _ => l.length - (intOf i).toNat)
  case atStart => exact ⟨0, Nat.zero_le _, rfl, ⟨fun j hj => absurd hj (Nat.not_lt_zero _)⟩, ⟨Below.refl _ _⟩⟩
  case round =>
    obtain ⟨k, hk, rfl, HN, HB⟩ := hrel
    by_cases hlt : k < l.length
    · have w2 : IntKind.i64.wrap ((k : Int) + 1) = ((k + 1 : Nat) : Int) := by rw [IntWalk.i64_in _ (by omega)]; omega
      obtain ⟨ad, rfl, hx0, hx1⟩ := at_T72 (Kd.C_below HR.out HB.out) (k : Int) (by omega) (by omega)
      rw [Int.toNat_natCast] at hx0 hx1
      have hgk : rd_T72 l (k : Int) = l[k] := by simp [rd_T72, List.getD, hlt]
      have HG := Aside0.mk hgk
      generalize rd_T72 l (k : Int) = x at hx0 hx1 hgk HG
      clear hgk
      have HC0 := Aside0.mk (HP.out wr x HB.out)
      by_cases hq : p x = true
      · have hc := HC0.out
        rw [hq] at hc
        have HQ := Aside0.mk hq
        have HC := Aside0.mk hc
        clear hq hc HC0
        go_wp2_with (first | ((with_reducible refine HC.out.mono ?_); rintro e w1 ⟨rfl, hb1⟩))
        go_ret
        exact ⟨ret_i (idxF_at hlt (by rw [← HG.out]; exact HQ.out) (fun j hj => HN.out j hj (by omega))).symm, HB.out.trans (hb1.mono HB.out.size)⟩
      · replace hq := Bool.eq_false_iff.mpr hq
        have hc := HC0.out
        rw [hq] at hc
        have HQ := Aside0.mk hq
        have HC := Aside0.mk hc
        clear hq hc HC0
        go_wp2_with (first | ((with_reducible refine HC.out.mono ?_); rintro e w1 ⟨rfl, hb1⟩))
        go_roundw
        case rel =>
          refine ⟨k + 1, hlt, by go_num, ⟨fun j hj hl => ?_⟩, ⟨HB.out.trans (hb1.mono HB.out.size)⟩⟩
          rcases Nat.lt_or_ge j k with h | h
          · exact HN.out j h hl
          · obtain rfl : j = k := by omega
            rw [← HG.out]; exact HQ.out
        case measure => simp [intOf]; omega
    · have HH : Aside0 (k = l.length) := ⟨by omega⟩
      go_wp2
      go_ret
      exact ⟨ret_i (idxF_no (fun j hj => HN.out j (by have := HH.out; omega) hj)).symm, HB.out⟩
end Go.Proofs.YtocjbedacnlaaaaGreatDoor.Q
/- The pitches that an event ties, as a map: the walk. No conditions. -/
namespace Go.Proofs.YtocjbedacnlaaaaGreatDoor.Q
open Go.RowKit Go.Shelf Go.Maps Go.Proofs.YtocjbedacnlaaaaGreatDoorW.PrintWords
set_option linter.unusedVariables false
set_option linter.unusedSimpArgs false
/-- A pitch as a map's key. -/
def litP (x : S43) : Lit := .string (keyBytes [.int .i64 x.f0, .int .i64 x.f1, .int .i64 x.f2])
abbrev aggP (x : S43) : Value := .agg #[.int .i64 x.f0, .int .i64 x.f1, .int .i64 x.f2]
def wfP (x : S43) : Prop := (Lit.int .i64 x.f0).wf = true ∧ (Lit.int .i64 x.f1).wf = true ∧ (Lit.int .i64 x.f2).wf = true
theorem size209 : Tryz.prog.types.size = 209 := by kernel_rfl
theorem keyed43 : Keyed Tryz.prog 43 := Keyed.of_law (deep_law_gate (by kernel_rfl) (by rw [size209]; decide) (by rw [size209]; decide) (by kernel_rfl) (by kernel_rfl))
theorem litP_key (x : S43) : WideAt.IsKeyLit (litP x) := trivial
theorem keyP (x : S43) (h : wfP x) : keyOf Tryz.prog 43 (aggP x) = some (litP x) := by
  obtain ⟨h1, h2, h3⟩ := h
  obtain ⟨d, hs⟩ : ∃ d, Tryz.prog.types.size + 1 = d + 1 + 1 := ⟨208, by rw [size209]⟩
  have hk : Tryz.prog.keyType 43 = true := by kernel_rfl
  have hc : Tryz.prog.cellsOf 43 = 3 := by kernel_rfl
  have hc3 : Tryz.prog.cellsOf 3 = 1 := by kernel_rfl
  have hf : (aggP x).formed Tryz.prog 43 = true := by simp [Value.formed, Tryz.underlying43, hc]
  unfold keyOf
  rw [Tryz.underlying43]
  simp only [hk, hf, Bool.and_self, if_true]
  rw [hs]
  simp [Program.keyLits, Tryz.underlying43, Tryz.underlying3, hc, hc3, Value.cells, h1, h2, h3, litP]
noncomputable abbrev RB : Value → Option (DataW Unit × List MemPlace) := plainElem Tryz.prog 4
abbrev TB : DataW Unit := .lit (.bool true)
theorem rb_true : RB (.bool true) = some (TB, []) := plainElem_bool Tryz.underlying4 true
/-- The pitches that are tied. -/
def tiedL : List S43 → List Bool → List S43
  | [], _ => []
  | _ :: _, [] => []
  | p :: ps, t :: ts => if t = true then p :: tiedL ps ts else tiedL ps ts
theorem tiedL_take : ∀ (ps : List S43) (ts : List Bool) (k : Nat) (h : k < ps.length), tiedL (ps.take (k + 1)) ts = tiedL (ps.take k) ts ++ (if h2 : k < ts.length then (if ts[k] = true then [ps[k]] else []) else [])
  | [], _, _, h => absurd h (Nat.not_lt_zero _)
  | p :: ps, [], k, h => by cases k <;> simp [tiedL]
  | p :: ps, t :: ts, 0, h => by cases t <;> simp [tiedL]
  | p :: ps, t :: ts, k + 1, h => by
    have ih := tiedL_take ps ts k (by simpa using h)
    simp only [List.take_succ_cons, tiedL, List.length_cons, Nat.add_lt_add_iff_right, List.getElem_cons_succ]
    cases t
    · simp only [Bool.false_eq_true, if_false]; exact ih
    · simp only [if_true, List.cons_append]; rw [ih]
theorem tiedL_mem {p : S43} : ∀ {ps : List S43} {ts : List Bool}, p ∈ tiedL ps ts → p ∈ ps
  | [], _, h => by simp [tiedL] at h
  | _ :: _, [], h => by simp [tiedL] at h
  | q :: ps, t :: ts, h => by
    unfold tiedL at h
    split at h
    · rcases List.mem_cons.1 h with h | h
      · exact h ▸ List.mem_cons_self
      · exact List.mem_cons_of_mem _ (tiedL_mem h)
    · exact List.mem_cons_of_mem _ (tiedL_mem h)
noncomputable def mapT (T : List S43) : DataW Unit := setOf TB (T.map litP)
theorem mapT_snoc (T : List S43) (p : S43) : mapT (T ++ [p]) = (mapT T).put (litP p) TB := by unfold mapT; rw [List.map_append]; exact setOf_snoc _ _ _
theorem mapT_has {T : List S43} {kl : Lit} : has (mapT T) kl = true ↔ ∃ p ∈ T, litP p = kl := by
  unfold mapT
  rw [has_setOf _ _ _ (fun x hx => by obtain ⟨p, _, rfl⟩ := List.mem_map.1 hx; exact litP_key p), List.any_eq_true]
  constructor
  · rintro ⟨x, hx, h⟩
    obtain ⟨p, hp, rfl⟩ := List.mem_map.1 hx
    exact ⟨p, hp, WideAt.sameKey_eq h⟩
  · rintro ⟨p, hp, rfl⟩
    exact ⟨_, List.mem_map.2 ⟨p, hp, rfl⟩, WideAt.sameKey_self (litP_key p)⟩
end Go.Proofs.YtocjbedacnlaaaaGreatDoor.Q
/- The pitches that an event ties, as a map: the walk; a step of a range over such a map. No conditions. -/
namespace Go.Proofs.YtocjbedacnlaaaaGreatDoor.Q
open Go.RowKit Go.Shelf Go.Maps Go.Proofs.YtocjbedacnlaaaaGreatDoorW.PrintWords
set_option linter.unusedVariables false
set_option linter.unusedSimpArgs false
theorem at_bool {w : World} {A : Option Addr} {n : Nat} {xs : List Bool} (h : Kd.C Kd.bool w A n xs) (k : Nat) (hk : k < n) : ∃ ad, A = some ad ∧ w.cell? (ad.add k) = some (.bool (xs.getD k false)) := by
  obtain ⟨ad, c, e, _, hK, hc0⟩ := Kd.C_get h false (k : Int) (by omega) (by omega)
  rw [Int.toNat_natCast] at hK hc0
  have hq := hc0 0 (.bool (xs.getD k false)) (by rw [show c = [.bool (xs.getD k false)] from hK]; rfl)
  exact ⟨ad, e, by simpa [show Kd.bool.sz = 1 from rfl] using hq⟩
set_option maxHeartbeats 4000000 in
set_option maxRecDepth 100000 in
theorem tied_calls (f0 v0 v1 v2 v3 : Int) (A1 A2 A7 : Option Addr) (c1 c2 c7 : Nat) (n7 : Nat) (ps : List S43) (ts : List Bool) (s : ByteArray) (w : World)
    (hr1 : Kd.C k43 w A1 ps.length ps) (hr2 : Kd.C Kd.bool w A2 ts.length ts) (hwf : ∀ p ∈ ps, wfP p) (hlen : ps.length ≤ 1000000) :
    Calls Tryz.prog 81 #[.agg #[.int .i64 f0, .slice A1 ps.length c1, .slice A2 ts.length c2, .int .i64 v0, .int .i64 v1, .int .i64 v2, .int .i64 v3, .slice A7 n7 c7, .string s]] w fun e w' =>
      ∃ b, e = .returned (.map (some b)) ∧ w.heap.size ≤ b ∧ w'.ownsMap Tryz.prog 43 RB b ps.length (mapT (tiedL ps ts)) ∧ Below w.heap.size w w' := by
  have hu41 := Tryz.underlying41
  have hu43 := Tryz.underlying43
  have hmm := @run_makeMap Tryz.prog
  have HR1 := Aside0.mk hr1
  have HR2 := Aside0.mk hr2
  have HW := Aside0.mk hwf
  have hts := hr2.2.1
  have BM0 := blk_alloc (blk_new w (.cells #[.int .i64 f0, .slice A1 ps.length c1, .slice A2 ts.length c2, .int .i64 v0, .int .i64 v1, .int .i64 v2, .int .i64 v3, .slice A7 n7 c7, .string s] 41)) (.map #[] 0)
  have HB0 := Aside0.mk (below_alloc (below_alloc (Below.refl w.heap.size w) (.cells #[.int .i64 f0, .slice A1 ps.length c1, .slice A2 ts.length c2, .int .i64 v0, .int .i64 v1, .int .i64 v2, .int .i64 v3, .slice A7 n7 c7, .string s] 41)) (.map #[] 0))
  have HM0 := Aside0.mk BM0
  have HO0 := Aside0.mk (World.ownsMap_made (w.alloc (.cells #[.int .i64 f0, .slice A1 ps.length c1, .slice A2 ts.length c2, .int .i64 v0, .int .i64 v1, .int .i64 v2, .int .i64 v3, .slice A7 n7 c7, .string s] 41)) Tryz.prog 43 RB)
  clear hr1 hr2 BM0 hwf
  go_enter Tryz.func81, Tryz.ntmps81
  go_wp2
  go_loopw [10] (fun i wr => ∃ k : Nat, k ≤ ps.length ∧ i = .int .i64 k ∧ Aside0 (wr.ownsMap Tryz.prog 43 RB (w.heap.size + 1) k (mapT (tiedL (ps.take k) ts))) ∧ Aside0 (Below w.heap.size w wr) ∧ Aside0 (w.heap.size + 1 < wr.heap.size) ∧ Aside0 (wr.heap[w.heap.size]? = some (.cells #[.int .i64 f0, .slice A1 ps.length c1, .slice A2 ts.length c2, .int .i64 v0, .int .i64 v1, .int .i64 v2, .int .i64 v3, .slice A7 n7 c7, .string s] 41 (0, 0)))) (fun i _ => ps.length - (intOf i).toNat)
  case atStart => exact ⟨0, Nat.zero_le _, rfl, ⟨by have := HO0.out; simpa [World.size_alloc, tiedL, mapT, setOf] using this⟩, HB0, ⟨by simp⟩, HM0⟩
  case round =>
    obtain ⟨k, hk, rfl, HO, HB, HZ, HM⟩ := hrel
    by_cases hlt : k < ps.length
    · have w2 : IntKind.i64.wrap ((k : Int) + 1) = ((k + 1 : Nat) : Int) := by rw [IntWalk.i64_in _ (by omega)]; omega
      obtain ⟨ad, rfl, hx0, hx1, hx2⟩ := at_T43 (Kd.C_below HR1.out HB.out) (k : Int) (by omega) (by omega)
      rw [Int.toNat_natCast] at hx0 hx1 hx2
      have hgx : rd_T43 ps (k : Int) = ps[k] := by simp [rd_T43, List.getD, hlt]
      have HX := Aside0.mk hgx
      generalize rd_T43 ps (k : Int) = x at hx0 hx1 hx2 hgx HX
      have hwx : wfP x := by rw [hgx]; exact HW.out _ (List.getElem_mem hlt)
      have HK := Aside0.mk (keyP x hwx)
      have HT := Aside0.mk (tiedL_take ps ts k hlt)
      clear hgx hwx
      have m2 : wr.cell? ⟨w.heap.size, 2, none⟩ = some (.slice A2 ts.length c2) := (blk_cell HM.out 2).trans rfl
      have hz0 : w.heap.size < wr.heap.size := by have := HZ.out; omega
      have HBx := Aside0.mk (below_alloc HB.out (.cells #[.int .i64 x.f0, .int .i64 x.f1, .int .i64 x.f2] 43))
      have HMx := Aside0.mk (blk_alloc HM.out (.cells #[.int .i64 x.f0, .int .i64 x.f1, .int .i64 x.f2] 43))
      have HOx := Aside0.mk (HO.out.alloc (.cells #[.int .i64 x.f0, .int .i64 x.f1, .int .i64 x.f2] 43))
      by_cases h2 : k < ts.length
      · obtain ⟨ad2, rfl, hy⟩ := at_bool (Kd.C_below HR2.out HB.out) k h2
        have hgy : ts.getD k false = ts[k] := by simp [List.getD, h2]
        rw [hgy] at hy
        have hd : decide (k < ts.length) = true := by simpa using h2
        have hy' := (World.cell?_alloc_lt wr (.cells #[.int .i64 x.f0, .int .i64 x.f1, .int .i64 x.f2] 43) _ (cell_lt hy)).trans hy
        cases htk : ts[k] with
        | true =>
          rw [htk] at hy hy'
          have HTK := Aside0.mk htk
          clear hgy htk
          go_wp2_with (first
            | (at_mapUpdate; refine wpList_mapUpdate_own _ rfl _ _ _ 118 rfl 43 4 keyed43 Tryz.underlying118 RB (w.heap.size + 1) k _ rfl HOx.out (by unfold maxLen; omega) _ _ (litP x) rfl rfl HK.out TB [] rb_true ?_; intro w1 hown1 hgrow1; have HO1 := Aside0.mk hown1; have HG1 := Aside0.mk hgrow1; clear hown1 hgrow1))
          go_roundw
          case rel =>
            have z := HZ.out
            have g := HG1.out
            refine ⟨k + 1, hlt, by go_num, ⟨?_⟩, ⟨pw_below_grown HBx.out (some (w.heap.size + 1)) (by simp; omega) g (fun j hj => by cases hj; omega)⟩, ⟨by have := g.size; simp at this; omega⟩, ⟨(g.block w.heap.size (by simp; omega) (by simp)).trans HMx.out⟩⟩
            rw [HT.out, dif_pos h2, if_pos HTK.out, ← HX.out, mapT_snoc]
            exact HO1.out
          case measure => simp [intOf]; omega
        | false =>
          rw [htk] at hy hy'
          have HTK := Aside0.mk htk
          clear hgy htk
          go_wp2
          go_roundw
          case rel =>
            have z := HZ.out
            refine ⟨k + 1, hlt, by go_num, ⟨?_⟩, HBx, ⟨by simp; omega⟩, HMx⟩
            rw [HT.out, dif_pos h2, if_neg (by rw [HTK.out]; decide), List.append_nil]
            exact HOx.out.mono (by omega)
          case measure => simp [intOf]; omega
      · have hd : decide (k < ts.length) = false := by simpa using h2
        go_wp2
        go_roundw
        case rel =>
          have z := HZ.out
          refine ⟨k + 1, hlt, by go_num, ⟨?_⟩, HBx, ⟨by simp; omega⟩, HMx⟩
          rw [HT.out, dif_neg h2, List.append_nil]
          exact HOx.out.mono (by omega)
        case measure => simp [intOf]; omega
    · have HH : Aside0 (k = ps.length) := ⟨by omega⟩
      go_wp2
      go_ret
      have := HH.out
      subst this
      exact ⟨w.heap.size + 1, rfl, by omega, by have := HO.out; rwa [List.take_length] at this, HB.out⟩
/-- The step of a range over a map whose keys are pitches of a list. -/
theorem wpList_next_P {ops : Array Oper} {rest : List Oper} {o : Oper} {a : Act} {Q : Exit → Act → World → Prop} (w : World) (hg : o.guard = none) (it : Operand) (hop : o.op = Op.next it false) (T : List S43) (hT : ∀ p ∈ T, wfP p)
    (b r n : Nat) (D : DataW Unit) (left : Lit → Bool) (cnt : Nat) (hleft : ∀ kl, left kl = true → ∃ p ∈ T, litP p = kl)
    (hit : a.eval it = .pointer (some ⟨r, 0, none⟩)) (h : w.ranges Tryz.prog 43 RB b r n D left cnt)
    (hDone : (∀ kl, left kl = false) → wpList Tryz.prog ops Q rest (a.put o.dst (.tuple #[.bool false])) w)
    (hMore : ∀ (x : S43) (v : Value) (w' : World) (cnt' : Nat), x ∈ T → w'.ranges Tryz.prog 43 RB b r n D (fun z => left z && !z.sameKey (litP x)) cnt' → cnt' < cnt →
      w.grownBy w' (some r) → w'.heap.size = w.heap.size → (Instr.entry (.pointer (some ⟨r, 0, none⟩))).run Tryz.prog w' = .ok (.tuple #[aggP x, v]) w' → wpList Tryz.prog ops Q rest (a.put o.dst (.tuple #[.bool true, aggP x, v])) w') :
    wpList Tryz.prog ops Q (o :: rest) a w := by
  refine wpList_plain hg fun K' hK' => ?_
  unfold Oper.wp
  rcases h.next keyed43 o.type with ⟨h0, hl, hrun⟩ | ⟨key, v, kl, y, w', cnt', hkey, hlk, hv, hat, hrun, hrg, hlt, hgr, hsz, hen⟩
  · simp [execOp, hop, hit, hrun, Result.andThen]
    exact hK' _ _ (hDone hl)
  · obtain ⟨p, hp, rfl⟩ := hleft kl hlk
    obtain rfl := keyed43.inj hkey (keyP p (hT p hp))
    simp [execOp, hop, hit, hrun, Result.andThen]
    exact hK' _ _ (hMore p v w' cnt' hp hrg hlt hgr hsz hen)
end Go.Proofs.YtocjbedacnlaaaaGreatDoor.Q
/- A copy of a list of ratios: the walk over slices.Clone. No conditions. -/
namespace Go.Proofs.YtocjbedacnlaaaaGreatDoor.Q
open Go.RowKit Go.Proofs.YtocjbedacnlaaaaGreatDoorW.PrintWords
set_option linter.unusedVariables false
set_option linter.unusedSimpArgs false
set_option maxHeartbeats 2000000 in
set_option maxRecDepth 100000 in
theorem clone_calls (A : Option Addr) (c : Nat) (l : List S72) (w : World) (hr : Kd.C k72 w A l.length l) (hc : l.length ≤ c) (hlen : l.length ≤ 1000000) :
    Calls Tryz.prog 41 #[.slice A l.length c] w fun e w' => ∃ v, e = .returned v ∧ Kd.R k72 72 w' w.heap.size (fun _ => True) v l ∧ Below w.heap.size w w' := by
  have hu50 := Tryz.underlying50
  have hu72 := Tryz.underlying72
  cases A with
  | none =>
    have hl : l = [] := by
      rcases Nat.eq_zero_or_pos l.length with h | h
      · exact List.eq_nil_of_length_eq_zero h
      · obtain ⟨ad, e, _⟩ := hr.2.2 h; cases e
    subst hl
    have hn := fun W => Lib.run_eql_slice_nil (P := Tryz.prog) W 50 72 none 0 c 0 0 Tryz.underlying50
    go_enter Tryz.func41, Tryz.ntmps41
    go_wp2
    go_ret
    exact ⟨_, rfl, ⟨fun _ _ => trivial, [], own_nil _ _ _ _, Reps.none _ _⟩, Below.refl _ _⟩
  | some ad =>
    have hn := fun W => Lib.run_eql_slice_nil (P := Tryz.prog) W 50 72 (some ad) l.length c 0 0 Tryz.underlying50
    have hO : Kd.R k72 72 (w.alloc (.cells #[] 72)) w.heap.size (fun _ => True) (.slice (some ⟨w.heap.size, 0, none⟩) 0 0) [] :=
      ⟨fun _ _ => trivial, [], ⟨rfl, .inr ⟨w.heap.size, 0, #[], rfl, Nat.le_refl _, blk_new w (.cells #[] 72), Nat.le_refl _, by unfold maxLen; omega, rfl, rfl⟩⟩, Reps.none _ _⟩
    have HO := Aside0.mk hO
    have HB := Aside0.mk (below_alloc (Below.refl w.heap.size w) (.cells #[] 72))
    have HR := Aside0.mk (Kd.C_below hr HB.out)
    clear hO hr
    go_enter Tryz.func41, Tryz.ntmps41
    go_wp2_with (first
      | (at_builtin; refine Kd.R_append_rows k72 (w0 := w) w.heap.size rfl _ _ 50 72 (.agg #[.int .i64 0, .int .i64 0]) 16 rfl Tryz.underlying50 info72 rfl (by decide) (by decide) _ [] l (some ad) l.length c (fun _ => True) (fun _ => False) rfl rfl HO.out HR.out (fun x cs h => by obtain rfl := k72_open h; exact k72_mkM _ _ _ x) (fun _ h => h.elim) (fun _ _ => trivial) HB.out (by simp) (by simp; omega) ?_; intro v1 w1 hR1 hB1 _ _; have HR1 := Aside0.mk hR1; have HB1 := Aside0.mk hB1; clear hR1 hB1))
    go_ret
    exact ⟨_, rfl, HR1.out, HB1.out⟩
end Go.Proofs.YtocjbedacnlaaaaGreatDoor.Q
