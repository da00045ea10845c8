-- Written by a program of this session (myprint.py), function by function.
import Derived.Test.YtbncdlnnjhadgaaQ0
import Derived.Test.YtbncdlnnjhadgaaQ2
import Derived.Test.YtbncdlnnjhadgaaQ3
import Derived.Test.YtbncdlnnjhadgaaQ5
import Derived.Test.YtbncdlnnjhadgaaQ7
import Derived.BigRegion
import Derived.ChangeAlike
import Derived.IntWalk
import Derived.Maps.AppendAt
import Derived.RegionTactic
import Derived.Shelf.Abstract
namespace Go.Proofs.Ytbncdlnnjhadgaa.Q
open Go.RowKit Go.Proofs.YtbncdlnnjhadgaaW.PrintWords Go.Proofs.YtbncdlnnjhadgaaW.PrintLast Go.Proofs.YtbncdlnnjhadgaaW.PrintMore
attribute [local go_sem] max2_int min2_int max_two min_two max_three min_three max_four min_four   -- for this text's walks alone
set_option linter.unusedVariables false
set_option linter.unusedSimpArgs false

/-! ### partitaref05_Beats: function 15 -/
/-- The document's beats: from a place on. -/
def beatsR (k : Nat) (d : Int) : List Int → Int → Option (List S26)
  | [], _ => some []
  | g :: G, a => (partitaref01_Of.f k a d).bind fun r => (beatsR k d G (a + g)).bind fun m => some (⟨r.1, r.2.1⟩ :: m)
def partitaref05_Beats.f (k : Nat) (a0_0 : Int) (a0_1 : Int) (l0_2 : List Int) : Option ((List (S26)) × Int) := (partitaref05_Right.f k a0_0 a0_1 l0_2).bind fun t => if t = true then (if goodM a0_0 a0_1 l0_2 = true then (beatsR k a0_1 (grp a0_0 a0_1 l0_2) 0).bind fun m => some (m, 0) else none) else some ([], 50)
theorem beatsR_mono (k : Nat) (d : Int) : ∀ (G : List Int) (a : Int), LeO (beatsR k d G a) (beatsR (k + 1) d G a)
  | [], a => LeO.refl _
  | g :: G, a => by
    unfold beatsR
    exact LeO.bind (partitaref01_Of.mono _ _ _) (fun _ => LeO.bind (beatsR_mono k d G _) (fun _ => LeO.refl _))
theorem partitaref05_Beats.mono : ∀ a0 a1 a2 k, LeO (partitaref05_Beats.f k a0 a1 a2) (partitaref05_Beats.f (k + 1) a0 a1 a2) := by
  intro a0 a1 a2 k
  unfold partitaref05_Beats.f
  refine LeO.bind (partitaref05_Right.mono _ _ _ _) (fun _ => LeO.ite (LeO.ite (LeO.bind (beatsR_mono _ _ _ _) (fun _ => LeO.refl _)) (LeO.refl _)) (LeO.refl _))
def flatS (ps : List S26) : List Value := ps.flatMap fun p => [.int .i64 p.f0, .int .i64 p.f1]
theorem flatS_R {w : World} {base n : Nat} {v : Value} {ps : List S26} (h : w.ownsRow base 26 2 v n (flatS ps)) (hn : ps.length = n) : Kd.R k26 26 w base (fun _ => True) v ps := by
  refine ⟨fun _ _ => trivial, flatS ps, (by rw [hn]; exact h), ?_⟩
  clear h hn
  induction ps with
  | nil => exact Reps.none _ _
  | cons p t ih => exact Reps.c2 (k26_mkM _ _ _ p) ih
theorem flatS_snoc (ps : List S26) (x y : Int) : flatS (ps ++ [⟨x, y⟩]) = flatS ps ++ [.int .i64 x, .int .i64 y] := by unfold flatS; rw [List.flatMap_append]; simp
theorem grow_below {n : Nat} {w wr w1 : World} {tmp : Obj} {v : Value} {e : TypeId} {s k : Nat} {xs : List Value} (hO : wr.ownsRow n e s v k xs) (hB : Below n w wr) (hs : n ≤ wr.heap.size) (hg : (wr.alloc tmp).grownBy w1 v.ownBlock) : Below n w w1 := by
  refine (hB.alloc hs tmp).grown hg (by simp; omega) (fun j ej => ?_)
  rcases hO.2 with ⟨rfl, _⟩ | ⟨g, cap, cur, rfl, hb, _, _⟩
  · simp [Value.ownBlock] at ej
  · simp [Value.ownBlock] at ej; omega
set_option maxHeartbeats 2000000 in
set_option maxRecDepth 100000 in
theorem partitaref05_Beats.calls (k : Nat) (a0_0 : Int) (a0_1 : Int) (A0_2 : Option Addr) (c0_2 : Nat) (l0_2 : List Int) (r1 : List (S26)) (r2 : Int) (w : World) (hr0_2 : Kd.C (Kd.int .i64) w A0_2 l0_2.length l0_2) (hc0_2 : l0_2.length ≤ c0_2) (h : partitaref05_Beats.f k a0_0 a0_1 l0_2 = some (r1, r2)) :
    Calls Try.prog 15 #[.agg #[.int .i64 a0_0, .int .i64 a0_1, .slice A0_2 l0_2.length c0_2]] w fun e w' => ∃ v0_ : Value, e = .returned (.tuple #[v0_, .int .i64 r2]) ∧ Kd.R k26 26 w' w.heap.size (fun _ => True) v0_ r1 ∧ Below w.heap.size w w' := by
  have hu24 := Try.underlying24
  have hu26 := Try.underlying26
  unfold partitaref05_Beats.f at h
  obtain ⟨t, hT, h⟩ := Option.bind_eq_some_iff.mp h
  have HR := Aside0.mk (fun W (hb : Below w.heap.size w W) => partitaref05_Right.calls k a0_0 a0_1 A0_2 c0_2 l0_2 t W (Kd.C_below hr0_2 hb) hc0_2 hT)
  have BM := blk_new w (.cells #[.int .i64 a0_0, .int .i64 a0_1, .slice A0_2 l0_2.length c0_2] 24)
  have hB1 := below_alloc (Below.refl w.heap.size w) (.cells #[.int .i64 a0_0, .int .i64 a0_1, .slice A0_2 l0_2.length c0_2] 24)
  have HB := Aside0.mk hB1
  cases t with
  | false =>
    simp only [Bool.false_eq_true, if_false, Option.some.injEq, Prod.mk.injEq] at h
    obtain ⟨rfl, rfl⟩ := h
    clear hT
    go_enter Try.func15, Try.ntmps15
    go_wp2_with (go_at_call 17; refine (HR.out _ HB.out).mono ?_; rintro e w1 ⟨rfl, hb⟩; have HB1 := Aside0.mk (below_step HB.out hb))
    go_ret2
    exact ⟨_, rfl, flatS_R (ps := []) (own_nil _ _ _ _) rfl, HB1.out⟩
  | true =>
    simp only [if_true] at h
    split at h
    case isFalse => cases h
    rename_i hgood
    obtain ⟨g1, g2, g3, g4, g5, g6⟩ := goodM_of hgood
    obtain ⟨m, hm, h⟩ := Option.bind_eq_some_iff.mp h
    obtain ⟨rfl, rfl⟩ : m = r1 ∧ (0 : Int) = r2 := by simpa using h
    have HG := Aside0.mk (fun W (hb : Below w.heap.size w W) => refGroups_ok a0_0 a0_1 A0_2 c0_2 l0_2 W g1 g2 (Kd.C_below hr0_2 hb) hc0_2)
    clear hT h
    go_enter Try.func15, Try.ntmps15
    go_wp2_with (first
      | (go_at_call 17; refine (HR.out _ HB.out).mono ?_; rintro e w1 ⟨rfl, hb⟩; have HB1 := Aside0.mk (below_step HB.out hb); have BM1 := Aside0.mk (blk_below BM hb); have m0 : w1.cell? ⟨w.heap.size, 0, none⟩ = some (.int .i64 a0_0) := (blk_cell BM1.out 0).trans rfl; have m1 : w1.cell? ⟨w.heap.size, 1, none⟩ = some (.int .i64 a0_1) := (blk_cell BM1.out 1).trans rfl; have m2 : w1.cell? ⟨w.heap.size, 2, none⟩ = some (.slice A0_2 l0_2.length c0_2) := (blk_cell BM1.out 2).trans rfl; clear hb)
      | (go_at_call 34; refine (HG.out _ HB1.out).mono ?_; rintro e w2 ⟨A, c, rfl, hc, hC, hb⟩; have HB2 := Aside0.mk (below_step HB1.out hb); have BM2 := Aside0.mk (blk_below BM1.out hb); clear m0 m1 m2 hb))
    generalize hGG : grp a0_0 a0_1 l0_2 = G at *
    have HM := Aside0.mk hm
    have HC := Aside0.mk hC
    have HS := Aside0.mk (good_sums hgood)
    rw [hGG] at HS
    have HL := Aside0.mk (show w.heap.size < w2.heap.size from blk_lt BM2.out)
    have g6' := Aside0.mk g6
    clear hm hC hgood hGG HG HR BM1 BM HB1 HB hB1 hr0_2 hc0_2 g6
    go_loopw [5, 7, 8] (fun v a i wr => ∃ (j : Nat) (m0 m1 : List S26), j ≤ G.length ∧ i = .int .i64 j ∧ a = .int .i64 (G.take j).sum ∧ Aside0 (beatsR k a0_1 (G.drop j) (G.take j).sum = some m1) ∧ Aside0 (m0 ++ m1 = m) ∧ Aside0 (m0.length = j) ∧ Aside0 (wr.ownsRow w2.heap.size 26 2 v j (flatS m0)) ∧ Aside0 (Below w2.heap.size w2 wr)) (fun _ _ i _ => G.length - (intOf i).toNat)
    case atStart => exact ⟨0, [], m, Nat.zero_le _, rfl, rfl, HM, ⟨rfl⟩, ⟨rfl⟩, ⟨own_nil _ _ _ _⟩, ⟨Below.refl _ _⟩⟩
    case round =>
      obtain ⟨j, m0, m1, hj, rfl, rfl, hR1, hA, hL0, hO, hB⟩ := hrel
      have BMr := Aside0.mk ((hB.out.block _ HL.out).trans BM2.out)
      have m1' : wr.cell? ⟨w.heap.size, 1, none⟩ = some (.int .i64 a0_1) := (blk_cell BMr.out 1).trans rfl
      have hsz := hB.out.size
      have hL0' := HL.out
      by_cases hlt : j < G.length
      · have hd : decide ((j : Int) < (G.length : Int)) = true := by rw [decide_eq_true_eq]; omega
        have hR2 := hR1.out
        rw [List.drop_eq_getElem_cons hlt, beatsR] at hR2
        obtain ⟨⟨x1, x2, x3⟩, hOf, hR2⟩ := Option.bind_eq_some_iff.mp hR2
        obtain ⟨m2, hm2, hR2⟩ := Option.bind_eq_some_iff.mp hR2
        have hR3 := Aside0.mk (Option.some.inj hR2)
        have hOf' := Aside0.mk hOf
        have hsk := HS.out j
        have hsk1 := HS.out (j + 1)
        rw [sum_take hlt] at hsk1
        have hsum := Aside0.mk (sum_take hlt)
        have hrd : Aside0 (G[j] = rd G j) := ⟨by simp [rd, List.getD, hlt]⟩
        have hm3 := Aside0.mk hm2
        obtain ⟨ad, rfl, hx⟩ := Kd.at_int HC.out (j : Int) (by omega) (by omega)
        rw [Int.toNat_natCast] at hx
        have HX := Aside0.mk hx
        have HCr := Aside0.mk (fun W (hb : Below w2.heap.size w2 W) => Kd.at_int (Kd.C_below HC.out hb) (j : Int) (by omega) (by omega))
        clear hm2 hR2 hx hOf
        generalize hS : (G.take j).sum = S at *
        have hSS := Aside0.mk hS
        clear hS
        generalize hgk : rd G (j : Int) = gk at *
        have hgkk := Aside0.mk hgk
        clear hgk
        have hw : IntKind.i64.wrap (S + gk) = S + gk := by rw [IntKind.wrap_i64]; omega
        obtain ⟨i0, hi, hz0, hz1, hz2⟩ := info_parts info26
        go_upto_region 11 with (first
          | (go_at_call 27; refine (partitaref01_Of.calls _ _ _ _ _ _ _ hOf'.out).mono ?_; rintro e w3 ⟨rfl, hb3⟩; have HB3 := Aside0.mk (hB.out.trans (hb3.mono hsz)); have hO3 := Aside0.mk (hO.out.kept (grown_of_below hb3 none) (by cases (Value.ownBlock _) <;> simp)); have hs3 := hb3.size; clear hb3 m1'))
        have XN := Aside0.mk (blk_new w3 (.cells #[.int .i64 x1, .int .i64 x2] 26))
        have hO4 := Aside0.mk (hO3.out.alloc (.cells #[.int .i64 x1, .int .i64 x2] 26))
        have HB4 := Aside0.mk (HB3.out.alloc (by omega) (.cells #[.int .i64 x1, .int .i64 x2] 26))
        have hs4 : w3.heap.size ≤ (w3.alloc (.cells #[.int .i64 x1, .int .i64 x2] 26)).heap.size := by simp
        clear hO3 HB3
        generalize (w3.alloc (.cells #[.int .i64 x1, .int .i64 x2] 26)) = w4 at *
        generalize w3.heap.size = bX at *
        have y0 : w4.cell? ⟨bX, 0, none⟩ = some (.int .i64 x1) := (blk_cell XN.out 0).trans rfl
        have y1 : w4.cell? ⟨bX, 1, none⟩ = some (.int .i64 x2) := (blk_cell XN.out 1).trans rfl
        go_wp2_with (first
          | (at_builtin; refine wpList_append_own _ rfl _ _ 33 rfl w2.heap.size 26 i0 _ 2 16 Try.underlying33 hi hz0 hz1 hz2 rfl (by decide) _ _ _ rfl (hO4.out.alloc _) ⟨w4.heap.size, 0, none⟩ 1 1 [.int .i64 x1, .int .i64 x2] rfl rfl (cell_two_new _ _ _ _) (by simp [Value.oneCell']) (by simp [maxLen]; omega) (by omega) (by simp; omega) ?_; intro v' w5 hown' hgrow _; have HO := Aside0.mk hown'; have HB5 := Aside0.mk (grow_below hO4.out HB4.out (by omega) hgrow); obtain ⟨ad', had, hx5⟩ := HCr.out w5 HB5.out; obtain rfl := Option.some.inj had; rw [Int.toNat_natCast] at hx5; clear hown' hgrow had))
        go_roundw
        case rel =>
          refine ⟨j + 1, m0 ++ [⟨x1, x2⟩], m2, by omega, by go_num, by rw [hsum.out], ⟨?_⟩, ⟨?_⟩, ⟨?_⟩, ⟨?_⟩, HB5⟩
          · rw [hsum.out]; rw [hrd.out] at hm3; exact hm3.out
          · rw [List.append_assoc]; show m0 ++ (⟨x1, x2⟩ :: m2) = m; rw [hR3.out]; exact hA.out
          · rw [List.length_append, hL0.out]; rfl
          · rw [flatS_snoc]; exact HO.out
        case measure => simp [intOf]; omega
      · obtain rfl : j = G.length := by omega
        have hd : decide ((G.length : Int) < (G.length : Int)) = false := by rw [decide_eq_false_iff_not]; omega
        have hR2 := hR1.out
        rw [List.drop_length, beatsR] at hR2
        obtain rfl := Option.some.inj hR2
        have hA' := hA.out
        rw [List.append_nil] at hA'
        subst hA'
        have HLe := Aside0.mk (hO.out.2)
        rcases HLe.out with ⟨rfl, _⟩ | ⟨g, cap, cur, rfl, _⟩
        all_goals
          go_wp2
          go_ret2
          exact ⟨_, rfl, flatS_R (ownsRow_lower hO.out (Nat.le_of_lt hL0')) hL0.out, HB2.out.trans (hB.out.mono (Nat.le_of_lt hL0'))⟩

/-! ### partitaref05_Same: function 19 -/
mutual
def partitaref05_Same.j0 : Nat → Bool → Int → Int → List Int → Int → Int → List Int → Option (Bool)
 | 0, _, _, _, _, _, _, _ => none
 | k + 1, x26, x159000, x159001, x159002, x160000, x160001, x160002 => if x26 = true then (some false) else (partitaref05_Same.l0 k 0 x159000 x159001 x159002 x160000 x160001 x160002)
def partitaref05_Same.l0 : Nat → Int → Int → Int → List Int → Int → Int → List Int → Option (Bool)
 | 0, _, _, _, _, _, _, _ => none
 | k + 1, x5, x159000, x159001, x159002, x160000, x160001, x160002 => if x5 < (x159002.length : Int) then (if 0 ≤ x5 then (if x5 < (x160002.length : Int) then (if (rd x159002 x5) = (rd x160002 x5) then (partitaref05_Same.l0 k (wrap64 (x5 + 1)) x159000 x159001 x159002 x160000 x160001 x160002) else (some false)) else (none)) else (none)) else (some true)
end
def partitaref05_Same.f (k : Nat) (a0_0 : Int) (a0_1 : Int) (l0_2 : List Int) (a1_0 : Int) (a1_1 : Int) (l1_2 : List Int) : Option (Bool) := if a0_0 = a1_0 then (if a0_1 = a1_1 then (partitaref05_Same.j0 k ((l0_2.length : Int) != (l1_2.length : Int)) a0_0 a0_1 l0_2 a1_0 a1_1 l1_2) else (partitaref05_Same.j0 k true a0_0 a0_1 l0_2 a1_0 a1_1 l1_2)) else (partitaref05_Same.j0 k true a0_0 a0_1 l0_2 a1_0 a1_1 l1_2)
theorem partitaref05_Same.mono_l : ∀ k, (∀ y0 y1 y2 y3 y4 y5 y6, LeO (partitaref05_Same.j0 k y0 y1 y2 y3 y4 y5 y6) (partitaref05_Same.j0 (k + 1) y0 y1 y2 y3 y4 y5 y6)) ∧ (∀ y0 y1 y2 y3 y4 y5 y6, LeO (partitaref05_Same.l0 k y0 y1 y2 y3 y4 y5 y6) (partitaref05_Same.l0 (k + 1) y0 y1 y2 y3 y4 y5 y6))
 | 0 => ⟨fun _ _ _ _ _ _ _ r h => by simp [partitaref05_Same.j0] at h, fun _ _ _ _ _ _ _ r h => by simp [partitaref05_Same.l0] at h⟩
 | k + 1 => by
  obtain ⟨ih0, ih1⟩ := partitaref05_Same.mono_l k
  refine ⟨?_, ?_⟩
  · intro y0 y1 y2 y3 y4 y5 y6
    unfold partitaref05_Same.j0
    repeat' first
    | (with_reducible exact ih0 _ _ _ _ _ _ _)
    | (with_reducible exact ih1 _ _ _ _ _ _ _)
    | (with_reducible exact LeO.refl _)
    | (with_reducible exact LeO.none _)
    | (with_reducible refine LeO.ite ?_ ?_)
    | (with_reducible refine LeO.bind ?_ (fun _ => ?_))
    | exact ih0 _ _ _ _ _ _ _
    | exact ih1 _ _ _ _ _ _ _
    | exact LeO.none _
    | refine LeO.ite ?_ ?_
    | refine LeO.bind ?_ (fun _ => ?_)
  · intro y0 y1 y2 y3 y4 y5 y6
    unfold partitaref05_Same.l0
    repeat' first
    | (with_reducible exact ih0 _ _ _ _ _ _ _)
    | (with_reducible exact ih1 _ _ _ _ _ _ _)
    | (with_reducible exact LeO.refl _)
    | (with_reducible exact LeO.none _)
    | (with_reducible refine LeO.ite ?_ ?_)
    | (with_reducible refine LeO.bind ?_ (fun _ => ?_))
    | exact ih0 _ _ _ _ _ _ _
    | exact ih1 _ _ _ _ _ _ _
    | exact LeO.none _
    | refine LeO.ite ?_ ?_
    | refine LeO.bind ?_ (fun _ => ?_)
theorem partitaref05_Same.mono : ∀ a0 a1 a2 a3 a4 a5 k, LeO (partitaref05_Same.f k a0 a1 a2 a3 a4 a5) (partitaref05_Same.f (k + 1) a0 a1 a2 a3 a4 a5) := by
 intro a0 a1 a2 a3 a4 a5 k
 obtain ⟨ih0, ih1⟩ := partitaref05_Same.mono_l k
 unfold partitaref05_Same.f
 repeat' first
  | (with_reducible exact ih0 _ _ _ _ _ _ _)
  | (with_reducible exact ih1 _ _ _ _ _ _ _)
  | (with_reducible exact LeO.refl _)
  | (with_reducible exact LeO.none _)
  | (with_reducible refine LeO.ite ?_ ?_)
  | (with_reducible refine LeO.bind ?_ (fun _ => ?_))
  | exact ih0 _ _ _ _ _ _ _
  | exact ih1 _ _ _ _ _ _ _
  | exact LeO.none _
  | refine LeO.ite ?_ ?_
  | refine LeO.bind ?_ (fun _ => ?_)
set_option maxHeartbeats 8000000 in
set_option maxRecDepth 100000 in
theorem partitaref05_Same.calls (k : Nat) (a0_0 : Int) (a0_1 : Int) (A0_2 : Option Addr) (c0_2 : Nat) (l0_2 : List Int) (a1_0 : Int) (a1_1 : Int) (A1_2 : Option Addr) (c1_2 : Nat) (l1_2 : List Int) (r : Bool) (w : World) (hr0_2 : Kd.C (Kd.int .i64) w A0_2 l0_2.length l0_2) (hc0_2 : l0_2.length ≤ c0_2) (hr1_2 : Kd.C (Kd.int .i64) w A1_2 l1_2.length l1_2) (hc1_2 : l1_2.length ≤ c1_2) (h : partitaref05_Same.f k a0_0 a0_1 l0_2 a1_0 a1_1 l1_2 = some r) :
 Calls Try.prog 19 #[.agg #[.int .i64 a0_0, .int .i64 a0_1, .slice A0_2 l0_2.length c0_2], .agg #[.int .i64 a1_0, .int .i64 a1_1, .slice A1_2 l1_2.length c1_2]] w fun e w' => e = .returned (.bool r) ∧ Below w.heap.size w w' := by
 have hu24 := Try.underlying24
 have HR0_2 := Aside0.mk hr0_2
 have HC0_2 := Aside0.mk hc0_2
 clear hr0_2 hc0_2
 have HR1_2 := Aside0.mk hr1_2
 have HC1_2 := Aside0.mk hc1_2
 clear hr1_2 hc1_2
 have HB := Aside0.mk (Below.refl w.heap.size w)
 have H : (if a0_0 = a1_0 then (if a0_1 = a1_1 then (partitaref05_Same.j0 k ((l0_2.length : Int) != (l1_2.length : Int)) a0_0 a0_1 l0_2 a1_0 a1_1 l1_2) else (partitaref05_Same.j0 k true a0_0 a0_1 l0_2 a1_0 a1_1 l1_2)) else (partitaref05_Same.j0 k true a0_0 a0_1 l0_2 a1_0 a1_1 l1_2)) = some r := h
 clear h
 have HC3 := Aside0.mk H
 clear H
 go_enter Try.func19, Try.ntmps19
 go_upto_region 1 with (first | ((with_reducible refine gate_dst (N := 2) rfl ?_); (try (refine gate_guard (by rfl) ?_; dsimp only)); refine box_event ?hg (N := 2) ?hd (cs := #[.int .i64 a0_0, .int .i64 a0_1, .slice A0_2 l0_2.length c0_2]) (t := 24) ?hr ?_; (case hd => rfl); (case hg => rfl); (case hr => first | (go_simp; done) | (go_simp; rfl)); intro gb158 hg w4 hbox hb; have n0_ := Aside0.mk (below_step (by repeat (first | (with_reducible first | exact HB.out | apply below_alloc | apply pw_below_drewN | apply below_drew1) | exact HB.out)) hb); have n1_ := Aside0.mk (hbox); have n2_ := Aside0.mk ((by rw [hg]; exact (below_size (by repeat (first | (with_reducible first | exact HB.out | apply below_alloc | apply pw_below_drewN | apply below_drew1) | exact HB.out))) : w.heap.size ≤ gb158)); have n3_ := Aside0.mk ((by rw [hg]; exact (below_size (by repeat (first | (with_reducible first | exact HB.out | apply below_alloc | apply pw_below_drewN | apply below_drew1) | exact HB.out))) : w.heap.size ≤ gb158)); clear HB; have HB := n0_; have BK158 := n1_; have GW158 := n2_; have GE158 := n3_; clear n0_ n1_ n2_ n3_; clear hb hbox hg) | ((with_reducible refine gate_dst (N := 3) rfl ?_); (try (refine gate_guard (by rfl) ?_; dsimp only)); refine box_event ?hg (N := 3) ?hd (cs := #[.int .i64 a1_0, .int .i64 a1_1, .slice A1_2 l1_2.length c1_2]) (t := 24) ?hr ?_; (case hd => rfl); (case hg => rfl); (case hr => first | (go_simp; done) | (go_simp; rfl)); intro gb159 hg w5 hbox hb; have n0_ := Aside0.mk (blk_below (qB BK158.out) hb); have n1_ := Aside0.mk (below_step (by repeat (first | (with_reducible first | exact HB.out | apply below_alloc | apply pw_below_drewN | apply below_drew1 | refine below_set ?_ GE158.out) | exact HB.out)) hb); have n2_ := Aside0.mk (hbox); have n3_ := Aside0.mk ((by rw [hg]; exact (below_size (by repeat (first | (with_reducible first | exact HB.out | apply below_alloc | apply pw_below_drewN | apply below_drew1 | refine below_set ?_ GE158.out) | exact HB.out))) : w.heap.size ≤ gb159)); have n4_ := Aside0.mk ((by rw [hg]; exact (below_size (by repeat (first | (with_reducible first | exact HB.out | apply below_alloc | apply pw_below_drewN | apply below_drew1 | refine below_set ?_ GE158.out) | exact HB.out))) : w.heap.size ≤ gb159)); have n5_ := Aside0.mk ((by rw [hg]; exact Nat.ne_of_lt (blk_lt (qB BK158.out)) : gb158 ≠ gb159)); have n6_ := Aside0.mk ((by rw [hg]; exact Nat.ne_of_gt (blk_lt (qB BK158.out)) : gb159 ≠ gb158)); clear BK158; clear HB; have BK158 := n0_; have HB := n1_; have BK159 := n2_; have GW159 := n3_; have GE159 := n4_; have NB158_159 := n5_; have NB159_158 := n6_; clear n0_ n1_ n2_ n3_ n4_ n5_ n6_; clear hb hbox hg))
 repeat (go_quiet (first | ((with_reducible refine gate_dst (N := 2) rfl ?_); (try (refine gate_guard (by rfl) ?_; dsimp only)); refine box_event ?hg (N := 2) ?hd (cs := #[.int .i64 a0_0, .int .i64 a0_1, .slice A0_2 l0_2.length c0_2]) (t := 24) ?hr ?_; (case hd => rfl); (case hg => rfl); (case hr => first | (go_simp; done) | (go_simp; rfl)); intro gb158 hg w4 hbox hb; have n0_ := Aside0.mk (below_step (by repeat (first | (with_reducible first | exact HB.out | apply below_alloc | apply pw_below_drewN | apply below_drew1) | exact HB.out)) hb); have n1_ := Aside0.mk (hbox); have n2_ := Aside0.mk ((by rw [hg]; exact (below_size (by repeat (first | (with_reducible first | exact HB.out | apply below_alloc | apply pw_below_drewN | apply below_drew1) | exact HB.out))) : w.heap.size ≤ gb158)); have n3_ := Aside0.mk ((by rw [hg]; exact (below_size (by repeat (first | (with_reducible first | exact HB.out | apply below_alloc | apply pw_below_drewN | apply below_drew1) | exact HB.out))) : w.heap.size ≤ gb158)); clear HB; have HB := n0_; have BK158 := n1_; have GW158 := n2_; have GE158 := n3_; clear n0_ n1_ n2_ n3_; clear hb hbox hg) | ((with_reducible refine gate_dst (N := 3) rfl ?_); (try (refine gate_guard (by rfl) ?_; dsimp only)); refine box_event ?hg (N := 3) ?hd (cs := #[.int .i64 a1_0, .int .i64 a1_1, .slice A1_2 l1_2.length c1_2]) (t := 24) ?hr ?_; (case hd => rfl); (case hg => rfl); (case hr => first | (go_simp; done) | (go_simp; rfl)); intro gb159 hg w5 hbox hb; have n0_ := Aside0.mk (blk_below (qB BK158.out) hb); have n1_ := Aside0.mk (below_step (by repeat (first | (with_reducible first | exact HB.out | apply below_alloc | apply pw_below_drewN | apply below_drew1 | refine below_set ?_ GE158.out) | exact HB.out)) hb); have n2_ := Aside0.mk (hbox); have n3_ := Aside0.mk ((by rw [hg]; exact (below_size (by repeat (first | (with_reducible first | exact HB.out | apply below_alloc | apply pw_below_drewN | apply below_drew1 | refine below_set ?_ GE158.out) | exact HB.out))) : w.heap.size ≤ gb159)); have n4_ := Aside0.mk ((by rw [hg]; exact (below_size (by repeat (first | (with_reducible first | exact HB.out | apply below_alloc | apply pw_below_drewN | apply below_drew1 | refine below_set ?_ GE158.out) | exact HB.out))) : w.heap.size ≤ gb159)); have n5_ := Aside0.mk ((by rw [hg]; exact Nat.ne_of_lt (blk_lt (qB BK158.out)) : gb158 ≠ gb159)); have n6_ := Aside0.mk ((by rw [hg]; exact Nat.ne_of_gt (blk_lt (qB BK158.out)) : gb159 ≠ gb158)); clear BK158; clear HB; have BK158 := n0_; have HB := n1_; have BK159 := n2_; have GW159 := n3_; have GE159 := n4_; have NB158_159 := n5_; have NB159_158 := n6_; clear n0_ n1_ n2_ n3_ n4_ n5_ n6_; clear hb hbox hg)); go_upto_region 1 with (first | ((with_reducible refine gate_dst (N := 2) rfl ?_); (try (refine gate_guard (by rfl) ?_; dsimp only)); refine box_event ?hg (N := 2) ?hd (cs := #[.int .i64 a0_0, .int .i64 a0_1, .slice A0_2 l0_2.length c0_2]) (t := 24) ?hr ?_; (case hd => rfl); (case hg => rfl); (case hr => first | (go_simp; done) | (go_simp; rfl)); intro gb158 hg w4 hbox hb; have n0_ := Aside0.mk (below_step (by repeat (first | (with_reducible first | exact HB.out | apply below_alloc | apply pw_below_drewN | apply below_drew1) | exact HB.out)) hb); have n1_ := Aside0.mk (hbox); have n2_ := Aside0.mk ((by rw [hg]; exact (below_size (by repeat (first | (with_reducible first | exact HB.out | apply below_alloc | apply pw_below_drewN | apply below_drew1) | exact HB.out))) : w.heap.size ≤ gb158)); have n3_ := Aside0.mk ((by rw [hg]; exact (below_size (by repeat (first | (with_reducible first | exact HB.out | apply below_alloc | apply pw_below_drewN | apply below_drew1) | exact HB.out))) : w.heap.size ≤ gb158)); clear HB; have HB := n0_; have BK158 := n1_; have GW158 := n2_; have GE158 := n3_; clear n0_ n1_ n2_ n3_; clear hb hbox hg) | ((with_reducible refine gate_dst (N := 3) rfl ?_); (try (refine gate_guard (by rfl) ?_; dsimp only)); refine box_event ?hg (N := 3) ?hd (cs := #[.int .i64 a1_0, .int .i64 a1_1, .slice A1_2 l1_2.length c1_2]) (t := 24) ?hr ?_; (case hd => rfl); (case hg => rfl); (case hr => first | (go_simp; done) | (go_simp; rfl)); intro gb159 hg w5 hbox hb; have n0_ := Aside0.mk (blk_below (qB BK158.out) hb); have n1_ := Aside0.mk (below_step (by repeat (first | (with_reducible first | exact HB.out | apply below_alloc | apply pw_below_drewN | apply below_drew1 | refine below_set ?_ GE158.out) | exact HB.out)) hb); have n2_ := Aside0.mk (hbox); have n3_ := Aside0.mk ((by rw [hg]; exact (below_size (by repeat (first | (with_reducible first | exact HB.out | apply below_alloc | apply pw_below_drewN | apply below_drew1 | refine below_set ?_ GE158.out) | exact HB.out))) : w.heap.size ≤ gb159)); have n4_ := Aside0.mk ((by rw [hg]; exact (below_size (by repeat (first | (with_reducible first | exact HB.out | apply below_alloc | apply pw_below_drewN | apply below_drew1 | refine below_set ?_ GE158.out) | exact HB.out))) : w.heap.size ≤ gb159)); have n5_ := Aside0.mk ((by rw [hg]; exact Nat.ne_of_lt (blk_lt (qB BK158.out)) : gb158 ≠ gb159)); have n6_ := Aside0.mk ((by rw [hg]; exact Nat.ne_of_gt (blk_lt (qB BK158.out)) : gb159 ≠ gb158)); clear BK158; clear HB; have BK158 := n0_; have HB := n1_; have BK159 := n2_; have GW159 := n3_; have GE159 := n4_; have NB158_159 := n5_; have NB159_158 := n6_; clear n0_ n1_ n2_ n3_ n4_ n5_ n6_; clear hb hbox hg)))
 (try simp only [Act.put, qa_, qz_, qs_])
 go_cut [26] (fun v26 wc => ∃ (kq : Nat) (x26_2 : Bool), v26 = .bool x26_2 ∧ Aside0 (partitaref05_Same.j0 kq x26_2 a0_0 a0_1 l0_2 a1_0 a1_1 l1_2 = some r) ∧ Aside0 (kq ≤ k) ∧ Aside0 (wc.heap[gb158]? = some (.cells #[.int .i64 a0_0, .int .i64 a0_1, (.slice A0_2 l0_2.length c0_2)] 24 (0, 0))) ∧ Aside0 (wc.heap[gb159]? = some (.cells #[.int .i64 a1_0, .int .i64 a1_1, (.slice A1_2 l1_2.length c1_2)] 24 (0, 0))) ∧ Aside0 (Below w.heap.size w wc))
 case first =>
  have H := HC3.out
  clear HC3
  by_cases c6 : a0_0 = a1_0
  · rw [if_pos c6] at H
    have c6b0 : (a0_0 == a1_0) = true := beq_iff_eq.mpr c6
    have c6b1 : (a0_0 != a1_0) = false := bne_eq_false_iff_eq.mpr c6
    clear c6
    (first | rw [c6b0] | (simp only [i64_w, i32_w]; rw [c6b0]) | skip)
    by_cases c7 : a0_1 = a1_1
    · rw [if_pos c7] at H
      have c7b0 : (a0_1 == a1_1) = true := beq_iff_eq.mpr c7
      have c7b1 : (a0_1 != a1_1) = false := bne_eq_false_iff_eq.mpr c7
      clear c7
      have H' := Aside0.mk H
      clear H
      have hnb8 := NB158_159.out
      have hnc8 := NB159_158.out
      have hcz9_0 : w5.cell? ⟨gb158, 0, none⟩ = some (.int .i64 a0_0) := (blk_cell BK158.out 0).trans rfl
      have hcz9_1 : w5.cell? ⟨gb158, 1, none⟩ = some (.int .i64 a0_1) := (blk_cell BK158.out 1).trans rfl
      have hcz9_2 : w5.cell? ⟨gb158, 2, none⟩ = some (.slice A0_2 l0_2.length c0_2) := (blk_cell BK158.out 2).trans rfl
      have hfz9_0 := blk_frozen BK158.out 0
      have hfz9_1 := blk_frozen BK158.out 1
      have hfz9_2 := blk_frozen BK158.out 2
      have hcz10_0 : w5.cell? ⟨gb159, 0, none⟩ = some (.int .i64 a1_0) := (blk_cell BK159.out 0).trans rfl
      have hcz10_1 : w5.cell? ⟨gb159, 1, none⟩ = some (.int .i64 a1_1) := (blk_cell BK159.out 1).trans rfl
      have hcz10_2 : w5.cell? ⟨gb159, 2, none⟩ = some (.slice A1_2 l1_2.length c1_2) := (blk_cell BK159.out 2).trans rfl
      have hfz10_0 := blk_frozen BK159.out 0
      have hfz10_1 := blk_frozen BK159.out 1
      have hfz10_2 := blk_frozen BK159.out 2
      go_wp2
      repeat (go_quiet (fail); try go_wp2)
      go_meet
      case rel => exact ⟨_, (((l0_2.length : Int) != (l1_2.length : Int))), (by first | rfl | (simp; done) | (simp [*]; done) | (simp [wrap64]; done)), H', ⟨by first | omega | exact Nat.le_refl _⟩, ⟨by (with_reducible repeat (first | refine blk_drewN ?_ _ | refine blk_drew ?_ | refine blk_alloc ?_ _)); exact BK158.out⟩, ⟨by (with_reducible repeat (first | refine blk_drewN ?_ _ | refine blk_drew ?_ | refine blk_alloc ?_ _)); exact BK159.out⟩, ⟨by repeat (first | (with_reducible first | exact HB.out | apply below_alloc | apply pw_below_drewN | apply below_drew1 | refine below_set ?_ (Aside0.out (by assumption))) | exact HB.out)⟩⟩
    · rw [if_neg c7] at H
      have c7b0 : (a0_1 == a1_1) = false := beq_eq_false_iff_ne.mpr c7
      have c7b1 : (a0_1 != a1_1) = true := bne_iff_ne.mpr c7
      have H' := Aside0.mk H
      clear H
      have hnb11 := NB158_159.out
      have hnc11 := NB159_158.out
      have hcz12_0 : w5.cell? ⟨gb158, 0, none⟩ = some (.int .i64 a0_0) := (blk_cell BK158.out 0).trans rfl
      have hcz12_1 : w5.cell? ⟨gb158, 1, none⟩ = some (.int .i64 a0_1) := (blk_cell BK158.out 1).trans rfl
      have hcz12_2 : w5.cell? ⟨gb158, 2, none⟩ = some (.slice A0_2 l0_2.length c0_2) := (blk_cell BK158.out 2).trans rfl
      have hfz12_0 := blk_frozen BK158.out 0
      have hfz12_1 := blk_frozen BK158.out 1
      have hfz12_2 := blk_frozen BK158.out 2
      have hcz13_0 : w5.cell? ⟨gb159, 0, none⟩ = some (.int .i64 a1_0) := (blk_cell BK159.out 0).trans rfl
      have hcz13_1 : w5.cell? ⟨gb159, 1, none⟩ = some (.int .i64 a1_1) := (blk_cell BK159.out 1).trans rfl
      have hcz13_2 : w5.cell? ⟨gb159, 2, none⟩ = some (.slice A1_2 l1_2.length c1_2) := (blk_cell BK159.out 2).trans rfl
      have hfz13_0 := blk_frozen BK159.out 0
      have hfz13_1 := blk_frozen BK159.out 1
      have hfz13_2 := blk_frozen BK159.out 2
      go_wp2
      repeat (go_quiet (fail); try go_wp2)
      go_meet
      case rel => exact ⟨_, (true), (by first | rfl | (simp; done) | (simp [*]; done) | (simp [wrap64]; done)), H', ⟨by first | omega | exact Nat.le_refl _⟩, ⟨by (with_reducible repeat (first | refine blk_drewN ?_ _ | refine blk_drew ?_ | refine blk_alloc ?_ _)); exact BK158.out⟩, ⟨by (with_reducible repeat (first | refine blk_drewN ?_ _ | refine blk_drew ?_ | refine blk_alloc ?_ _)); exact BK159.out⟩, ⟨by repeat (first | (with_reducible first | exact HB.out | apply below_alloc | apply pw_below_drewN | apply below_drew1 | refine below_set ?_ (Aside0.out (by assumption))) | exact HB.out)⟩⟩
  · rw [if_neg c6] at H
    have c6b0 : (a0_0 == a1_0) = false := beq_eq_false_iff_ne.mpr c6
    have c6b1 : (a0_0 != a1_0) = true := bne_iff_ne.mpr c6
    (first | rw [c6b0] | (simp only [i64_w, i32_w]; rw [c6b0]) | skip)
    have H' := Aside0.mk H
    clear H
    have hnb14 := NB158_159.out
    have hnc14 := NB159_158.out
    have hcz15_0 : w5.cell? ⟨gb158, 0, none⟩ = some (.int .i64 a0_0) := (blk_cell BK158.out 0).trans rfl
    have hcz15_1 : w5.cell? ⟨gb158, 1, none⟩ = some (.int .i64 a0_1) := (blk_cell BK158.out 1).trans rfl
    have hcz15_2 : w5.cell? ⟨gb158, 2, none⟩ = some (.slice A0_2 l0_2.length c0_2) := (blk_cell BK158.out 2).trans rfl
    have hfz15_0 := blk_frozen BK158.out 0
    have hfz15_1 := blk_frozen BK158.out 1
    have hfz15_2 := blk_frozen BK158.out 2
    have hcz16_0 : w5.cell? ⟨gb159, 0, none⟩ = some (.int .i64 a1_0) := (blk_cell BK159.out 0).trans rfl
    have hcz16_1 : w5.cell? ⟨gb159, 1, none⟩ = some (.int .i64 a1_1) := (blk_cell BK159.out 1).trans rfl
    have hcz16_2 : w5.cell? ⟨gb159, 2, none⟩ = some (.slice A1_2 l1_2.length c1_2) := (blk_cell BK159.out 2).trans rfl
    have hfz16_0 := blk_frozen BK159.out 0
    have hfz16_1 := blk_frozen BK159.out 1
    have hfz16_2 := blk_frozen BK159.out 2
    go_wp2
    repeat (go_quiet (fail); try go_wp2)
    go_meet
    case rel => exact ⟨_, (true), (by first | rfl | (simp; done) | (simp [*]; done) | (simp [wrap64]; done)), H', ⟨by first | omega | exact Nat.le_refl _⟩, ⟨by (with_reducible repeat (first | refine blk_drewN ?_ _ | refine blk_drew ?_ | refine blk_alloc ?_ _)); exact BK158.out⟩, ⟨by (with_reducible repeat (first | refine blk_drewN ?_ _ | refine blk_drew ?_ | refine blk_alloc ?_ _)); exact BK159.out⟩, ⟨by repeat (first | (with_reducible first | exact HB.out | apply below_alloc | apply pw_below_drewN | apply below_drew1 | refine below_set ?_ (Aside0.out (by assumption))) | exact HB.out)⟩⟩
 case rest =>
  clear HC3
  try clear c1
  try clear p2
  try clear c6
  try clear c6b0
  try clear c6b1
  try clear c7
  try clear c7b0
  try clear c7b1
  try clear c8
  try clear c11
  try clear c14
  try clear hcz10_0
  try clear hcz10_1
  try clear hcz10_2
  try clear hcz12_0
  try clear hcz12_1
  try clear hcz12_2
  try clear hcz13_0
  try clear hcz13_1
  try clear hcz13_2
  try clear hcz15_0
  try clear hcz15_1
  try clear hcz15_2
  try clear hcz16_0
  try clear hcz16_1
  try clear hcz16_2
  try clear hcz9_0
  try clear hcz9_1
  try clear hcz9_2
  try clear hfz10_0
  try clear hfz10_1
  try clear hfz10_2
  try clear hfz12_0
  try clear hfz12_1
  try clear hfz12_2
  try clear hfz13_0
  try clear hfz13_1
  try clear hfz13_2
  try clear hfz15_0
  try clear hfz15_1
  try clear hfz15_2
  try clear hfz16_0
  try clear hfz16_1
  try clear hfz16_2
  try clear hfz9_0
  try clear hfz9_1
  try clear hfz9_2
  obtain ⟨kq, x26_2, rfl, HA, HJ2, BK158, BK159, HB⟩ := hcut
  cases kq with
  | zero => exact absurd HA.out (by simp [partitaref05_Same.j0])
  | succ kj2 =>
   have H := HA.out
   clear HA
   simp only [partitaref05_Same.j0] at H
   by_cases c17 : x26_2 = true
   · subst c17
     have H1 : (some false) = some r := by rw [if_pos rfl] at H; exact H
     clear H
     have H := H1
     clear H1
     obtain rfl := Option.some.inj H
     go_wp2
     repeat (go_quiet (fail); try go_wp2)
     go_ret
     exact ⟨by first | rfl | (simp [errW_none, errW_some] <;> rfl) | (simp [*, errW_none, errW_some] <;> rfl), by repeat (first | (with_reducible first | exact HB.out | apply below_alloc | apply pw_below_drewN | apply below_drew1 | refine below_set ?_ (Aside0.out (by assumption))) | exact HB.out)⟩
   · replace c17 := Bool.eq_false_iff.mpr c17
     subst c17
     have H1 : (partitaref05_Same.l0 kj2 0 a0_0 a0_1 l0_2 a1_0 a1_1 l1_2) = some r := by rw [if_neg (show ¬ (false = true) by decide)] at H; exact H
     clear H
     have H := H1
     clear H1
     have H' := Aside0.mk H
     clear H
     go_wp2
     repeat (go_quiet (fail); try go_wp2)
     go_loopg [5] kj2 (fun kq v5 w' => ∃ (x5_2 : Int), v5 = .int .i64 x5_2 ∧ Aside0 (partitaref05_Same.l0 kq x5_2 a0_0 a0_1 l0_2 a1_0 a1_1 l1_2 = some r) ∧ Aside0 (kq ≤ kj2) ∧ Aside0 (w'.heap[gb158]? = some (.cells #[.int .i64 a0_0, .int .i64 a0_1, (.slice A0_2 l0_2.length c0_2)] 24 (0, 0))) ∧ Aside0 (w'.heap[gb159]? = some (.cells #[.int .i64 a1_0, .int .i64 a1_1, (.slice A1_2 l1_2.length c1_2)] 24 (0, 0))) ∧ Aside0 (Below w.heap.size w w'))
     case atStart => exact ⟨(0), (by first | rfl | (simp; done) | (simp [*]; done) | (simp [wrap64]; done)), H', ⟨Nat.le_refl _⟩, ⟨by (with_reducible repeat (first | refine blk_drewN ?_ _ | refine blk_drew ?_ | refine blk_alloc ?_ _)); exact BK158.out⟩, ⟨by (with_reducible repeat (first | refine blk_drewN ?_ _ | refine blk_drew ?_ | refine blk_alloc ?_ _)); exact BK159.out⟩, ⟨by repeat (first | (with_reducible first | exact HB.out | apply below_alloc | apply pw_below_drewN | apply below_drew1 | refine below_set ?_ (Aside0.out (by assumption))) | exact HB.out)⟩⟩
     case round =>
      clear H'
      try clear c1
      try clear p2
      try clear c6
      try clear c6b0
      try clear c6b1
      try clear c7
      try clear c7b0
      try clear c7b1
      try clear c8
      try clear c11
      try clear c14
      try clear c17
      try clear hcz10_0
      try clear hcz10_1
      try clear hcz10_2
      try clear hcz12_0
      try clear hcz12_1
      try clear hcz12_2
      try clear hcz13_0
      try clear hcz13_1
      try clear hcz13_2
      try clear hcz15_0
      try clear hcz15_1
      try clear hcz15_2
      try clear hcz16_0
      try clear hcz16_1
      try clear hcz16_2
      try clear hcz9_0
      try clear hcz9_1
      try clear hcz9_2
      try clear hfz10_0
      try clear hfz10_1
      try clear hfz10_2
      try clear hfz12_0
      try clear hfz12_1
      try clear hfz12_2
      try clear hfz13_0
      try clear hfz13_1
      try clear hfz13_2
      try clear hfz15_0
      try clear hfz15_1
      try clear hfz15_2
      try clear hfz16_0
      try clear hfz16_1
      try clear hfz16_2
      try clear hfz9_0
      try clear hfz9_1
      try clear hfz9_2
      try clear p2
      obtain ⟨x5_2, rfl, HA, HK2, BK158, BK159, HB⟩ := hrel
      cases gk with
      | zero => exact absurd HA.out (by simp [partitaref05_Same.l0])
      | succ k2 =>
       have H := HA.out
       clear HA
       simp only [partitaref05_Same.l0] at H
       by_cases c18 : x5_2 < (l0_2.length : Int)
       · rw [if_pos c18] at H
         have c18b0 : decide (x5_2 < (l0_2.length : Int)) = true := decide_eq_true c18
         clear c18
         by_cases c19 : 0 ≤ x5_2
         · rw [if_pos c19] at H
           have c19b0 : decide (0 ≤ x5_2) = true := decide_eq_true c19
           clear c19
           by_cases c20 : x5_2 < (l1_2.length : Int)
           · rw [if_pos c20] at H
             have c20b0 : decide (x5_2 < (l1_2.length : Int)) = true := decide_eq_true c20
             clear c20
             by_cases c21 : (rd l0_2 x5_2) = (rd l1_2 x5_2)
             · rw [if_pos c21] at H
               have c21b0 : ((rd l0_2 x5_2) == (rd l1_2 x5_2)) = true := beq_iff_eq.mpr c21
               have c21b1 : ((rd l0_2 x5_2) != (rd l1_2 x5_2)) = false := bne_eq_false_iff_eq.mpr c21
               clear c21
               have H' := Aside0.mk H
               clear H
               have hnb22 := NB158_159.out
               have hnc22 := NB159_158.out
               have hcz23_0 : wr.cell? ⟨gb158, 0, none⟩ = some (.int .i64 a0_0) := (blk_cell BK158.out 0).trans rfl
               have hcz23_1 : wr.cell? ⟨gb158, 1, none⟩ = some (.int .i64 a0_1) := (blk_cell BK158.out 1).trans rfl
               have hcz23_2 : wr.cell? ⟨gb158, 2, none⟩ = some (.slice A0_2 l0_2.length c0_2) := (blk_cell BK158.out 2).trans rfl
               have hfz23_0 := blk_frozen BK158.out 0
               have hfz23_1 := blk_frozen BK158.out 1
               have hfz23_2 := blk_frozen BK158.out 2
               have p160 : 0 ≤ (x5_2 : Int) := of_decide_eq_true (by first | (with_reducible assumption) | assumption)
               have q160 : x5_2 < (l0_2.length : Int) := of_decide_eq_true (by first | (with_reducible assumption) | assumption)
               obtain ⟨ad160, e160, hx160_0⟩ := Kd.at_int HR0_2.out x5_2 p160 q160
               cases e160
               replace hx160_0 := (HB.out.cell (World.block_lt_of_cell? w _ hx160_0)).trans hx160_0
               replace p160 := eq_true p160
               replace q160 := eq_true q160
               have hcz24_0 : wr.cell? ⟨gb159, 0, none⟩ = some (.int .i64 a1_0) := (blk_cell BK159.out 0).trans rfl
               have hcz24_1 : wr.cell? ⟨gb159, 1, none⟩ = some (.int .i64 a1_1) := (blk_cell BK159.out 1).trans rfl
               have hcz24_2 : wr.cell? ⟨gb159, 2, none⟩ = some (.slice A1_2 l1_2.length c1_2) := (blk_cell BK159.out 2).trans rfl
               have hfz24_0 := blk_frozen BK159.out 0
               have hfz24_1 := blk_frozen BK159.out 1
               have hfz24_2 := blk_frozen BK159.out 2
               have p161 : 0 ≤ (x5_2 : Int) := of_decide_eq_true (by first | (with_reducible assumption) | assumption)
               have q161 : x5_2 < (l1_2.length : Int) := of_decide_eq_true (by first | (with_reducible assumption) | assumption)
               obtain ⟨ad161, e161, hx161_0⟩ := Kd.at_int HR1_2.out x5_2 p161 q161
               cases e161
               replace hx161_0 := (HB.out.cell (World.block_lt_of_cell? w _ hx161_0)).trans hx161_0
               replace p161 := eq_true p161
               replace q161 := eq_true q161
               go_wp2
               repeat (go_quiet (fail); try go_wp2)
               go_roundg k2
               case measure => have := HJ2.out; have := HK2.out; omega
               case rel => exact ⟨(wrap64 (x5_2 + 1)), (by first | rfl | (simp; done) | (simp [*]; done) | (simp [wrap64]; done)), H', ⟨by have := HJ2.out; have := HK2.out; omega⟩, ⟨by (with_reducible repeat (first | refine blk_drewN ?_ _ | refine blk_drew ?_ | refine blk_alloc ?_ _)); exact BK158.out⟩, ⟨by (with_reducible repeat (first | refine blk_drewN ?_ _ | refine blk_drew ?_ | refine blk_alloc ?_ _)); exact BK159.out⟩, ⟨by repeat (first | (with_reducible first | exact HB.out | apply below_alloc | apply pw_below_drewN | apply below_drew1 | refine below_set ?_ (Aside0.out (by assumption))) | exact HB.out)⟩⟩
             · rw [if_neg c21] at H
               have c21b0 : ((rd l0_2 x5_2) == (rd l1_2 x5_2)) = false := beq_eq_false_iff_ne.mpr c21
               have c21b1 : ((rd l0_2 x5_2) != (rd l1_2 x5_2)) = true := bne_iff_ne.mpr c21
               obtain rfl := Option.some.inj H
               have hnb25 := NB158_159.out
               have hnc25 := NB159_158.out
               have hcz26_0 : wr.cell? ⟨gb158, 0, none⟩ = some (.int .i64 a0_0) := (blk_cell BK158.out 0).trans rfl
               have hcz26_1 : wr.cell? ⟨gb158, 1, none⟩ = some (.int .i64 a0_1) := (blk_cell BK158.out 1).trans rfl
               have hcz26_2 : wr.cell? ⟨gb158, 2, none⟩ = some (.slice A0_2 l0_2.length c0_2) := (blk_cell BK158.out 2).trans rfl
               have hfz26_0 := blk_frozen BK158.out 0
               have hfz26_1 := blk_frozen BK158.out 1
               have hfz26_2 := blk_frozen BK158.out 2
               have p160 : 0 ≤ (x5_2 : Int) := of_decide_eq_true (by first | (with_reducible assumption) | assumption)
               have q160 : x5_2 < (l0_2.length : Int) := of_decide_eq_true (by first | (with_reducible assumption) | assumption)
               obtain ⟨ad160, e160, hx160_0⟩ := Kd.at_int HR0_2.out x5_2 p160 q160
               cases e160
               replace hx160_0 := (HB.out.cell (World.block_lt_of_cell? w _ hx160_0)).trans hx160_0
               replace p160 := eq_true p160
               replace q160 := eq_true q160
               have hcz27_0 : wr.cell? ⟨gb159, 0, none⟩ = some (.int .i64 a1_0) := (blk_cell BK159.out 0).trans rfl
               have hcz27_1 : wr.cell? ⟨gb159, 1, none⟩ = some (.int .i64 a1_1) := (blk_cell BK159.out 1).trans rfl
               have hcz27_2 : wr.cell? ⟨gb159, 2, none⟩ = some (.slice A1_2 l1_2.length c1_2) := (blk_cell BK159.out 2).trans rfl
               have hfz27_0 := blk_frozen BK159.out 0
               have hfz27_1 := blk_frozen BK159.out 1
               have hfz27_2 := blk_frozen BK159.out 2
               have p161 : 0 ≤ (x5_2 : Int) := of_decide_eq_true (by first | (with_reducible assumption) | assumption)
               have q161 : x5_2 < (l1_2.length : Int) := of_decide_eq_true (by first | (with_reducible assumption) | assumption)
               obtain ⟨ad161, e161, hx161_0⟩ := Kd.at_int HR1_2.out x5_2 p161 q161
               cases e161
               replace hx161_0 := (HB.out.cell (World.block_lt_of_cell? w _ hx161_0)).trans hx161_0
               replace p161 := eq_true p161
               replace q161 := eq_true q161
               go_wp2
               repeat (go_quiet (fail); try go_wp2)
               go_ret
               exact ⟨by first | rfl | (simp [errW_none, errW_some] <;> rfl) | (simp [*, errW_none, errW_some] <;> rfl), by repeat (first | (with_reducible first | exact HB.out | apply below_alloc | apply pw_below_drewN | apply below_drew1 | refine below_set ?_ (Aside0.out (by assumption))) | exact HB.out)⟩
           · rw [if_neg c20] at H
             exact absurd H (by simp)
         · rw [if_neg c19] at H
           exact absurd H (by simp)
       · rw [if_neg c18] at H
         have c18b0 : decide (x5_2 < (l0_2.length : Int)) = false := decide_eq_false c18
         clear c18
         obtain rfl := Option.some.inj H
         have hnb28 := NB158_159.out
         have hnc28 := NB159_158.out
         have hcz29_0 : wr.cell? ⟨gb158, 0, none⟩ = some (.int .i64 a0_0) := (blk_cell BK158.out 0).trans rfl
         have hcz29_1 : wr.cell? ⟨gb158, 1, none⟩ = some (.int .i64 a0_1) := (blk_cell BK158.out 1).trans rfl
         have hcz29_2 : wr.cell? ⟨gb158, 2, none⟩ = some (.slice A0_2 l0_2.length c0_2) := (blk_cell BK158.out 2).trans rfl
         have hfz29_0 := blk_frozen BK158.out 0
         have hfz29_1 := blk_frozen BK158.out 1
         have hfz29_2 := blk_frozen BK158.out 2
         go_wp2
         repeat (go_quiet (fail); try go_wp2)
         go_ret
         exact ⟨by first | rfl | (simp [errW_none, errW_some] <;> rfl) | (simp [*, errW_none, errW_some] <;> rfl), by repeat (first | (with_reducible first | exact HB.out | apply below_alloc | apply pw_below_drewN | apply below_drew1 | refine below_set ?_ (Aside0.out (by assumption))) | exact HB.out)⟩

end Go.Proofs.Ytbncdlnnjhadgaa.Q
