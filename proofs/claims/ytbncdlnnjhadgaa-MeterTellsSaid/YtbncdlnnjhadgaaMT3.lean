/- The document's meters are the program's: lengths, beats, weights, pieces, whatever the meter and the ratios. No conditions. -/
import Derived.Test.YtbncdlnnjhadgaaMT2
namespace Go.Proofs.Ytbncdlnnjhadgaa.Q
open Go.RowKit Go.Proofs.YtbncdlnnjhadgaaW.PrintWords Go.Proofs.YtbncdlnnjhadgaaW.PrintMore
set_option linter.unusedVariables false
set_option linter.unusedSimpArgs false
theorem ofQ_w (a b : Int) : i64 (ofQ a b).1 ∧ i64 (ofQ a b).2.1 := by
  unfold ofQ
  dsimp only
  generalize a.natAbs / Nat.gcd a.natAbs b.natAbs = x
  generalize b.natAbs / Nat.gcd a.natAbs b.natAbs = y
  split
  · exact ⟨by unfold i64; simp, by unfold i64; simp⟩
  · split
    · exact ⟨by unfold i64; simp, by unfold i64; simp⟩
    · rename_i h
      refine ⟨?_, by unfold i64; simp only; omega⟩
      simp only
      split <;> (unfold i64; omega)
theorem W2.zero : W2 (0, 0) := ⟨by unfold i64; simp, by unfold i64; simp⟩
theorem add_all (a b c d : Int) : ∃ r, ratio_Add.f a b c d = some r ∧ i64 r.1 ∧ i64 r.2.1 := by
  unfold ratio_Add.f doI
  split
  · rw [ratioOf (i64_wrap _) (i64_wrap _)]; exact ⟨_, rfl, ofQ_w _ _⟩
  · exact ⟨_, rfl, by unfold i64; simp, by unfold i64; simp⟩
/-! lengths -/
def lenP (n d : Int) (l : List Int) : Int × Int × Int := if rightM n d l = true then ofQ n d else (0, 0, 50)
theorem len_f {n d : Int} {l : List Int} (hn : i64 n) (hd : i64 d) (hl : l.length ≤ 17592186044416) {k : Nat} (hk : l.length + 20 ≤ k) : meter_Length.f k n d l = some (lenP n d l) := by
  unfold meter_Length.f lenP
  rw [right_f hl (by omega), Option.bind_some]
  by_cases h : rightM n d l = true
  · rw [if_pos h, if_pos h, ratioOf hn hd]; rfl
  · rw [if_neg h, if_neg h]
theorem refLen_f {n d : Int} {l : List Int} (hn : i64 n) (hd : i64 d) (hl : l.length ≤ 17592186044416) {k : Nat} (hk : l.length + 20 ≤ k) : partitaref05_Length.f k n d l = some (lenP n d l) := by
  unfold partitaref05_Length.f lenP
  obtain ⟨k, rfl⟩ : ∃ j, k = j + 1 := ⟨k - 1, by omega⟩
  rw [refRight_f hl (by omega), Option.bind_some]
  by_cases h : rightM n d l = true
  · rw [if_pos h, if_pos h, refOf hn hd]; rfl
  · rw [if_neg h, if_neg h]
/-! beats -/
def beatP (n d : Int) (l : List Int) : List S26 × Int := if rightM n d l = true then (rowsP (beatsP n d l), 0) else ([], 50)
theorem beat_f {n d : Int} {l : List Int} (hl : l.length ≤ 17592186044416) {k : Nat} (hk : l.length + 20 ≤ k) : meter_Beats.f k n d l = some (beatP n d l) := by
  unfold meter_Beats.f beatP
  rw [right_f hl (by omega), Option.bind_some]
  by_cases h : rightM n d l = true
  · rw [if_pos h, if_pos h, if_pos (gm_of h).good]
  · rw [if_neg h, if_neg h]
theorem refBeat_f {n d : Int} {l : List Int} (hl : l.length ≤ 17592186044416) {k : Nat} (hk : l.length + 20 ≤ k) : partitaref05_Beats.f k n d l = some (beatP n d l) := by
  unfold partitaref05_Beats.f beatP
  obtain ⟨k, rfl⟩ : ∃ j, k = j + 1 := ⟨k - 1, by omega⟩
  rw [refRight_f hl (by omega), Option.bind_some]
  by_cases h : rightM n d l = true
  · rw [if_pos h, if_pos h, if_pos (gm_of h).good, beatsR_P (gm_of h)]; rfl
  · rw [if_neg h, if_neg h]
theorem beatsP_len {n d : Int} {l : List Int} (h : GM n d l) : (beatsP n d l).length ≤ 32 := by
  obtain ⟨_, _, _, g4⟩ := grp_ok h
  unfold beatsP; rw [uptoB_len]; exact g4
theorem beatsP_w {n d : Int} {l : List Int} (h : GM n d l) : ∀ p ∈ beatsP n d l, W2 p := by
  intro p hp
  unfold beatsP uptoB at hp
  obtain ⟨j, _, rfl⟩ := List.mem_map.1 hp
  have hd := h.d64
  have hs := good_sums h.good j
  rw [ptB_of (by unfold i64; omega) (by unfold i64; omega)]
  exact ofQ_w _ _
/-! within -/
def witB (n d x y : Int) : Bool := rightB x y && (decide (0 ≤ x) && decide (cmpI x y (ofQ n d).1 (ofQ n d).2.1 < 0))
theorem wit_f {n d : Int} {l : List Int} {x y : Int} (hn : i64 n) (hd : i64 d) : meter_within.f n d l x y = some (witB n d x y) := by
  unfold meter_within.f witB
  rw [ratioOf hn hd, Option.bind_some]
  simp only [ratio_Right.f, ratio_Compare.f, Option.bind_some]
  by_cases h : rightB x y = true
  · rw [if_pos h, h, Bool.true_and]
    by_cases h0 : 0 ≤ x
    · rw [if_pos h0, decide_eq_true h0, Bool.true_and]
    · rw [if_neg h0, decide_eq_false h0, Bool.false_and]
  · rw [if_neg h, show rightB x y = false by simpa using h, Bool.false_and]
theorem refWit_f {n d : Int} {l : List Int} {x y : Int} (hg : GM n d l) (hx : i64 x) (hy : i64 y) {k : Nat} (hk : l.length + 20 ≤ k) : partitaref05_within.f k n d l x y = some (witB n d x y) := by
  have hl := hg.len
  have hd := hg.d64
  have h1 := hg.n1
  have h2 := hg.n2
  obtain ⟨k, rfl⟩ : ∃ j, k = j + 1 := ⟨k - 1, by omega⟩
  unfold partitaref05_within.f witB
  rw [refLen_f (by unfold i64; omega) (by unfold i64; omega) (by omega) (by omega), Option.bind_some, refRight hx hy, Option.bind_some]
  unfold lenP
  rw [hg.right, if_pos rfl, refCompare hx hy (ofQ_w _ _).1 (ofQ_w _ _).2, Option.bind_some]
  by_cases h : rightB x y = true
  · rw [if_pos h, h, Bool.true_and]
    by_cases h0 : 0 ≤ x
    · rw [if_pos h0, decide_eq_true h0, Bool.true_and]
    · rw [if_neg h0, decide_eq_false h0, Bool.false_and]
  · rw [if_neg h, show rightB x y = false by simpa using h, Bool.false_and]
/-! weights -/
def weightP (n d : Int) (l : List Int) (x y : Int) : Int × Int :=
  if rightM n d l = true then (if witB n d x y = true then (if x = 0 then (3, 0) else (if (x, y) ∈ beatsP n d l then 2 else if Int.tmod d y = 0 then 1 else 0, 0)) else (0, 2)) else (0, 50)
theorem wit_rt {n d x y : Int} (hx : i64 x) (hy : i64 y) (h : witB n d x y = true) : Rt x y ∧ 0 ≤ x := by
  unfold witB at h
  simp only [Bool.and_eq_true, decide_eq_true_iff] at h
  exact ⟨(rightB_iff hx hy).1 h.1, h.2.1⟩
theorem wei_f {n d : Int} {l : List Int} {x y : Int} (hn : i64 n) (hd : i64 d) (hx : i64 x) (hy : i64 y) (hl : l.length ≤ 17592186044416) {k : Nat} (hk : l.length + 20 ≤ k) : meter_Weight.f k n d l x y = some (weightP n d l x y) := by
  unfold meter_Weight.f weightP
  rw [right_f hl (by omega), Option.bind_some]
  by_cases h : rightM n d l = true
  · rw [if_pos h, if_pos h, wit_f hn hd, Option.bind_some]
    by_cases hw : witB n d x y = true
    · have hp := (wit_rt hx hy hw).1.pos
      rw [if_pos hw, if_pos hw]
      by_cases h0 : x = 0
      · rw [if_pos h0, if_pos h0]
      · rw [if_neg h0, if_neg h0, if_pos ⟨(gm_of h).good, by omega⟩]
    · rw [if_neg hw, if_neg hw]
  · rw [if_neg h, if_neg h]
theorem refWei_l0 {P : List (Int × Int)} (hP : P.length ≤ 32) {n d x y : Int} {l : List Int} (hy : y ≠ 0) : ∀ (m k i : Nat), i + m = P.length → m + 1 ≤ k →
    partitaref05_Weight.l0 k (rowsP P) i n d l x y = some (if (x, y) ∈ P.drop i then (2, 0) else if Int.tmod (wrap64 (x * d)) y = 0 then (1, 0) else (0, 0)) := by
  intro m
  induction m with
  | zero =>
    intro k i hi hk
    obtain ⟨k, rfl⟩ : ∃ j, k = j + 1 := ⟨k - 1, by omega⟩
    rw [partitaref05_Weight.l0, rows_len, if_neg (by omega), List.drop_of_length_le (by omega), if_neg hy]
    simp only [List.not_mem_nil, if_false]
    split <;> rfl
  | succ m ih =>
    intro k i hi hk
    obtain ⟨k, rfl⟩ : ∃ j, k = j + 1 := ⟨k - 1, by omega⟩
    have hlt : i < P.length := by omega
    rw [partitaref05_Weight.l0, rows_len, if_pos (by omega), if_pos (by omega), rows_get (List.getElem?_eq_getElem hlt), List.drop_eq_getElem_cons hlt]
    by_cases c : (x, y) = P[i]
    · rw [← c]; simp
    · have hc : ((P[i].1 == x) && (P[i].2 == y)) = false := by
        rw [Bool.eq_false_iff]
        intro h
        rw [Bool.and_eq_true, beq_iff_eq, beq_iff_eq] at h
        exact c (Prod.ext h.1.symm h.2.symm)
      simp only [hc, Bool.false_eq_true, if_false]
      rw [wrap64_id (n := (i : Int) + 1) (by unfold i64; omega), show ((i : Int) + 1) = ((i + 1 : Nat) : Int) by omega, ih k (i + 1) (by omega) (by omega)]
      have hm : ((x, y) ∈ P[i] :: P.drop (i + 1)) ↔ (x, y) ∈ P.drop (i + 1) := by rw [List.mem_cons]; exact ⟨fun h => h.resolve_left c, .inr⟩
      simp only [hm]
theorem refWei_f {n d : Int} {l : List Int} {x y : Int} (hn : i64 n) (hd : i64 d) (hx : i64 x) (hy : i64 y) (hl : l.length ≤ 17592186044416) {k : Nat} (hk : l.length + 40 ≤ k) : partitaref05_Weight.f k n d l x y = some (weightP n d l x y) := by
  unfold partitaref05_Weight.f weightP
  rw [refBeat_f hl (by omega), Option.bind_some]
  unfold beatP
  by_cases h : rightM n d l = true
  · have hg := gm_of h
    have hd64 := hg.d64
    rw [if_pos h, if_pos h, if_pos rfl, refWit_f hg hx hy (by omega), Option.bind_some]
    by_cases hw : witB n d x y = true
    · obtain ⟨hr, h0x⟩ := wit_rt hx hy hw
      have hp := hr.pos
      rw [if_pos hw, if_pos hw]
      by_cases h0 : x = 0
      · rw [if_pos h0, if_pos h0]
      · rw [if_neg h0, if_neg h0]
        have hm := mul_bd (a := x) (b := d) (A := 1000000000) (B := 64) hr.num (by omega)
        have := refWei_l0 (beatsP_len hg) (n := n) (d := d) (x := x) (y := y) (l := l) (by omega) (beatsP n d l).length k 0 (by omega) (by have := beatsP_len hg; omega)
        rw [List.drop_zero] at this
        have this2 : partitaref05_Weight.l0 k (rowsP (beatsP n d l)) 0 n d l x y = _ := this
        rw [this2, wrap64_id (i64_small (by omega))]
        have hx' : Int.tmod (x * d) y = 0 ↔ Int.tmod d y = 0 := by
          have h0d : 0 ≤ x * d := Int.mul_nonneg h0x (by omega)
          rw [Int.tmod_eq_emod_of_nonneg h0d, Int.tmod_eq_emod_of_nonneg (by omega)]
          constructor
          · intro e
            exact Int.emod_eq_zero_of_dvd (dvd_of_gcd (Int.dvd_of_emod_eq_zero e) hr.2.2.2.2)
          · intro e
            exact Int.emod_eq_zero_of_dvd (Int.dvd_trans (Int.dvd_of_emod_eq_zero e) ⟨x, Int.mul_comm _ _⟩)
        by_cases c : (x, y) ∈ beatsP n d l
        · rw [if_pos c, if_pos c]
        · rw [if_neg c, if_neg c]
          by_cases c2 : Int.tmod d y = 0
          · rw [if_pos c2, if_pos (hx'.2 c2)]
          · rw [if_neg c2, if_neg (fun e => c2 (hx'.1 e))]
    · rw [if_neg hw, if_neg hw]
  · rw [if_neg h, if_neg h, if_neg (by decide)]
/-! pieces -/
theorem refCut_l1 {ps : List (Int × Int)} (hP : ps.length ≤ 40) (hw : ∀ p ∈ ps, W2 p) : ∀ (m k i : Nat) (out : List (Int × Int)) (s : Int × Int), i + 1 + m = ps.length → m + 2 ≤ k → out.length ≤ i → ps[i]? = some s →
    partitaref05_Cut.l1 k (rowsP ps) (rowsP out) ((i + 1 : Nat) : Int) = (cutD s out (ps.drop (i + 1))).bind fun z => some (rowsP z.1, z.2) := by
  intro m
  induction m with
  | zero =>
    intro k i out s hi hk ho hs
    obtain ⟨k, rfl⟩ : ∃ j, k = j + 1 := ⟨k - 1, by omega⟩
    rw [partitaref05_Cut.l1, rows_len, if_neg (by omega), List.drop_of_length_le (by omega), cutD]
    rfl
  | succ m ih =>
    intro k i out s hi hk ho hs
    obtain ⟨k, rfl⟩ : ∃ j, k = j + 1 + 1 := ⟨k - 2, by omega⟩
    have hlt : i + 1 < ps.length := by omega
    rw [partitaref05_Cut.l1, rows_len, if_pos (by omega), if_pos (by omega), wrap64_id (n := ((i + 1 : Nat) : Int) - 1) (by unfold i64; omega), show ((i + 1 : Nat) : Int) - 1 = (i : Int) by omega, if_pos (by omega), if_pos (by omega),
      rows_get (List.getElem?_eq_getElem hlt), rows_get hs, List.drop_eq_getElem_cons hlt, cutD]
    have w1 := hw ps[i + 1] (List.getElem_mem _)
    have w2 := hw s (by obtain ⟨hh, e⟩ := List.getElem?_eq_some_iff.1 hs; rw [← e]; exact List.getElem_mem _)
    simp only
    rw [refSub w1.1 w1.2 w2.1 w2.2]
    obtain ⟨r, hr⟩ := sub_all ps[i + 1].1 ps[i + 1].2 s.1 s.2
    rw [hr, Option.bind_some, Option.bind_some]
    by_cases h0 : r.2.2 = 0
    · rw [if_pos h0, if_pos h0, if_pos (by rw [rows_len]; omega)]
      rw [show rowsP out ++ [⟨r.1, r.2.1⟩] = rowsP (out ++ [(r.1, r.2.1)]) by unfold rowsP; simp]
      rw [wrap64_id (n := ((i + 1 : Nat) : Int) + 1) (by unfold i64; omega), show ((i + 1 : Nat) : Int) + 1 = ((i + 1 + 1 : Nat) : Int) by omega]
      exact ih (k + 1) (i + 1) (out ++ [(r.1, r.2.1)]) ps[i + 1] (by omega) (by omega) (by simp; omega) (List.getElem?_eq_getElem hlt)
    · rw [if_neg h0, if_neg h0]; rfl
theorem refCut_l0 {B : List (Int × Int)} (hB : B.length ≤ 32) (hw : ∀ p ∈ B, W2 p) {x y e0 e1 : Int} (hx : i64 x) (hy : i64 y) (h0 : i64 e0) (h1 : i64 e1) : ∀ (m k i : Nat) (acc : List (Int × Int)), i + m = B.length → acc.length ≤ i + 1 →
    partitaref05_Cut.l0 (k + 1 + 1 + m) (rowsP B) (rowsP acc) (i : Int) x y e0 e1 = partitaref05_Cut.l1 (k + 1) (rowsP (acc ++ ((B.drop i).filter (betB x y e0 e1) ++ [(e0, e1)]))) [] 1 := by
  intro m
  induction m with
  | zero =>
    intro k i acc hi ha
    rw [Nat.add_zero, partitaref05_Cut.l0, rows_len, if_neg (by omega), List.drop_of_length_le (by omega), if_pos (by rw [rows_len]; omega)]
    congr 1
    unfold rowsP; simp
  | succ m ih =>
    intro k i acc hi ha
    have hlt : i < B.length := by omega
    rw [show k + 1 + 1 + (m + 1) = (k + 1 + 1 + m) + 1 by omega, partitaref05_Cut.l0, rows_len, if_pos (by omega), if_pos (by omega), rows_get (List.getElem?_eq_getElem hlt), List.drop_eq_getElem_cons hlt]
    have w1 := hw B[i] (List.getElem_mem _)
    simp only
    rw [show k + 1 + 1 + m = (k + 1 + m) + 1 by omega, refCompare w1.1 w1.2 hx hy, refCompare w1.1 w1.2 h0 h1]
    simp only [Option.bind_some]
    rw [show (k + 1 + m) + 1 = k + 1 + 1 + m by omega, wrap64_id (n := (i : Int) + 1) (by unfold i64; omega), show ((i : Int) + 1) = ((i + 1 : Nat) : Int) by omega]
    by_cases c1 : 0 < cmpI B[i].1 B[i].2 x y
    · rw [if_pos c1]
      by_cases c2 : cmpI B[i].1 B[i].2 e0 e1 < 0
      · rw [if_pos c2, if_pos (by rw [rows_len]; omega), show rowsP acc ++ [⟨B[i].1, B[i].2⟩] = rowsP (acc ++ [B[i]]) by unfold rowsP; simp, ih k (i + 1) (acc ++ [B[i]]) (by omega) (by simp; omega)]
        rw [List.filter_cons_of_pos (by unfold betB; rw [decide_eq_true c1, decide_eq_true c2]; rfl)]
        simp
      · rw [if_neg c2, ih k (i + 1) acc (by omega) (by omega), List.filter_cons_of_neg (by unfold betB; rw [decide_eq_false c2, Bool.and_false]; decide)]
    · rw [if_neg c1, ih k (i + 1) acc (by omega) (by omega), List.filter_cons_of_neg (by unfold betB; rw [decide_eq_false c1, Bool.false_and]; decide)]
theorem cutD_all : ∀ (ts : List (Int × Int)) (s : Int × Int) (out : List (Int × Int)), ∃ z, cutD s out ts = some z
  | [], s, out => ⟨_, rfl⟩
  | t :: ts, s, out => by
    obtain ⟨r, hr⟩ := sub_all t.1 t.2 s.1 s.2
    rw [cutD, hr, Option.bind_some]
    split
    · exact cutD_all ts _ _
    · exact ⟨_, rfl⟩
theorem cut_both {n d : Int} {l : List Int} {x y p q : Int} (hn : i64 n) (hd : i64 d) (hx : i64 x) (hy : i64 y) (hp : i64 p) (hq : i64 q) (hl : l.length ≤ 17592186044416) : ∃ k r, meter_Cut.f k n d l x y p q = some r ∧ partitaref05_Cut.f k n d l x y p q = some r := by
  obtain ⟨k, hk⟩ : ∃ k : Nat, k = l.length + 200 := ⟨_, rfl⟩
  refine ⟨k, ?_⟩
  unfold meter_Cut.f partitaref05_Cut.f
  rw [right_f hl (by omega), refBeat_f hl (by omega), Option.bind_some, Option.bind_some]
  unfold beatP
  by_cases h : rightM n d l = true
  rotate_left
  · rw [if_neg h, if_neg h]; exact ⟨_, rfl, by rw [if_neg (by decide)]⟩
  have hg := gm_of h
  have hB := beatsP_len hg
  rw [if_pos h, if_pos h, if_pos rfl, wit_f hn hd, refWit_f hg hx hy (by omega), Option.bind_some, Option.bind_some]
  obtain ⟨k1, rfl⟩ : ∃ j, k = j + 1 := ⟨k - 1, by omega⟩
  rw [refRight hp hq, Option.bind_some]
  have hbad : partitaref05_Cut.j0 (k1 + 1) (rowsP (beatsP n d l)) true n d l x y p q = some ([], 2) := by rw [partitaref05_Cut.j0, if_pos rfl]
  by_cases hw : witB n d x y = true
  rotate_left
  · rw [if_neg hw, if_neg hw]; exact ⟨_, rfl, hbad⟩
  rw [if_pos hw, if_pos hw]
  by_cases hr : rightB p q = true
  rotate_left
  · rw [if_neg hr, if_neg hr]; exact ⟨_, rfl, hbad⟩
  rw [if_pos hr, if_pos hr]
  by_cases h0 : p ≤ 0
  · rw [if_pos h0, decide_eq_true h0]; exact ⟨_, rfl, hbad⟩
  rw [if_neg h0, decide_eq_false h0, partitaref05_Cut.j0, if_neg (by decide)]
  obtain ⟨k2, rfl⟩ : ∃ j, k1 = j + 1 := ⟨k1 - 1, by omega⟩
  rw [refAdd hx hy hp hq]
  obtain ⟨r, hra, w1, w2⟩ := add_all x y p q
  rw [hra, Option.bind_some, Option.bind_some]
  by_cases he : r.2.2 = 0
  rotate_left
  · rw [if_neg he, if_neg he]; exact ⟨_, rfl, rfl⟩
  rw [if_pos he, if_pos he, ratioOf hn hd, Option.bind_some, refLen_f hn hd hl (by omega), Option.bind_some]
  unfold lenP
  rw [if_pos h, refCompare w1 w2 (ofQ_w _ _).1 (ofQ_w _ _).2, Option.bind_some]
  by_cases hc : 0 < cmpI r.1 r.2.1 (ofQ n d).1 (ofQ n d).2.1
  · rw [if_pos hc, if_pos hc]; exact ⟨_, rfl, rfl⟩
  rw [if_neg hc, if_neg hc]
  unfold cutF
  rw [if_pos hg.good]
  obtain ⟨k3, hk3⟩ : ∃ j, k2 + 1 = j + 1 + 1 + (beatsP n d l).length := ⟨k2 - 1 - (beatsP n d l).length, by omega⟩
  have e := refCut_l0 hB (beatsP_w hg) hx hy w1 w2 (beatsP n d l).length k3 0 [(x, y)] (by omega) (by simp)
  have hF : ((beatsP n d l).filter (betB x y r.1 r.2.1)).length ≤ 32 := Nat.le_trans (List.length_filter_le _ _) hB
  rw [List.drop_zero] at e
  have hWs : ∀ t ∈ (beatsP n d l).filter (betB x y r.1 r.2.1) ++ [(r.1, r.2.1)], W2 t := by
    intro t ht
    rcases List.mem_append.1 ht with ht | ht
    · exact beatsP_w hg t (List.mem_filter.1 ht).1
    · rw [List.mem_singleton.1 ht]; exact ⟨w1, w2⟩
  have e1 := refCut_l1 (ps := [(x, y)] ++ ((beatsP n d l).filter (betB x y r.1 r.2.1) ++ [(r.1, r.2.1)])) (by simp; omega) (by
    intro t ht
    rcases List.mem_append.1 ht with ht | ht
    · rw [List.mem_singleton.1 ht]; exact ⟨hx, hy⟩
    · exact hWs t ht) ((beatsP n d l).filter (betB x y r.1 r.2.1) ++ [(r.1, r.2.1)]).length (k3 + 1) 0 [] (x, y) (by simp; omega) (by simp; omega) (by simp) rfl
  have hS := cut_same ((beatsP n d l).filter (betB x y r.1 r.2.1) ++ [(r.1, r.2.1)]) (x, y) [] ⟨hx, hy⟩ hWs
  obtain ⟨z, hz⟩ := cutD_all ((beatsP n d l).filter (betB x y r.1 r.2.1) ++ [(r.1, r.2.1)]) (x, y) []
  rw [hS, hz]
  rw [hk3]
  refine ⟨_, rfl, (e.trans e1).trans ?_⟩
  rw [show ([(x, y)] ++ ((beatsP n d l).filter (betB x y r.1 r.2.1) ++ [(r.1, r.2.1)])).drop (0 + 1) = (beatsP n d l).filter (betB x y r.1 r.2.1) ++ [(r.1, r.2.1)] from rfl, hz]
  rfl
end Go.Proofs.Ytbncdlnnjhadgaa.Q
