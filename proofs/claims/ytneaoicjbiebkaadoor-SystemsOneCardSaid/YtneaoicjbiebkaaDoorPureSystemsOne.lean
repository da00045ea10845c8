/- SystemsOne: the plain law. No conditions. -/
import Derived.Test.YtneaoicjbiebkaaDoorSP3
import Derived.Test.YtneaoicjbiebkaaDoorQ13
namespace Go.Proofs.YtneaoicjbiebkaaDoor.Pure
open Go.RowKit Go.Proofs.YtneaoicjbiebkaaDoor.Q Go.Proofs.YtneaoicjbiebkaaDoorW.PrintWords Go.Proofs.YtneaoicjbiebkaaDoorW.PrintMore
set_option linter.unusedVariables false
def wholeB (ws : List Int) (line : Int) (i : Nat) : Bool := (ws.take i).all fun x => x == line
theorem wholeB_succ (ws : List Int) (line : Int) (i : Nat) (h : i < ws.length) : wholeB ws line (i + 1) = (wholeB ws line i && (rd ws (i : Int) == line)) := by
  unfold wholeB
  rw [List.take_add_one, List.getElem?_eq_getElem h, List.all_append, rd_at h]
  simp
theorem one_l0 (ws : List Int) (line : Int) (L : List S38) (hn : ws.length ≤ 101) (hs : ∀ i, i ≤ ws.length → 0 ≤ sumF ws 0 i ∧ sumF ws 0 i ≤ 100000000) (hL : L.length ≤ 1000) (h1 : wholeB ws line ws.length = true → L.length = ws.length) (h2 : sumF ws 0 ws.length ≤ line → L = [⟨0, ws.length, 0⟩]) :
    ∀ (d i k : Nat), ws.length = i + d → d + 2000 ≤ k → partitalaw25_SystemsOne.l0 k ws line true L (sumF ws 0 i) (wholeB ws line i) i = some true
  | 0, i, k, e, hk => by
    obtain rfl : i = ws.length := by omega
    obtain ⟨k, rfl⟩ : ∃ k', k = k' + 1 := ⟨k - 1, by omega⟩
    simp only [partitalaw25_SystemsOne.l0]
    rw [if_neg (by omega)]
    have fin : (if sumF ws 0 ws.length > line then some true else (partitaref25_Same.f k L [(⟨0, (ws.length : Int), 0⟩ : S38)]).bind fun t => some t) = some true := by
      by_cases c : sumF ws 0 ws.length > line
      · rw [if_pos c]
      · rw [if_neg c, h2 (by omega), same_self _ (by simp) (by simp; omega)]; rfl
    cases hw : wholeB ws line ws.length with
    | true => rw [if_pos rfl, if_pos (by rw [h1 hw]), if_pos trivial]; exact fin
    | false => rw [if_neg (by simp), if_pos trivial]; exact fin
  | d + 1, i, k, e, hk => by
    obtain ⟨k, rfl⟩ : ∃ k', k = k' + 1 := ⟨k - 1, by omega⟩
    simp only [partitalaw25_SystemsOne.l0]
    have es := sumF_succ ws 0 i (by omega)
    simp only [Nat.zero_add] at es
    have b1 := hs (i + 1) (by omega)
    rw [if_pos (by omega), if_pos (by omega), ← es, wrap64_id_ (n := sumF ws 0 (i + 1)) (by omega), show wrap64 ((i : Int) + 1) = ((i + 1 : Nat) : Int) by unfold wrap64; omega]
    have ew := wholeB_succ ws line i (by omega)
    cases hw : wholeB ws line i with
    | true =>
      rw [if_pos rfl]
      rw [hw, Bool.true_and] at ew
      rw [← ew]
      exact one_l0 ws line L hn hs hL h1 h2 d (i + 1) k (by omega) (by omega)
    | false =>
      rw [if_neg (by simp)]
      rw [hw, Bool.false_and] at ew
      rw [← ew]
      exact one_l0 ws line L hn hs hL h1 h2 d (i + 1) k (by omega) (by omega)
theorem whole_mem {ws : List Int} {line : Int} (h : wholeB ws line ws.length = true) : ∀ a, a < ws.length → rd ws (a : Int) = line := by
  intro a ha
  unfold wholeB at h
  rw [List.take_length, List.all_eq_true] at h
  have := h _ (rd_mem ha)
  simpa using this
theorem out_whole {ws ss : List Int} {line : Int} (R : Right ws ss line) (h : wholeB ws line ws.length = true) : ∀ (d a : Nat), ws.length ≤ a + d → a ≤ ws.length → (outI (tabI ws ss line ws.length) ws.length d a).length = ws.length - a
  | 0, a, h1, h2 => by rw [out_end _ _ _ _ (by omega)]; simp; omega
  | d + 1, a, h1, h2 => by
    rcases Nat.lt_or_ge a ws.length with ha | ha
    · obtain ⟨j, hj, e, -⟩ := out_step R (d := d) ha
      have hM := (mFrom_spec ws ss line a).1
      have hj0 : j = 0 := by
        rcases Nat.eq_zero_or_pos j with h0 | h0
        · exact h0
        · exfalso
          have g1 := (fit_lt R (a := a) (j := j) (by omega)).1 hj
          have g2 := sumF_mono (l := ws) (fun x hx => by have := R.w1 x hx; omega) (a := a) (b := a + (0 + 1 + 1)) (c := a + j + 1) (by omega) (by omega) (by omega)
          have g3 := sumF_succ ws a (0 + 1) (by omega)
          have g4 := sumF_one ws a ha
          rw [show a + 0 + 1 = a + (0 + 1) by omega] at g4
          rw [g4, whole_mem h a ha, whole_mem h (a + (0 + 1)) (by omega)] at g3
          have := R.line1
          omega
      subst hj0
      rw [e, List.length_cons, out_whole R h d (a + 0 + 1) (by omega) (by omega)]
      omega
    · rw [out_end _ _ _ _ ha]; simp; omega
theorem out_one {ws ss : List Int} {line : Int} (R : Right ws ss line) (h0 : 1 ≤ ws.length) (h : sumF ws 0 ws.length ≤ line) : outI (tabI ws ss line ws.length) ws.length ws.length (0 : Nat) = [⟨0, ws.length, 0⟩] := by
  obtain ⟨n, hn⟩ : ∃ n, ws.length = n + 1 := ⟨ws.length - 1, by omega⟩
  obtain ⟨j, hj, e, -, hm⟩ := out_step R (a := 0) (d := n) (by omega)
  have hM := (mFrom_spec ws ss line 0).1
  have hlast : n < mFrom ws ss line 0 := (fit_lt R (a := 0) (j := n) (by omega)).2 (by rw [show 0 + n + 1 = ws.length by omega]; exact h)
  obtain ⟨m1, m2⟩ := hm n hlast
  have hv : val ws ss line 0 n = 10 := by
    unfold val cst
    rw [show 0 + n + 1 = ws.length by omega, if_pos rfl, totI_end _ _ _ h0]; rfl
  have hj2 : j = n := by
    rcases Nat.lt_or_ge j n with h' | h'
    · have g := m2 h'
      have c := cst_range ws ss line 0 (0 + j + 1)
      have t := (totI_range R (a := 0 + j + 1) (by omega)).1
      unfold val at g hv
      omega
    · omega
  subst hj2
  have e2 : 0 + j + 1 = ws.length := by omega
  rw [show outI (tabI ws ss line ws.length) ws.length ws.length (0 : Nat) = outI (tabI ws ss line ws.length) ws.length (j + 1) (0 : Nat) by rw [← hn], e, e2, out_end _ _ _ _ (Nat.le_refl _)]
  unfold cst
  rw [if_pos rfl]; rfl
theorem SystemsOne : ∀ (l0 : List Int) (l1 : List Int) (a2 : Int), (l0.length * 8 ≤ 140737488351232 ∧ ∀ y ∈ l0, (Lit.int .i64 y).wf = true) → (l1.length * 8 ≤ 140737488351232 ∧ ∀ y ∈ l1, (Lit.int .i64 y).wf = true) → ((Lit.int .i64 a2).wf = true) → ∃ k, partitalaw25_SystemsOne.f k l0 l1 a2 = some true := by
  intro l0 l1 line _ _ _
  refine ⟨4000, ?_⟩
  unfold partitalaw25_SystemsOne.f
  rw [shown_ok (by omega), Option.bind_some, few_if _ 101 (by omega), Option.bind_some, few_if _ 101 (by omega)]
  have hn := few_len l0 101
  simp only [Int.cast_ofNat_Int] at hn
  obtain ⟨ws, hws⟩ : ∃ ws, l0.take ((mn (l0.length : Int) 101) : Int).toNat = ws := ⟨_, rfl⟩
  obtain ⟨ss, hss⟩ : ∃ ss, l1.take ((mn (l1.length : Int) 101) : Int).toNat = ss := ⟨_, rfl⟩
  have hn : ws.length ≤ 101 := by rw [← hws]; exact few_len l0 101
  rw [hws, hss]
  show ((some (breakI ws ss line)).bind _) = _
  rw [Option.bind_some]
  by_cases c : chkI ws ss line = 0
  · have R := right_of c
    rw [breakI_yes c, if_pos rfl]
    rw [show (4000 : Nat) = 3999 + 1 from rfl]
    simp only [partitalaw25_SystemsOne.j0]
    have hlen := out_len R ws.length 0
    by_cases h0 : ws.length = 0
    · rw [if_pos (by simp [h0]), if_pos trivial, out_end _ _ _ _ (by omega)]; rfl
    · rw [if_neg (by simp; intro e; exact h0 (by simp [e]))]
      have := R.len
      have e0 : sumF ws 0 0 = 0 := rfl
      have := one_l0 ws line (outI (tabI ws ss line ws.length) ws.length ws.length (0 : Nat)) hn (fun i hi => by have := sumF_le (l := ws) (B := 100000) (by omega) (fun x hx => by have := R.w1 x hx; have := R.line2; omega) 0 i; omega) (by omega)
        (fun h => by rw [out_whole R h _ _ (by omega) (by omega)]; omega) (fun h => out_one R (by omega) h) ws.length 0 3999 (by omega) (by omega)
      rw [e0] at this
      exact this
  · rw [breakI_no c, if_neg c]
    rw [show (4000 : Nat) = 3999 + 1 from rfl]
    simp only [partitalaw25_SystemsOne.j0]
    rfl
end Go.Proofs.YtneaoicjbiebkaaDoor.Pure
