/- Breaks that are laid by hand: none costs less. No conditions. -/
import Derived.Test.YtneaoicjbiebkaaDoorSP3
import Derived.Test.YtneaoicjbiebkaaDoorQ8
namespace Go.Proofs.YtneaoicjbiebkaaDoor.Pure
open Go.RowKit Go.Proofs.YtneaoicjbiebkaaDoor.Q Go.Proofs.YtneaoicjbiebkaaDoorW.PrintWords Go.Proofs.YtneaoicjbiebkaaDoorW.PrintMore
set_option linter.unusedVariables false
/-- The systems from a bar on that end at some places; nothing, where they don't fit. -/
def laidG (ws ss : List Int) (line : Int) : Nat → List Int → Option (List S38)
  | _, [] => some []
  | a, t :: ts => if t ≤ a then none else if t > ws.length then none else if (costI (sumF ws a t.toNat) (sumF ss a t.toNat) line).2 = true then (laidG ws ss line t.toNat ts).map fun l => ⟨(a : Int), t, cst ws ss line a t.toNat⟩ :: l else none
def outG (acc : List S38) (o : Option (List S38)) : List S38 × Bool := match o with
  | some l => (acc ++ l, true)
  | none => ([], false)
theorem laid_l1 {ws ss : List Int} {line : Int} (R : Right ws ss line) (ends : List Int) (acc : List S38) (from_ : Int) (t : Int) (a b : Nat) (hb : b ≤ ws.length) (r : List S38 × Bool) (K : Nat)
    (h : ∀ k, K ≤ k → ((systems_Cost.f k (sumF ws a b) (sumF ss a b) line).bind fun bt215 => (if bt215.2 = true then (if (b : Int) = (ws.length : Int) then (if acc.length < 5864062014805 then (partitalaw25_laid.l0 k ws ss line ends (acc ++ [(⟨from_, (b : Int), 0⟩ : S38)]) (b : Int) (wrap64 (t + 1))) else (none)) else (if acc.length < 5864062014805 then (partitalaw25_laid.l0 k ws ss line ends (acc ++ [(⟨from_, (b : Int), bt215.1⟩ : S38)]) (b : Int) (wrap64 (t + 1))) else (none))) else (some (([] : List S38), false)))) = some r) :
    ∀ (d i k : Nat), b = i + d → a ≤ i → K + d + 1 ≤ k → partitalaw25_laid.l1 k ws ss line ends acc from_ t b (sumF ws a i) (sumF ss a i) i = some r
  | 0, i, k, e, ha, hk => by
    obtain rfl : i = b := by omega
    obtain ⟨k, rfl⟩ : ∃ k', k = k' + 1 := ⟨k - 1, by omega⟩
    simp only [partitalaw25_laid.l1]
    rw [if_neg (by omega)]
    exact h k (by omega)
  | d + 1, i, k, e, ha, hk => by
    obtain ⟨k, rfl⟩ : ∃ k', k = k' + 1 := ⟨k - 1, by omega⟩
    have hl := R.len
    have hq := R.eq
    obtain ⟨m, rfl⟩ : ∃ m, i = a + m := ⟨i - a, by omega⟩
    have e1 := sumF_succ ws a m (by omega)
    have e2 := sumF_succ ss a m (by omega)
    have b1 := sumF_le (l := ws) (B := 100000) (by omega) (fun x hx => by have := R.w1 x hx; have := R.line2; omega) a (a + (m + 1))
    have b2 := sumF_le (l := ss) (B := 100000) (by omega) R.s1 a (a + (m + 1))
    simp only [partitalaw25_laid.l1]
    rw [if_pos (by omega), if_pos (by omega), if_pos (by omega), if_pos (by omega), ← e1, ← e2, wrap64_id_ (n := sumF ws a (a + (m + 1))) (by omega), wrap64_id_ (n := sumF ss a (a + (m + 1))) (by omega), show wrap64 (((a + m : Nat) : Int) + 1) = ((a + m + 1 : Nat) : Int) by unfold wrap64; omega]
    exact laid_l1 R ends acc from_ t a b hb r K h d (a + m + 1) k (by omega) (by omega) (by omega)
theorem laid_l0 {ws ss : List Int} {line : Int} (R : Right ws ss line) (ends : List Int) (he : ends.length ≤ 1000) :
    ∀ (d i a : Nat) (acc : List S38) (k : Nat), ends.length = i + d → a ≤ ws.length → acc.length ≤ i → 200 * d + 400 ≤ k → partitalaw25_laid.l0 k ws ss line ends acc a i = some (outG acc (laidG ws ss line a (ends.drop i ++ [(ws.length : Int)]))) := by
  have hl := R.len
  have hq := R.eq
  -- one system: from its end on
  have step : ∀ (d i a : Nat) (acc : List S38) (t : Int) (ts : List Int) (k : Nat), a ≤ ws.length → acc.length ≤ 2000 → 200 * d + 390 ≤ k →
      (∀ (b : Nat) (x : S38) (k : Nat), b ≤ ws.length → t = b → 200 * d + 210 ≤ k → partitalaw25_laid.l0 k ws ss line ends (acc ++ [x]) b ((i + 1 : Nat) : Int) = some (outG (acc ++ [x]) (laidG ws ss line b ts))) → (i : Int) ≤ 1000 →
      partitalaw25_laid.j1 k ws ss line ends acc a i t = some (outG acc (laidG ws ss line a (t :: ts))) := by
    intro d i a acc t ts k ha hacc hk hrec hi
    obtain ⟨k, rfl⟩ : ∃ k', k = k' + 1 + 1 := ⟨k - 2, by omega⟩
    simp only [partitalaw25_laid.j1, partitalaw25_laid.j2]
    by_cases c1 : t ≤ a
    · rw [if_pos c1, if_pos trivial]
      have : laidG ws ss line a (t :: ts) = none := by unfold laidG; rw [if_pos c1]
      rw [this]; rfl
    rw [if_neg c1]
    by_cases c2 : t > ws.length
    · rw [if_pos (by simpa using c2)]
      have : laidG ws ss line a (t :: ts) = none := by unfold laidG; rw [if_neg c1, if_pos c2]
      rw [this]; rfl
    rw [if_neg (by simpa using c2)]
    obtain ⟨b, rfl⟩ : ∃ b : Nat, t = b := ⟨t.toNat, by omega⟩
    have hw : wrap64 ((i : Int) + 1) = ((i + 1 : Nat) : Int) := by unfold wrap64; omega
    have z1 : sumF ws a a = 0 := by have := sumF_zero ws a; simpa using this
    have z2 : sumF ss a a = 0 := by have := sumF_zero ss a; simpa using this
    have key := laid_l1 R ends acc (a : Int) (i : Int) a b (by omega) (outG acc (laidG ws ss line a ((b : Int) :: ts))) (200 * d + 210) ?_ (b - a) a k (by omega) (Nat.le_refl _) (by omega)
    · rw [z1, z2] at key; exact key
    intro k hk
    rw [Cost_f k (by omega), Option.bind_some, hw]
    unfold laidG
    rw [if_neg c1, if_neg c2, Int.toNat_natCast]
    by_cases c3 : (costI (sumF ws a b) (sumF ss a b) line).2 = true
    · rw [if_pos c3, if_pos c3]
      have hacc' : acc.length < 5864062014805 := by omega
      have fin : ∀ c : Int, c = cst ws ss line a b → partitalaw25_laid.l0 k ws ss line ends (acc ++ [(⟨(a : Int), (b : Int), c⟩ : S38)]) (b : Int) ((i + 1 : Nat) : Int) = some (outG acc ((laidG ws ss line b ts).map fun l => ⟨(a : Int), (b : Int), cst ws ss line a b⟩ :: l)) := by
        intro c hc
        rw [hrec b _ k (by omega) rfl hk, hc]
        cases laidG ws ss line b ts with
        | none => rfl
        | some l => simp [outG]
      by_cases c4 : (b : Int) = (ws.length : Int)
      · rw [if_pos c4, if_pos hacc']
        exact fin 0 (by unfold cst; rw [if_pos (by omega)])
      · rw [if_neg c4, if_pos hacc']
        exact fin _ (by unfold cst; rw [if_neg (by omega)])
    · rw [if_neg c3, if_neg c3]; rfl
  intro d
  induction d with
  | zero =>
    intro i a acc k e ha hacc hk
    obtain ⟨k, rfl⟩ : ∃ k', k = k' + 1 := ⟨k - 1, by omega⟩
    simp only [partitalaw25_laid.l0]
    rw [if_pos (by omega), if_neg (by omega), List.drop_eq_nil_of_le (by omega), List.nil_append]
    refine step 0 i a acc _ [] k ha (by omega) (by omega) ?_ (by omega)
    intro b x k hb _ hk
    obtain ⟨k, rfl⟩ : ∃ k', k = k' + 1 := ⟨k - 1, by omega⟩
    simp only [partitalaw25_laid.l0]
    rw [if_neg (by omega)]
    simp [laidG, outG]
  | succ d ih =>
    intro i a acc k e ha hacc hk
    obtain ⟨k, rfl⟩ : ∃ k', k = k' + 1 := ⟨k - 1, by omega⟩
    simp only [partitalaw25_laid.l0]
    have hi : i < ends.length := by omega
    rw [if_pos (by omega), if_pos (by omega), if_pos (by omega), rd_at hi, List.drop_eq_getElem_cons hi, List.cons_append]
    refine step (d + 1) i a acc _ _ k ha (by omega) (by omega) ?_ (by omega)
    intro b x k hb _ hk
    exact ih (i + 1) b (acc ++ [x]) k (by omega) hb (by rw [List.length_append, List.length_singleton]; omega) (by omega)
theorem laid_f {ws ss : List Int} {line : Int} (R : Right ws ss line) (ends : List Int) (he : ends.length ≤ 1000) {k : Nat} (hk : 200 * ends.length + 400 ≤ k) : partitalaw25_laid.f k ws ss line ends = some (outG [] (laidG ws ss line 0 (ends ++ [(ws.length : Int)]))) := by
  unfold partitalaw25_laid.f
  have := laid_l0 R ends he ends.length 0 0 [] k (by omega) (Nat.zero_le _) (Nat.le_refl _) hk
  simpa using this
/-- None costs less. -/
theorem laid_tot {ws ss : List Int} {line : Int} (R : Right ws ss line) : ∀ (ts : List Int) (a : Nat) (l : List S38), (ts ≠ [] → ts.getLast? = some (ws.length : Int)) → (ts = [] → a = ws.length) → a ≤ ws.length → laidG ws ss line a ts = some l → totI ws ss line a ≤ totL l ∧ (∀ x ∈ l, 0 ≤ x.f2 ∧ x.f2 ≤ 10000) ∧ l.length = ts.length
  | [], a, l, _, h, _, e => by
    obtain rfl := Option.some.inj e
    obtain rfl := h rfl
    refine ⟨?_, by simp, rfl⟩
    have := (totI_range R (Nat.le_refl ws.length)).2
    have e : totL [] = 0 := rfl
    rw [e]; omega
  | t :: ts, a, l, h1, _, ha, e => by
    unfold laidG at e
    by_cases c1 : t ≤ a
    · rw [if_pos c1] at e; cases e
    rw [if_neg c1] at e
    by_cases c2 : t > ws.length
    · rw [if_pos c2] at e; cases e
    rw [if_neg c2] at e
    obtain ⟨b, rfl⟩ : ∃ b : Nat, t = b := ⟨t.toNat, by omega⟩
    rw [Int.toNat_natCast] at e
    by_cases c3 : (costI (sumF ws a b) (sumF ss a b) line).2 = true
    · rw [if_pos c3] at e
      obtain ⟨m, hm, rfl⟩ := Option.map_eq_some_iff.1 e
      obtain ⟨i1, i2, i3⟩ := laid_tot R ts b m (fun hne => by have := h1 (by simp); rwa [List.getLast?_cons_of_ne_nil hne] at this) (fun e0 => by subst e0; have := h1 (by simp); simp at this; omega) (by omega) hm
      obtain ⟨j, rfl⟩ : ∃ j, b = a + j + 1 := ⟨b - a - 1, by omega⟩
      have hj : j < mFrom ws ss line a := (fit_lt R (by omega)).2 ((fit_iff R (by omega) (by omega)).1 c3)
      obtain ⟨-, j', hj', q, hm'⟩ := tab_spec R _ a rfl (by omega)
      have hv := (hm' j hj).1
      have e2 : totI ws ss line a = val ws ss line a j' := by unfold totI; rw [q]
      refine ⟨?_, ?_, by simp [i3]⟩
      · unfold totL at i1 ⊢
        rw [List.map_cons, List.sum_cons, e2]
        unfold val at hv ⊢
        dsimp only
        omega
      · intro x hx
        rcases List.mem_cons.1 hx with rfl | hx
        · exact cst_range _ _ _ _ _
        · exact i2 x hx
    · rw [if_neg c3] at e; cases e
/-- The break is laid by its own ends. -/
theorem laid_out {ws ss : List Int} {line : Int} (R : Right ws ss line) : ∀ (d a : Nat), ws.length ≤ a + d → a ≤ ws.length → laidG ws ss line a ((outI (tabI ws ss line ws.length) ws.length d a).map (·.f1)) = some (outI (tabI ws ss line ws.length) ws.length d a) ∧ totL (outI (tabI ws ss line ws.length) ws.length d a) = totI ws ss line a ∧ (a < ws.length → ((outI (tabI ws ss line ws.length) ws.length d a).map (·.f1)).getLast? = some (ws.length : Int))
  | 0, a, h, h2 => by
    obtain rfl : a = ws.length := by omega
    rw [out_end _ _ _ _ (Nat.le_refl _)]
    have h1 := (totI_range R (Nat.le_refl ws.length))
    exact ⟨rfl, by have e : totL [] = 0 := rfl; rw [e]; omega, fun h => absurd h (by omega)⟩
  | d + 1, a, h, h2 => by
    rcases Nat.lt_or_ge a ws.length with ha | ha
    · obtain ⟨j, hj, e, ht, -⟩ := out_step R (d := d) ha
      have hM := (mFrom_spec ws ss line a).1
      obtain ⟨i1, i2, i3⟩ := laid_out R d (a + j + 1) (by omega) (by omega)
      rw [e, List.map_cons]
      refine ⟨?_, ?_, fun _ => ?_⟩
      · unfold laidG
        rw [if_neg (by dsimp only; omega), if_neg (by dsimp only; omega), Int.toNat_natCast, if_pos ((fit_iff R (by omega) (by omega)).2 ((fit_lt R (by omega)).1 hj)), i1]
        rfl
      · unfold totL at i2 ⊢
        rw [List.map_cons, List.sum_cons, ht, i2]
        rfl
      · rcases Nat.lt_or_ge (a + j + 1) ws.length with h' | h'
        · have := i3 h'
          rw [List.getLast?_cons, this]; rfl
        · rw [out_end _ _ _ _ h']
          simp
          omega
    · obtain rfl : a = ws.length := by omega
      rw [out_end _ _ _ _ (Nat.le_refl _)]
      have h1 := (totI_range R (Nat.le_refl ws.length))
      exact ⟨rfl, by have e : totL [] = 0 := rfl; rw [e]; omega, fun h => absurd h (by omega)⟩
end Go.Proofs.YtneaoicjbiebkaaDoor.Pure
