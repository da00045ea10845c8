/- Plain facts on maps whose places are whole numbers of 96ths: how long it takes to a place, how fast it goes there. No conditions. -/
import Derived.Test.YtchjlkokfgmjaaaTP2
import Derived.Test.YtchjlkokfgmjaaaQ6
import Derived.Test.YtchjlkokfgmjaaaQ6
namespace Go.Proofs.Ytchjlkokfgmjaaa.Q
open Go.RowKit Go.Proofs.YtchjlkokfgmjaaaW.PrintWords Go.Proofs.YtchjlkokfgmjaaaW.PrintMore
set_option linter.unusedVariables false
set_option linter.unusedSimpArgs false
/-- A tempo: its place (96ths), its Micros, whether it goes on evenly. -/
abbrev T3 := Int × Int × Bool
def toS (t : T3) : S36 := ⟨⟨(ofQ t.1 96).1, (ofQ t.1 96).2.1⟩, t.2.1, t.2.2⟩
def toL (G : List T3) : List S36 := G.map toS
def okT (t : T3) : Prop := 0 ≤ t.1 ∧ t.1 ≤ 10000 ∧ 100000 ≤ t.2.1 ∧ t.2.1 ≤ 4000000
def okG : List T3 → Prop
  | [] => True
  | t :: r => okT t ∧ (∀ u, r.head? = some u → t.1 < u.1 ∧ (t.2.2 = true → u.1 - t.1 ≤ 2000)) ∧ okG r
/-- By how much a tempo's Micros change, and over how many 96ths. -/
def gapOf (t : T3) (u : Option T3) : Int × Int :=
  match u with
  | some v => if t.2.2 = true then (v.2.1 - t.2.1, v.1 - t.1) else (0, 1)
  | none => (0, 1)
def partG (t : T3) (u : Option T3) (x : Int) : Int := legT t.2.1 (gapOf t u).1 (x - t.1) (gapOf t u).2
def rateG (t : T3) (u : Option T3) (x : Int) : Int := legR t.2.1 (gapOf t u).1 (x - t.1) (gapOf t u).2
/-- How long it takes up to x (the head stands at x or ahead of it). -/
def mics : List T3 → Int → Int
  | [], _ => 0
  | t :: r, x => match r.head? with
    | some u => if u.1 ≤ x then partG t (some u) u.1 + mics r x else partG t (some u) x
    | none => partG t none x
def rats : List T3 → Int → Int
  | [], _ => 0
  | t :: r, x => match r.head? with
    | some u => if u.1 ≤ x then rats r x else rateG t (some u) x
    | none => rateG t none x
/-- How many tempos behind the head stand at x or ahead of it. -/
def cnt : List T3 → Int → Nat
  | [], _ => 0
  | _ :: r, x => match r.head? with
    | some u => if u.1 ≤ x then cnt r x + 1 else 0
    | none => 0
theorem mics_one (t : T3) (x : Int) : mics [t] x = partG t none x := rfl
theorem mics_two (t u : T3) (r : List T3) (x : Int) : mics (t :: u :: r) x = if u.1 ≤ x then partG t (some u) u.1 + mics (u :: r) x else partG t (some u) x := rfl
theorem rats_one (t : T3) (x : Int) : rats [t] x = rateG t none x := rfl
theorem rats_two (t u : T3) (r : List T3) (x : Int) : rats (t :: u :: r) x = if u.1 ≤ x then rats (u :: r) x else rateG t (some u) x := rfl
theorem cnt_one (t : T3) (x : Int) : cnt [t] x = 0 := rfl
theorem cnt_two (t u : T3) (r : List T3) (x : Int) : cnt (t :: u :: r) x = if u.1 ≤ x then cnt (u :: r) x + 1 else 0 := rfl
theorem toL_length (G : List T3) : (toL G).length = G.length := List.length_map ..
theorem rd_toL {G : List T3} {i : Nat} {t : T3} (h : G[i]? = some t) : rd_T36 (toL G) (i : Int) = toS t := by
  unfold rd_T36 toL
  rw [Int.toNat_natCast, List.getD_eq_getElem?_getD, List.getElem?_map, h]
  rfl
theorem toS_at {t : T3} (h0 : 0 ≤ t.1) (h1 : t.1 ≤ 9600001) : At t.1 (toS t).f0.f0 (toS t).f0.f1 := by
  obtain ⟨n, d, h, ha⟩ := at_new h0 h1
  unfold toS
  rw [h]
  exact ha
/-- What may stand behind a tempo, up to the place x. -/
def nextOk (t : T3) (u : Option T3) (x : Int) : Prop := ∀ v, u = some v → okT v ∧ t.1 < v.1 ∧ (t.2.2 = true → v.1 - t.1 ≤ 2000 ∧ x ≤ v.1)
theorem gap_ok {t : T3} {u : Option T3} {x : Int} (ht : okT t) (hn : nextOk t u x) : 0 < (gapOf t u).2 ∧ (100000 ≤ t.2.1 + (gapOf t u).1 ∧ t.2.1 + (gapOf t u).1 ≤ 4000000) := by
  unfold okT at ht
  unfold gapOf
  cases u with
  | none => simp only; omega
  | some v =>
    obtain ⟨h1, h2, h3⟩ := hn v rfl
    unfold okT at h1
    simp only
    split
    · simp only; omega
    · simp only; omega
theorem reachG {G : List T3} {i : Nat} {t : T3} {u : Option T3} {x p q : Int} (hi : G[i]? = some t) (hu : G[i + 1]? = u) (hlen : G.length ≤ 1001) (ht : okT t) (hn : nextOk t u x) (hx : t.1 ≤ x) (hx2 : x ≤ 9600001) (ha : At x p q) :
    ∃ fn fd sn sd, tempo_reach.f 0 (toL G) i p q = some ((toS t).f0.f0, (toS t).f0.f1, t.2.1, t.2.2, fn, fd, sn, sd, (gapOf t u).1, 0) ∧ At (x - t.1) fn fd ∧ 1 ≤ sd ∧ 0 ≤ sn ∧
      (gapOf t u).1 * (sn * (gapOf t u).2) = (gapOf t u).1 * ((x - t.1) * sd) ∧ sn ≤ sd ∧ sd ≤ 2000 ∧ (sn = 0 ∧ sd = 1 ∨ x - t.1 ≤ 2000) := by
  have hil : i < G.length := by
    rw [List.getElem?_eq_some_iff] at hi
    exact hi.1
  have hS := toS_at ht.1 (by have := ht.2.1; omega)
  obtain ⟨fn, fd, hsub, hf⟩ := at_sub ha hS ht.1 hx hx2
  unfold tempo_reach.f
  rw [toL_length, rd_toL hi, if_pos ⟨by omega, by omega, hlen⟩, hsub, Option.bind_some]
  simp only [true_and]
  by_cases hr : t.2.2 = true ∧ (i : Int) + 1 ≠ G.length
  · have hr2 : (toS t).f2 = true ∧ (i : Int) + 1 ≠ G.length := hr
    rw [if_pos hr2]
    obtain ⟨v, hv⟩ : ∃ v, G[i + 1]? = some v := ⟨G[i + 1]'(by omega), List.getElem?_eq_getElem _⟩
    have huv : u = some v := by rw [← hu, hv]
    subst huv
    obtain ⟨hv1, hv2, hv3⟩ := hn v rfl
    obtain ⟨hv4, hv5⟩ := hv3 hr.1
    have hV := toS_at hv1.1 (by have := hv1.2.1; omega)
    obtain ⟨wn, wd, hsub2, hw⟩ := at_sub hV hS ht.1 (by omega) (by have := hv1.2.1; omega)
    obtain ⟨sn, sd, hdiv, hsh, hs1, hs2⟩ := at_div hf hw (by omega) (by omega) (by omega) (by omega)
    have hm1 := ht.2.2
    have hm2 := hv1.2.2
    rw [show (i : Int) + 1 = ((i + 1 : Nat) : Int) by omega, rd_toL hv, hsub2, Option.bind_some]
    simp only [if_true]
    rw [hdiv, Option.bind_some]
    have hg : gapOf t (some v) = (v.2.1 - t.2.1, v.1 - t.1) := by unfold gapOf; simp only; rw [if_pos hr.1]
    refine ⟨fn, fd, sn, sd, ?_, hf, hsh.1, hsh.2.1, ?_, hs1, by omega, .inr (by omega)⟩
    · rw [hg]
      have e : wrap64 (v.2.1 - t.2.1) = v.2.1 - t.2.1 := wrap64_id (by unfold i64; omega)
      unfold legI
      show some ((toS t).f0.f0, (toS t).f0.f1, t.2.1, t.2.2, fn, fd, sn, sd, wrap64 (v.2.1 - t.2.1), 0) = _
      rw [e]
    · rw [hg]; simp only; rw [hsh.2.2.2.2]
  · have hr2 : ¬ ((toS t).f2 = true ∧ (i : Int) + 1 ≠ G.length) := hr
    rw [if_neg hr2]
    have hg : gapOf t u = (0, 1) := by
      unfold gapOf
      cases u with
      | none => rfl
      | some v =>
        simp only
        rw [if_neg]
        intro h
        apply hr
        refine ⟨h, ?_⟩
        have : i + 1 < G.length := by
          rw [List.getElem?_eq_some_iff] at hu
          exact hu.1
        omega
    refine ⟨fn, fd, 0, 1, ?_, hf, by omega, by omega, ?_, by omega, by omega, .inl ⟨rfl, rfl⟩⟩
    · rw [hg]; rfl
    · rw [hg]; simp
theorem ediv_bd {a b A : Int} (ha : 0 ≤ a) (hb : 1 ≤ b) (h : a ≤ A) : 0 ≤ a / b ∧ a / b ≤ A := ⟨Int.ediv_nonneg ha (by omega), Int.le_trans (Int.ediv_le_self _ ha) h⟩
theorem legT_bd {m more f w : Int} (hm : 100000 ≤ m ∧ m ≤ 4000000) (hmo : 100000 ≤ m + more ∧ m + more ≤ 4000000) (hf : 0 ≤ f) (hf2 : f ≤ 9600001) (hw : 0 < w) (hfw : more = 0 ∨ f ≤ w) : 0 ≤ legT m more f w ∧ legT m more f w ≤ 10000000000000 := by
  unfold legT
  have e1 : 4 * m * w + 2 * more * f = 2 * m * w + 2 * (m * w + more * f) := by rw [Int.mul_assoc, Int.mul_assoc, Int.mul_assoc]; omega
  have h0 : 0 ≤ m * w := Int.mul_nonneg (by omega) (by omega)
  have h1 : 0 ≤ m * w + more * f ∧ m * w + more * f ≤ 4000000 * w := by
    have k1 : m * w ≤ 4000000 * w := Int.mul_le_mul_of_nonneg_right (by omega) (by omega)
    rcases hfw with h | h
    · subst h; simp; omega
    · rcases Int.le_total 0 more with h2 | h2
      · have : 0 ≤ more * f := Int.mul_nonneg h2 hf
        have k2 : more * f ≤ more * w := Int.mul_le_mul_of_nonneg_left h h2
        have k3 : (m + more) * w ≤ 4000000 * w := Int.mul_le_mul_of_nonneg_right (by omega) (by omega)
        rw [Int.add_mul] at k3
        omega
      · have k2 : more * w ≤ more * f := Int.mul_le_mul_of_nonpos_left h2 h
        have k3 : 0 ≤ (m + more) * w := Int.mul_nonneg (by omega) (by omega)
        have k4 : more * f ≤ 0 := Int.mul_nonpos_of_nonpos_of_nonneg h2 hf
        rw [Int.add_mul] at k3
        omega
  have h2 : 0 ≤ 4 * m * w + 2 * more * f ∧ 4 * m * w + 2 * more * f ≤ 16000000 * w := by
    have k1 : m * w ≤ 4000000 * w := Int.mul_le_mul_of_nonneg_right (by omega) (by omega)
    rw [e1, Int.mul_assoc]
    omega
  have h3 : 0 ≤ f * (4 * m * w + 2 * more * f) := Int.mul_nonneg hf h2.1
  have h4 : f * (4 * m * w + 2 * more * f) ≤ 9600001 * (16000000 * w) := Int.mul_le_mul hf2 h2.2 h2.1 (by omega)
  refine ⟨Int.ediv_nonneg h3 (by omega), ?_⟩
  refine Int.ediv_le_of_le_mul (by omega) ?_
  omega
theorem partG_bd {t : T3} {u : Option T3} {x : Int} (ht : okT t) (hn : nextOk t u x) (hx : t.1 ≤ x) (hx2 : x ≤ 9600001) : 0 ≤ partG t u x ∧ partG t u x ≤ 10000000000000 := by
  have g := gap_ok ht hn
  refine legT_bd ht.2.2 g.2 (by omega) (by have := ht.1; omega) g.1 ?_
  unfold gapOf
  cases u with
  | none => exact .inl rfl
  | some v =>
    simp only
    split
    · rename_i h
      have := (hn v rfl).2.2 h
      right; simp only; omega
    · exact .inl rfl
theorem moreG {G : List T3} {i : Nat} {t : T3} {u : Option T3} {x p q s : Int} (hi : G[i]? = some t) (hu : G[i + 1]? = u) (hlen : G.length ≤ 1001) (ht : okT t) (hn : nextOk t u x) (hx : t.1 ≤ x) (hx2 : x ≤ 9600001) (ha : At x p q) (hs : 0 ≤ s) (hs2 : s ≤ 1000000000000000000) :
    moreF (toL G) i p q s = some (s + partG t u x, 0) := by
  obtain ⟨fn, fd, sn, sd, h1, h2, h3, h4, h5, h6, h7, h8⟩ := reachG hi hu hlen ht hn hx hx2 ha
  have g := gap_ok ht hn
  unfold moreF
  rw [h1, Option.bind_some]
  simp only [if_true]
  rw [time_f ht.2.2 g.2 h2 (by omega) (by have := ht.1; omega) h3 h4 h5 h6 h7 g.1 h8, Option.bind_some]
  have hb := partG_bd ht hn hx hx2
  have e : legT t.2.1 (gapOf t u).1 (x - t.1) (gapOf t u).2 = partG t u x := rfl
  rw [e, wrap64_id (by unfold i64; omega)]
theorem getElem?_drop_cons {G : List T3} {i : Nat} {t : T3} {r : List T3} (h : G.drop i = t :: r) : G[i]? = some t ∧ G.drop (i + 1) = r ∧ G[i + 1]? = r.head? := by
  have h1 : G[i]? = some t := by
    have := List.getElem?_drop (xs := G) (i := i) (j := 0)
    rw [h] at this
    simpa using this.symm
  have h2 : G.drop (i + 1) = r := by
    rw [← List.drop_drop, h]; rfl
  refine ⟨h1, h2, ?_⟩
  have := List.getElem?_drop (xs := G) (i := i + 1) (j := 0)
  rw [h2] at this
  rw [List.head?_eq_getElem?]
  simpa using this.symm
theorem mRestG {G : List T3} {x p q : Int} (hlen : G.length ≤ 1001) (hx2 : x ≤ 9600001) (ha : At x p q) (n : Nat) :
    ∀ (L : List T3) (i : Nat) (s : Int), L ≠ [] → G.drop i = L → okG L → (∀ t, L.head? = some t → t.1 ≤ x) → n = i + cnt L x → 0 ≤ s → s ≤ 100000000000000000 - L.length * 10000000000000 →
      mRest (toL G) n p q (cnt L x) i s = some (s + mics L x, 0) := by
  intro L
  induction L with
  | nil => intro i s h; exact absurd rfl h
  | cons t r ih =>
    intro i s _ hd hok hx hn hs hs2
    obtain ⟨hi, hd2, hu⟩ := getElem?_drop_cons hd
    have hx1 := hx t rfl
    obtain ⟨ht, hnx, hr⟩ := hok
    simp only [List.length_cons] at hs2
    cases r with
    | nil =>
      simp only [List.head?_nil] at hu
      rw [cnt_one] at hn ⊢
      rw [mics_one]
      simp only [mRest]
      have hno : nextOk t none x := fun v hv => by cases hv
      rw [hn, Nat.add_zero, moreG hi hu hlen ht hno hx1 hx2 ha hs (by omega), Option.bind_some]
      simp
    | cons u r =>
      simp only [List.head?_cons] at hu hnx
      obtain ⟨h1, h2⟩ := hnx u rfl
      have hu1 := hr.1
      rw [cnt_two] at hn ⊢
      rw [mics_two]
      by_cases hc : u.1 ≤ x
      · rw [if_pos hc] at hn
        rw [if_pos hc, if_pos hc]
        have hno : nextOk t (some u) u.1 := fun v hv => by
          obtain rfl := Option.some.inj hv
          exact ⟨hu1, h1, fun h => ⟨h2 h, Int.le_refl _⟩⟩
        have hU := toS_at hu1.1 (by have := hu1.2.1; omega)
        have hb := partG_bd ht hno (by omega) (by have := hu1.2.1; omega)
        simp only [mRest]
        rw [show (i : Int) + 1 = ((i + 1 : Nat) : Int) by omega, rd_toL hu, moreG hi hu hlen ht hno (by omega) (by have := hu1.2.1; omega) hU hs (by omega), Option.bind_some]
        simp only [if_true]
        have := ih (i + 1) (s + partG t (some u) u.1) (by simp) hd2 hr (fun v hv => by obtain rfl := Option.some.inj hv; exact hc) (by omega) (by omega) (by simp only [List.length_cons] at hs2 ⊢; omega)
        rw [this]
        congr 2
        simp only [List.length_cons] at *
        omega
      · rw [if_neg hc] at hn
        rw [if_neg hc, if_neg hc]
        simp only [mRest]
        have hno : nextOk t (some u) x := fun v hv => by
          obtain rfl := Option.some.inj hv
          exact ⟨hu1, h1, fun h => ⟨h2 h, by omega⟩⟩
        rw [hn, Nat.add_zero, moreG hi hu hlen ht hno hx1 hx2 ha hs (by omega), Option.bind_some]
        simp
theorem lastG {x p q : Int} (ha : At x p q) (h0 : 0 ≤ x) (hx2 : x ≤ 9600001) : ∀ (G : List T3), G ≠ [] → okG G → (∀ t, G.head? = some t → t.1 ≤ x) → lastN (toL G) p q = (cnt G x : Int) + 1 := by
  intro G
  have key : ∀ (t : T3) (r : List T3), okT t → lastN (toL (t :: r)) p q = if x < t.1 then 0 else lastN (toL r) p q + 1 := by
    intro t r ht
    have hb : aboveB p q (toS t) = decide (x < t.1) := by
      unfold aboveB
      rw [at_cmp (toS_at ht.1 (by have := ht.2.1; omega)) ha ht.1 (by have := ht.2.1; omega) h0 hx2]
      by_cases c1 : t.1 < x
      · rw [if_pos c1]; symm; rw [decide_eq_false (by omega)]; rfl
      · rw [if_neg c1]
        by_cases c2 : x < t.1
        · rw [if_pos c2, decide_eq_true c2]; rfl
        · rw [if_neg c2, decide_eq_false c2]; rfl
    unfold lastN toL
    simp only [List.map_cons, idxI, List.length_cons]
    rw [hb]
    by_cases c : x < t.1
    · rw [decide_eq_true c, if_pos c]; simp
    · rw [decide_eq_false c, if_neg c]
      simp only [Bool.false_eq_true, if_false]
      have hge : -1 ≤ idxI (aboveB p q) (List.map toS r) := by
        generalize List.map toS r = m
        induction m with
        | nil => simp [idxI]
        | cons d l ih => simp only [idxI]; split <;> (try split) <;> omega
      by_cases h1 : idxI (aboveB p q) (List.map toS r) = -1
      · rw [if_pos h1, if_pos (by omega), if_pos (by omega)]; push_cast; omega
      · rw [if_neg h1, if_neg (by omega), if_neg (by omega)]
  induction G with
  | nil => intro h; exact absurd rfl h
  | cons t r ih =>
    intro _ hok hx
    have hx1 := hx t rfl
    obtain ⟨ht, hnx, hr⟩ := hok
    rw [key t r ht, if_neg (by omega)]
    cases r with
    | nil => simp [cnt_one, toL, lastN, idxI]
    | cons u r =>
      rw [cnt_two]
      by_cases hc : u.1 ≤ x
      · rw [if_pos hc, ih (by simp) hr (fun v hv => by obtain rfl := Option.some.inj hv; exact hc)]
        push_cast; omega
      · rw [if_neg hc, key u r hr.1, if_pos (by omega)]
        rfl
theorem cnt_lt : ∀ (G : List T3) (x : Int), G ≠ [] → cnt G x < G.length := by
  intro G x
  induction G with
  | nil => intro h; exact absurd rfl h
  | cons t r ih =>
    intro _
    cases r with
    | nil => simp [cnt_one]
    | cons u r =>
      rw [cnt_two]
      split
      · have := ih (by simp)
        simp only [List.length_cons] at this ⊢; omega
      · simp
theorem microsG {G : List T3} {x p q : Int} (hne : G ≠ []) (hlen : G.length ≤ 100) (hok : okG G) (hx : ∀ t, G.head? = some t → t.1 ≤ x) (h0 : 0 ≤ x) (hx2 : x ≤ 9600001) (ha : At x p q) : microsI (toL G) p q = some (mics G x, 0) := by
  have hl := lastG ha h0 hx2 G hne hok hx
  have hc := cnt_lt G x hne
  unfold microsI tempo_last.f
  rw [toL_length, if_pos (by omega), Option.bind_some, hl, Int.add_sub_cancel, wrap64_id (by unfold i64; omega), if_pos ⟨by omega, by omega, by omega⟩, Int.toNat_natCast]
  have := mRestG (by omega) hx2 ha (cnt G x) G 0 0 hne rfl hok hx (by omega) (by omega) (by omega)
  simpa using this
theorem ratesG {G : List T3} {x p q : Int} (hne : G ≠ []) (hlen : G.length ≤ 100) (hok : okG G) (hx : ∀ t, G.head? = some t → t.1 ≤ x) (h0 : 0 ≤ x) (hx2 : x ≤ 9600001) (ha : At x p q) : rateI (toL G) p q = some (rats G x, 0) := by
  have hl := lastG ha h0 hx2 G hne hok hx
  have hc := cnt_lt G x hne
  unfold rateI tempo_last.f
  rw [toL_length, if_pos (by omega), Option.bind_some, hl, Int.add_sub_cancel, wrap64_id (by unfold i64; omega)]
  have hgo : ∀ (L : List T3) (i : Nat), L ≠ [] → G.drop i = L → okG L → (∀ t, L.head? = some t → t.1 ≤ x) → 
      ((tempo_reach.f 0 (toL G) ((i + cnt L x : Nat) : Int) p q).bind fun r => if r.2.2.2.2.2.2.2.2.2 = 0 then (tempo_leg_rate.f r.1 r.2.1 r.2.2.1 r.2.2.2.1 r.2.2.2.2.1 r.2.2.2.2.2.1 r.2.2.2.2.2.2.1 r.2.2.2.2.2.2.2.1 r.2.2.2.2.2.2.2.2.1).bind fun t => some (t, (0 : Int)) else some (0, r.2.2.2.2.2.2.2.2.2)) = some (rats L x, 0) := by
    intro L
    induction L with
    | nil => intro i h; exact absurd rfl h
    | cons t r ih =>
      intro i _ hd hok hx
      obtain ⟨hi, hd2, hu⟩ := getElem?_drop_cons hd
      have hx1 := hx t rfl
      obtain ⟨ht, hnx, hr⟩ := hok
      have fin : ∀ u, G[i + 1]? = u → nextOk t u x → ((tempo_reach.f 0 (toL G) ((i : Nat) : Int) p q).bind fun r => if r.2.2.2.2.2.2.2.2.2 = 0 then (tempo_leg_rate.f r.1 r.2.1 r.2.2.1 r.2.2.2.1 r.2.2.2.2.1 r.2.2.2.2.2.1 r.2.2.2.2.2.2.1 r.2.2.2.2.2.2.2.1 r.2.2.2.2.2.2.2.2.1).bind fun t => some (t, (0 : Int)) else some (0, r.2.2.2.2.2.2.2.2.2)) = some (rateG t u x, 0) := by
        intro u hu hno
        obtain ⟨fn, fd, sn, sd, h1, h2, h3, h4, h5, h6, h7, h8⟩ := reachG hi hu (by omega) ht hno hx1 hx2 ha
        have g := gap_ok ht hno
        rw [h1, Option.bind_some]
        simp only [if_true]
        rw [rate_f ht.2.2 g.2 h3 h4 h5 h6 h7 g.1, Option.bind_some]
        rfl
      cases r with
      | nil =>
        simp only [List.head?_nil] at hu
        rw [cnt_one, rats_one, Nat.add_zero]
        exact fin none hu (fun v hv => by cases hv)
      | cons u r =>
        simp only [List.head?_cons] at hu hnx
        obtain ⟨h1, h2⟩ := hnx u rfl
        rw [cnt_two, rats_two]
        by_cases hc : u.1 ≤ x
        · rw [if_pos hc, if_pos hc]
          have := ih (i + 1) (by simp) hd2 hr (fun v hv => by obtain rfl := Option.some.inj hv; exact hc)
          rw [show i + (cnt (u :: r) x + 1) = i + 1 + cnt (u :: r) x by omega]
          exact this
        · rw [if_neg hc, if_neg hc, Nat.add_zero]
          exact fin (some u) hu (fun v hv => by obtain rfl := Option.some.inj hv; exact ⟨hr.1, h1, fun h => ⟨h2 h, by omega⟩⟩)
  have := hgo G 0 hne rfl hok hx
  rw [Nat.zero_add] at this
  exact this
end Go.Proofs.Ytchjlkokfgmjaaa.Q
