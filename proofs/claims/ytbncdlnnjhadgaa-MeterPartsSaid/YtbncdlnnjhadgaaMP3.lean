/- Plain facts on beats, weights and cuts, in whole numbers of parts. No conditions. -/
import Derived.Test.YtbncdlnnjhadgaaMP2
import Derived.Test.YtbncdlnnjhadgaaQ4
import Derived.Test.YtbncdlnnjhadgaaQ5
namespace Go.Proofs.Ytbncdlnnjhadgaa.Q
open Go.RowKit Go.Proofs.YtbncdlnnjhadgaaW.PrintWords Go.Proofs.YtbncdlnnjhadgaaW.PrintMore
set_option linter.unusedVariables false
set_option linter.unusedSimpArgs false
/-- Ratios are so many N-ths, one by one. -/
def AtP (N : Int) : List (Int × Int) → List Int → Prop
  | [], [] => True
  | p :: P, t :: T => At N t p.1 p.2 ∧ AtP N P T
  | _, _ => False
theorem AtP.map {N : Int} {α : Type} {p : α → Int × Int} {v : α → Int} : ∀ {r : List α}, (∀ j ∈ r, At N (v j) (p j).1 (p j).2) → AtP N (r.map p) (r.map v)
  | [], _ => trivial
  | a :: r, h => ⟨h a (by simp), AtP.map (fun j hj => h j (by simp [hj]))⟩
theorem AtP.len {N : Int} : ∀ {P : List (Int × Int)} {T : List Int}, AtP N P T → P.length = T.length
  | [], [], _ => rfl
  | p :: P, t :: T, h => by simp [AtP.len h.2]
  | [], t :: T, h => h.elim
  | p :: P, [], h => h.elim
theorem AtP.append {N : Int} : ∀ {P : List (Int × Int)} {T : List Int} {P' : List (Int × Int)} {T' : List Int}, AtP N P T → AtP N P' T' → AtP N (P ++ P') (T ++ T')
  | [], [], _, _, _, h => h
  | p :: P, t :: T, _, _, h, h' => ⟨h.1, AtP.append h.2 h'⟩
  | [], t :: T, _, _, h, _ => h.elim
  | p :: P, [], _, _, h, _ => h.elim
theorem AtP.get {N : Int} : ∀ {P : List (Int × Int)} {T : List Int} (h : AtP N P T) (i : Nat) (hi : i < P.length), ∃ t, T[i]? = some t ∧ At N t P[i].1 P[i].2
  | p :: P, t :: T, h, 0, _ => ⟨t, rfl, h.1⟩
  | p :: P, t :: T, h, i + 1, hi => by
    obtain ⟨u, h1, h2⟩ := AtP.get h.2 i (by simpa using hi)
    exact ⟨u, by simpa using h1, by simpa using h2⟩
  | [], [], _, i, hi => by simp at hi
  | [], t :: T, h, _, _ => h.elim
  | p :: P, [], h, _, _ => h.elim
theorem AtP.mem {N t x y : Int} (hN : 0 < N) (ha : At N t x y) : ∀ {P : List (Int × Int)} {T : List Int}, AtP N P T → ((x, y) ∈ P ↔ t ∈ T)
  | [], [], _ => by simp
  | p :: P, u :: T, h => by
    have ih := AtP.mem hN ha h.2
    simp only [List.mem_cons, ih]
    constructor
    · rintro (e | e)
      · exact .inl (at_inj hN ha (by have := h.1; rw [← e] at this; exact this))
      · exact .inr e
    · rintro (e | e)
      · subst e
        obtain ⟨e1, e2⟩ := at_uniq hN ha h.1
        exact .inl (Prod.ext e1 e2)
      · exact .inr e
  | [], t :: T, h => h.elim
  | p :: P, [], h => h.elim
theorem AtP.filter {N : Int} {f : Int × Int → Bool} {g : Int → Bool} : ∀ {P : List (Int × Int)} {T : List Int}, AtP N P T → (∀ p t, At N t p.1 p.2 → f p = g t) → AtP N (P.filter f) (T.filter g)
  | [], [], _, _ => trivial
  | p :: P, t :: T, h, hf => by
    rw [List.filter_cons, List.filter_cons, hf p t h.1]
    cases g t with
    | true => exact ⟨h.1, AtP.filter h.2 hf⟩
    | false => exact AtP.filter h.2 hf
  | [], t :: T, h, _ => h.elim
  | p :: P, [], h, _ => h.elim
/-- Where groups begin. -/
def sums (G : List Int) : List Int := (List.range G.length).map fun j => (G.take j).sum
theorem ptB_at {d a : Int} (hd : 1 ≤ d) (hd2 : d ≤ 64) (ha : a.natAbs ≤ 1000000) : At d a (ptB d a).1 (ptB d a).2 := by
  obtain ⟨x, y, h, hat⟩ := at_new (N := d) (x := a) (by omega) (by omega) ha
  unfold ptB
  rw [ratioOf (by unfold i64; omega) (by unfold i64; omega), h]
  exact hat
/-- The beats, in parts of parts. -/
def BI (n d : Int) (l : List Int) (D : Int) : List Int := (sums (grp n d l)).map (· * D)
theorem sums_bd {G : List Int} (h : ∀ g ∈ G, 1 ≤ g ∧ g ≤ 32) (j : Nat) : 0 ≤ (G.take j).sum ∧ (G.take j).sum ≤ G.sum := by
  have h1 := len_le_sum (l := G.take j) (fun g hg => h g (List.mem_of_mem_take hg))
  have h2 := len_le_sum (l := G.drop j) (fun g hg => h g (List.mem_of_mem_drop hg))
  have h3 : (G.take j).sum + (G.drop j).sum = G.sum := by rw [← List.sum_append, List.take_append_drop]
  omega
theorem beats_at {n d : Int} {l : List Int} (h : GM n d l) (D : Int) : AtP (d * D) (beatsP n d l) (BI n d l D) := by
  obtain ⟨g1, g2, g3, g4⟩ := grp_ok h
  have hd := h.d64
  have hn := h.n2
  unfold beatsP uptoB BI sums
  rw [List.map_map]
  refine AtP.map fun j hj => ?_
  have := sums_bd g2 j
  have hb : ((List.take j (grp n d l)).sum).natAbs ≤ 1000000 := by omega
  exact (ptB_at hd.1 hd.2 hb).more D
theorem beats_f {n d : Int} {l : List Int} (h : GM n d l) {k : Nat} (hk : 40 ≤ k) : meter_Beats.f k n d l = some (rowsP (beatsP n d l), 0) := by
  have hl := h.len
  unfold meter_Beats.f
  rw [right_f (by omega) (by omega), h.right]
  simp only [Option.bind_some, if_true]
  rw [if_pos h.good]
theorem len_at {n d : Int} {l : List Int} (h : GM n d l) {k : Nat} (hk : 40 ≤ k) : ∃ x y, meter_Length.f k n d l = some (x, y, 0) ∧ At d n x y := by
  have hl := h.len
  have hd := h.d64
  have h1 := h.n1
  have h2 := h.n2
  obtain ⟨x, y, hq, hat⟩ := at_new (N := d) (x := n) (by omega) (by omega) (by omega)
  refine ⟨x, y, ?_, hat⟩
  unfold meter_Length.f
  rw [right_f (by omega) (by omega), h.right, ratioOf (by unfold i64; omega) (by unfold i64; omega), hq]
  rfl
theorem mul_pos2 {a b : Int} (ha : 0 < a) (hb : 0 < b) : 0 < a * b := Int.mul_pos ha hb
theorem nd_bd {d D : Int} (hd : 1 ≤ d) (hd2 : d ≤ 64) (h1 : 1 ≤ D) (h2 : D ≤ 12) : 1 ≤ d * D ∧ d * D ≤ 768 := by
  have a1 : 1 * 1 ≤ d * D := Int.mul_le_mul hd h1 (by omega) (by omega)
  have a2 : d * D ≤ 64 * 12 := Int.mul_le_mul hd2 h2 (by omega) (by omega)
  omega
theorem nD_bd {n D : Int} (hn : 1 ≤ n) (hn2 : n ≤ 32) (h1 : 1 ≤ D) (h2 : D ≤ 12) : 1 ≤ n * D ∧ n * D ≤ 384 := by
  have a1 : 1 * 1 ≤ n * D := Int.mul_le_mul hn h1 (by omega) (by omega)
  have a2 : n * D ≤ 32 * 12 := Int.mul_le_mul hn2 h2 (by omega) (by omega)
  omega
theorem within_f {n d : Int} {l : List Int} (h : GM n d l) {D t x y : Int} (h1 : 1 ≤ D) (h2 : D ≤ 12) (ha : At (d * D) t x y) : meter_within.f n d l x y = some (decide (0 ≤ t ∧ t < n * D)) := by
  have hd := h.d64
  have a1 := h.n1
  have a2 := h.n2
  have hN := nd_bd hd.1 hd.2 h1 h2
  obtain ⟨q1, q2, hq, hat⟩ := at_new (N := d) (x := n) (by omega) (by omega) (by omega)
  unfold meter_within.f
  rw [ratioOf (by unfold i64; omega) (by unfold i64; omega), hq]
  simp only [Option.bind_some, ratio_Right.f, ratio_Compare.f]
  rw [ha.1.right, if_pos rfl]
  have hs := ha.sgn (by omega)
  rw [at_cmp (by omega) ha (hat.more D)]
  by_cases c : 0 ≤ t
  · rw [if_pos (by omega)]
    congr 1
    rw [Bool.eq_iff_iff, decide_eq_true_iff, decide_eq_true_iff]
    by_cases c1 : t < n * D
    · simp [c1, c]
    · rw [if_neg c1]; split <;> omega
  · rw [if_neg (by omega)]
    congr 1
    symm; rw [decide_eq_false_iff_not]; omega
theorem part_iff {d D t x y : Int} (hd : 1 ≤ d) (hD : 1 ≤ D) (ha : At (d * D) t x y) : Int.tmod d y = 0 ↔ t % D = 0 := by
  have hp := ha.1.pos
  have e := ha.2
  rw [Int.tmod_eq_emod_of_nonneg (by omega)]
  constructor
  · intro h
    obtain ⟨c, hc⟩ := Int.dvd_of_emod_eq_zero h
    have e2 : t * y = (x * c * D) * y := by rw [← e, hc]; ac_rfl
    have e3 := Int.eq_of_mul_eq_mul_right (by omega) e2
    rw [e3]; exact Int.mul_emod_left _ _
  · intro h
    obtain ⟨c, hc⟩ := Int.dvd_of_emod_eq_zero h
    have e2 : (x * d) * D = (c * y) * D := by rw [Int.mul_assoc, e, hc]; ac_rfl
    have e3 := Int.eq_of_mul_eq_mul_right (by omega) e2
    have h4 : y ∣ x * d := ⟨c, by rw [e3, Int.mul_comm]⟩
    exact Int.emod_eq_zero_of_dvd (dvd_of_gcd h4 ha.1.2.2.2.2)
/-- How heavy a place is, in parts of parts. -/
def wI (B : List Int) (D t : Int) : Int := if t = 0 then 3 else if t ∈ B then 2 else if t % D = 0 then 1 else 0
theorem weight_f {n d : Int} {l : List Int} (h : GM n d l) {D t x y : Int} (h1 : 1 ≤ D) (h2 : D ≤ 12) (ha : At (d * D) t x y) (h0 : 0 ≤ t) (ht : t < n * D) {k : Nat} (hk : 40 ≤ k) : meter_Weight.f k n d l x y = some (wI (BI n d l D) D t, 0) := by
  have hl := h.len
  have hd := h.d64
  have hN := nd_bd hd.1 hd.2 h1 h2
  unfold meter_Weight.f
  rw [right_f (by omega) (by omega), h.right]
  simp only [Option.bind_some, if_true]
  rw [within_f h h1 h2 ha, decide_eq_true ⟨h0, ht⟩]
  simp only [Option.bind_some, if_true]
  have hs := ha.sgn (by omega)
  have hp := ha.1.pos
  unfold wI
  by_cases c : t = 0
  · rw [if_pos (hs.2.2.2 c), if_pos c]
  rw [if_neg (fun e => c (hs.2.2.1 e)), if_neg c, if_pos ⟨h.good, by omega⟩]
  have hm := AtP.mem (by omega) ha (beats_at h D)
  have hpi := part_iff hd.1 h1 ha
  by_cases c2 : t ∈ BI n d l D
  · rw [if_pos (hm.2 c2), if_pos c2]
  rw [if_neg (fun e => c2 (hm.1 e)), if_neg c2]
  by_cases c3 : t % D = 0
  · rw [if_pos (hpi.2 c3), if_pos c3]
  · rw [if_neg (fun e => c3 (hpi.1 e)), if_neg c3]
/-- Pieces between points, one behind the other. -/
def pcs : Int → List Int → List Int
  | _, [] => []
  | s, t :: ts => (t - s) :: pcs t ts
theorem pcs_len : ∀ (s : Int) (ts : List Int), (pcs s ts).length = ts.length
  | _, [] => rfl
  | s, t :: ts => by simp [pcs, pcs_len t ts]
theorem cutG_at {N : Int} (hN : 0 < N) (hN2 : N ≤ 1000) : ∀ (pts : List (Int × Int)) (ts : List Int) (s a b : Int) (out : List (Int × Int)), AtP N pts ts → At N s a b → s.natAbs ≤ 500000 → (∀ t ∈ ts, t.natAbs ≤ 500000) →
    ∃ z L, cutG ((a, b), out, 0) pts = some (z, out ++ L, 0) ∧ AtP N L (pcs s ts)
  | [], [], s, a, b, out, _, _, _, _ => ⟨(a, b), [], by rw [cutG, List.append_nil], trivial⟩
  | p :: pts, t :: ts, s, a, b, out, h, hs, b1, b2 => by
    obtain ⟨x, y, hx, hat⟩ := at_sub hN hN2 h.1 hs (b2 t (by simp)) b1
    obtain ⟨z, L, h1, h2⟩ := cutG_at hN hN2 pts ts t p.1 p.2 (out ++ [(x, y)]) h.2 h.1 (b2 t (by simp)) (fun u hu => b2 u (by simp [hu]))
    refine ⟨z, (x, y) :: L, ?_, hat, h2⟩
    rw [cutG]
    simp only [hx, Option.bind_some]
    rw [show mx 0 0 = 0 from rfl]
    rw [show ((p.1, p.2) : Int × Int) = p from rfl] at h1
    rw [h1, List.append_assoc]; rfl
  | [], t :: ts, _, _, _, _, h, _, _, _ => h.elim
  | p :: pts, [], _, _, _, _, h, _, _, _ => h.elim
/-- The beats that lie between two places. -/
def midI (B : List Int) (s e : Int) : List Int := B.filter fun b => decide (s < b) && decide (b < e)
def cutI (B : List Int) (s e : Int) : List Int := pcs s (midI B s e ++ [e])
theorem BI_bd {n d : Int} {l : List Int} (h : GM n d l) {D : Int} (h1 : 1 ≤ D) (h2 : D ≤ 12) {t : Int} (ht : t ∈ BI n d l D) : 0 ≤ t ∧ t ≤ n * D := by
  obtain ⟨g1, g2, g3, g4⟩ := grp_ok h
  unfold BI sums at ht
  rw [List.map_map, List.mem_map] at ht
  obtain ⟨j, _, rfl⟩ := ht
  have hb := sums_bd g2 j
  rw [g1] at hb
  exact ⟨Int.mul_nonneg hb.1 (by omega), Int.mul_le_mul_of_nonneg_right hb.2 (by omega)⟩
theorem cut_f {n d : Int} {l : List Int} (h : GM n d l) {D s t x y p q : Int} (h1 : 1 ≤ D) (h2 : D ≤ 12) (ha : At (d * D) s x y) (hb : At (d * D) t p q) (h0 : 0 ≤ s) (hs : s < n * D) (ht : 0 < t) (hst : s + t ≤ n * D) {k : Nat} (hk : 40 ≤ k) :
    ∃ L, meter_Cut.f k n d l x y p q = some (rowsP L, 0) ∧ AtP (d * D) L (cutI (BI n d l D) s (s + t)) := by
  have hl := h.len
  have hd := h.d64
  have a1 := h.n1
  have a2 := h.n2
  have hN := nd_bd hd.1 hd.2 h1 h2
  have hnD := nD_bd a1 a2 h1 h2
  obtain ⟨q1, q2, hq, hat⟩ := at_new (N := d) (x := n) (by omega) (by omega) (by omega)
  obtain ⟨e1, e2, he, hae⟩ := at_add (by omega) (by omega) ha hb (by omega) (by omega)
  have hsq := hb.sgn (by omega)
  have hC := at_cmp (by omega) hae (hat.more D)
  obtain ⟨z, L, hz, hL⟩ := cutG_at (by omega) (by omega) ((beatsP n d l).filter (betB x y e1 e2) ++ [(e1, e2)]) (midI (BI n d l D) s (s + t) ++ [s + t]) s x y [] (by
    refine AtP.append (AtP.filter (beats_at h D) fun u v hu => ?_) ⟨hae, trivial⟩
    unfold betB
    rw [at_cmp (by omega) hu ha, at_cmp (by omega) hu hae]
    congr 1
    · rw [Bool.eq_iff_iff, decide_eq_true_iff, decide_eq_true_iff]
      by_cases c : v < s
      · rw [if_pos c]; omega
      · rw [if_neg c]
        by_cases c2 : s < v
        · rw [if_pos c2]; simp [c2]
        · rw [if_neg c2]; simp [c2]
    · rw [Bool.eq_iff_iff, decide_eq_true_iff, decide_eq_true_iff]
      by_cases c : v < s + t
      · rw [if_pos c]; simp [c]
      · rw [if_neg c]; split <;> simp [c]) ha (by omega) (by
    intro u hu
    rcases List.mem_append.1 hu with hu | hu
    · have := BI_bd h h1 h2 (List.mem_filter.1 hu).1; omega
    · rw [List.mem_singleton.1 hu]; omega)
  refine ⟨L, ?_, hL⟩
  unfold meter_Cut.f
  rw [right_f (by omega) (by omega), h.right]
  simp only [Option.bind_some, if_true]
  rw [within_f h h1 h2 ha, decide_eq_true ⟨h0, hs⟩]
  simp only [Option.bind_some, if_true]
  rw [if_pos hb.1.right, if_neg (by omega), he]
  simp only [Option.bind_some, if_true]
  rw [ratioOf (by unfold i64; omega) (by unfold i64; omega), hq]
  simp only [Option.bind_some]
  rw [if_neg (by rw [hC]; split <;> (try split) <;> omega)]
  unfold cutF
  rw [if_pos h.good, hz]
  simp
end Go.Proofs.Ytbncdlnnjhadgaa.Q
