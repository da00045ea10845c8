/- DynStays: the plain law: where no Hair is set it stays as it was told last. No conditions. -/
import Derived.Test.YtiifeheejapegaaDP8
import Derived.Test.YtiifeheejapegaaQ12
namespace Go.Proofs.Ytiifeheejapegaa.Pure
open Go.RowKit Go.Proofs.Ytiifeheejapegaa.Q Go.Proofs.YtiifeheejapegaaW.PrintWords Go.Proofs.YtiifeheejapegaaW.PrintMore
/-- Without its Hair. -/
def bare (d : S36) : S36 := ⟨⟨d.f0.f0, d.f0.f1⟩, d.f1, false⟩
theorem rd_bare {l : List S36} {j : Int} (h0 : 0 ≤ j) (h : j < l.length) : rd_T36 (l.map bare) j = bare (rd_T36 l j) := by
  obtain ⟨n, rfl⟩ : ∃ n : Nat, j = n := ⟨j.toNat, by omega⟩
  rw [rd_get (by rw [List.length_map]; omega), rd_get (by omega), List.getElem_map]
/-- The level told last among the first i ones, m being not above the place. -/
def wantV (l : List S36) (i m : Nat) : Int := if min i m = 0 then 80 else (rd_T36 l ((min i m : Nat) - 1 : Int)).f1
theorem stays_l1 {l : List S36} {n a b : Int} {m : Nat} (hl : l.length ≤ 20) (hm : Cut (l.map bare) a b m) (hin : In36 (l.map bare)) (hg : Q.Good (l.map bare)) (hr : Rt a b) (ha : i64 a) (hb : i64 b) (hn : n = wantV l l.length m) :
    ∀ (d k i : Nat), i + d = l.length → d < k → partitalaw12_DynStays.l1 k l true n (wantV l i m) i a b = some true := by
  have hlen : (l.map bare).length = l.length := List.length_map _
  obtain ⟨m0, m1, m2⟩ := hm
  rw [hlen] at m0 m2
  intro d
  induction d with
  | zero =>
    intro k i hi hk
    obtain ⟨k, rfl⟩ : ∃ m, k = m + 1 := ⟨k - 1, by omega⟩
    simp only [partitalaw12_DynStays.l1]
    obtain rfl : i = l.length := by omega
    rw [if_neg (by omega), if_pos trivial, hn]
    simp
  | succ d ih =>
    intro k i hi hk
    obtain ⟨k, rfl⟩ : ∃ m, k = m + 1 := ⟨k - 1, by omega⟩
    simp only [partitalaw12_DynStays.l1]
    have hd := (hg.rt hin (j := i) (by rw [hlen]; omega)).1
    have h4 := hin.at (i := (i : Int)) (by omega) (by rw [hlen]; omega)
    rw [rd_bare (by omega) (by omega)] at hd h4
    simp only [bare] at hd h4
    rw [if_pos (by omega), if_pos (by omega), ratio_Compare.f, Option.bind_some, wrap64_id (n := (i : Int) + 1) (by unfold i64; omega), cmpI_rt h4.1 h4.2.1 ha hb hd hr]
    have := ih k (i + 1) (by omega) (by omega)
    rw [show ((i + 1 : Nat) : Int) = (i : Int) + 1 by omega] at this
    by_cases him : i < m
    · have q := m1 i him
      rw [rd_bare (by omega) (by omega)] at q
      simp only [bare] at q
      rw [if_pos (by split <;> (try split) <;> omega)]
      have e : wantV l (i + 1) m = (rd_T36 l i).f1 := by
        unfold wantV
        rw [show min (i + 1) m = i + 1 by omega, if_neg (by omega), show ((i + 1 : Nat) : Int) - 1 = i by omega]
      rw [← e]; exact this
    · have q := m2 i (by omega) (by omega)
      rw [rd_bare (by omega) (by omega)] at q
      simp only [bare] at q
      rw [if_neg (by split <;> (try split) <;> omega)]
      have e : wantV l (i + 1) m = wantV l i m := by
        unfold wantV
        rw [show min (i + 1) m = min i m by omega]
      rw [← e]; exact this
theorem stays_l0 {l : List S36} {a b : Int} (hl : l.length ≤ 20) {K : Nat} (h : ∀ k, K < k → ((dyn_Level.f k (l.map bare) a b).bind fun bt => (if bt.2 = 0 then (partitalaw12_DynStays.l1 k l true bt.1 80 0 a b) else (if (true : Bool) = true then (some (bt.1 == 0)) else (some false)))) = some true) :
    ∀ (d k i : Nat), i + d = l.length → d + K + 1 < k → partitalaw12_DynStays.l0 k l true ((l.map bare).take i) i a b = some true := by
  intro d
  induction d with
  | zero =>
    intro k i hi hk
    obtain ⟨k, rfl⟩ : ∃ m, k = m + 1 := ⟨k - 1, by omega⟩
    simp only [partitalaw12_DynStays.l0]
    rw [if_neg (by omega), List.take_of_length_le (by rw [List.length_map]; omega)]
    exact h k (by omega)
  | succ d ih =>
    intro k i hi hk
    obtain ⟨k, rfl⟩ : ∃ m, k = m + 1 := ⟨k - 1, by omega⟩
    simp only [partitalaw12_DynStays.l0]
    have hlen : (l.map bare).length = l.length := List.length_map _
    have e : (l.map bare).take i ++ [⟨⟨(rd_T36 l i).f0.f0, (rd_T36 l i).f0.f1⟩, (rd_T36 l i).f1, false⟩] = (l.map bare).take (i + 1) := by
      rw [List.take_succ_eq_append_getElem (by rw [hlen]; omega)]
      congr 1
      rw [List.getElem_map, ← rd_get (by omega)]
      rfl
    rw [if_pos (by omega), if_pos (by omega), if_pos (by rw [List.length_take]; omega), e, wrap64_id (n := (i : Int) + 1) (by unfold i64; omega)]
    have := ih k (i + 1) (by omega) (by omega)
    rwa [show ((i + 1 : Nat) : Int) = (i : Int) + 1 by omega] at this
theorem DynStays : ∀ (l0 : List (S36)) (x1 : S29), (l0.length * 32 ≤ 140737488351232 ∧ ∀ y ∈ l0, wf36 y) → (wf29 x1) → ∃ k, partitalaw12_DynStays.f k l0 x1.f0 x1.f1 = some true := by
  intro l x hw hx
  refine ⟨6000, ?_⟩
  unfold partitalaw12_DynStays.f
  rw [awake_f (by omega), Option.bind_some]
  by_cases hl : (l.length : Int) > 20
  · rw [if_pos hl]
  · rw [if_neg hl]
    have i0 := i64_of hx.1
    have i1 := i64_of hx.2
    have hin : In36 (l.map bare) := by
      intro d hd
      obtain ⟨y, hy, rfl⟩ := List.mem_map.1 hd
      exact in36_of hw.2 y hy
    obtain ⟨⟨n, e⟩, hr, h1, _⟩ := level_f (l := l.map bare) (by rw [List.length_map]; omega) hin i0 i1
    have key : ∀ k, 3100 < k → ((dyn_Level.f k (l.map bare) x.f0 x.f1).bind fun bt => (if bt.2 = 0 then (partitalaw12_DynStays.l1 k l true bt.1 80 0 x.f0 x.f1) else (if (true : Bool) = true then (some (bt.1 == 0)) else (some false)))) = some true := by
      intro k hk
      rw [h1 k (by omega), Option.bind_some]
      cases hr with
      | bad _ _ => simp
      | arg _ _ => simp
      | ok m g r z c =>
        have hw0 : (80 : Int) = wantV l 0 m := by unfold wantV; rw [Nat.zero_min, if_pos rfl]
        simp only [if_true]
        rw [hw0]
        have hc := c
        obtain ⟨m0, _, _⟩ := hc
        rw [List.length_map] at m0
        refine stays_l1 (by omega) c hin g r i0 i1 ?_ l.length k 0 (by omega) (by omega)
        unfold levelV wantV
        rw [show min l.length m = m by omega]
        by_cases hm : m = 0
        · rw [if_pos hm, if_pos hm]
        · rw [if_neg hm, if_neg hm, rd_bare (by omega) (by omega)]
          simp only [bare, or_true, if_true]
    exact stays_l0 (by omega) key l.length 6000 0 (by omega) (by omega)
end Go.Proofs.Ytiifeheejapegaa.Pure
