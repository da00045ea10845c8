/- DynEven: the plain law: where it grows louder evenly it never gets softer on the way, and where it grows softer never louder. No conditions. -/
import Derived.Test.YtiifeheejapegaaDP9
import Derived.Test.YtiifeheejapegaaQ11
namespace Go.Proofs.Ytiifeheejapegaa.Pure
open Go.RowKit Go.Proofs.Ytiifeheejapegaa.Q Go.Proofs.YtiifeheejapegaaW.PrintWords Go.Proofs.YtiifeheejapegaaW.PrintMore
/-- Two levels, a whole note apart. -/
abbrev two (x y : Int) : List S36 := [⟨⟨0, 1⟩, x, true⟩, ⟨⟨1, 1⟩, y, false⟩]
theorem two_lvl {x y a b : Int} {m : Nat} (ha : 0 ≤ a) (_hb : 0 < b) (h : Cut (two x y) a b m) :
    (a < b ∧ levelV (two x y) a b m = if x ≤ y then x + wayV (a * (y - x)) b false else x - wayV (a * (x - y)) b true) ∨ (b ≤ a ∧ levelV (two x y) a b m = y) := by
  obtain ⟨h0, h1, h2⟩ := h
  have r0 : rd_T36 (two x y) 0 = ⟨⟨0, 1⟩, x, true⟩ := rfl
  have r1 : rd_T36 (two x y) 1 = ⟨⟨1, 1⟩, y, false⟩ := rfl
  simp only [List.length_cons, List.length_nil] at h0 h2
  by_cases e0 : m = 0
  · subst e0
    have := h2 0 (by omega) (by omega)
    rw [Int.ofNat_zero, r0] at this
    simp at this; omega
  by_cases e1 : m = 1
  · subst e1
    have q := h2 1 (by omega) (by omega)
    rw [show ((1 : Nat) : Int) = 1 from rfl, r1] at q
    left
    simp only [Int.mul_one, Int.one_mul] at q
    refine ⟨q, ?_⟩
    unfold levelV
    rw [if_neg (by omega), show ((1 : Nat) : Int) - 1 = 0 from rfl, show ((1 : Nat) : Int) = 1 from rfl, r0, r1]
    simp
  · have e2 : m = 2 := by omega
    subst e2
    have q := h1 1 (by omega)
    rw [show ((1 : Nat) : Int) = 1 from rfl, r1] at q
    right
    simp only [Int.mul_one, Int.one_mul] at q
    refine ⟨q, ?_⟩
    unfold levelV
    rw [if_neg (by omega), show ((2 : Nat) : Int) - 1 = 1 from rfl, r1]
    simp
/-- Rounded down it is where it is told to be, or up. -/
theorem wayV_dn {F G : Int} (hG : 0 < G) : G * wayV F G false ≤ F ∧ F < G * wayV F G false + G := by
  have e : wayV F G false = F / G := by unfold wayV; simp
  rw [e]
  have h1 := Int.mul_ediv_add_emod F G
  have h2 := Int.emod_nonneg F (show G ≠ 0 by omega)
  have h3 := Int.emod_lt_of_pos F hG
  omega
theorem wayV_up {F G : Int} (hG : 0 < G) : F ≤ G * wayV F G true ∧ G * wayV F G true < F + G := by
  have h1 := Int.mul_ediv_add_emod F G
  have h2 := Int.emod_nonneg F (show G ≠ 0 by omega)
  have h3 := Int.emod_lt_of_pos F hG
  unfold wayV
  by_cases h : G * (F / G) < F
  · rw [if_pos ⟨rfl, h⟩, Int.mul_add, Int.mul_one]; omega
  · rw [if_neg (fun x => h x.2)]; omega
theorem frac {a b c d s : Int} (h : a * d ≤ c * b) (hs : 0 ≤ s) : a * s * d ≤ c * s * b := by
  have := Int.mul_le_mul_of_nonneg_right h hs
  rw [Int.mul_right_comm a d s, Int.mul_right_comm c b s] at this; exact this
theorem dn_mono {a b c d s : Int} (hb : 0 < b) (hd : 0 < d) (h : a * d ≤ c * b) (hs : 0 ≤ s) : wayV (a * s) b false ≤ wayV (c * s) d false := by
  have h1 := wayV_dn (F := a * s) hb
  have h2 := wayV_dn (F := c * s) hd
  have h3 := frac h hs
  generalize wayV (a * s) b false = u at *
  generalize wayV (c * s) d false = v at *
  have h4 : b * u * d ≤ a * s * d := Int.mul_le_mul_of_nonneg_right h1.1 (by omega)
  have h5 : c * s * b < (d * v + d) * b := Int.mul_lt_mul_of_pos_right h2.2 hb
  have h6 : u * (b * d) < (v + 1) * (b * d) := by
    have e1 : u * (b * d) = b * u * d := by rw [← Int.mul_assoc, Int.mul_comm u b]
    have e2 : (v + 1) * (b * d) = (d * v + d) * b := by rw [Int.add_mul, Int.add_mul, Int.one_mul, Int.mul_comm b d, ← Int.mul_assoc, Int.mul_comm v d]
    omega
  have := Int.lt_of_mul_lt_mul_right h6 (Int.le_of_lt (Int.mul_pos hb hd))
  omega
theorem up_mono {a b c d s : Int} (hb : 0 < b) (hd : 0 < d) (h : a * d ≤ c * b) (hs : 0 ≤ s) : wayV (a * s) b true ≤ wayV (c * s) d true := by
  have h1 := wayV_up (F := a * s) hb
  have h2 := wayV_up (F := c * s) hd
  have h3 := frac h hs
  generalize wayV (a * s) b true = u at *
  generalize wayV (c * s) d true = v at *
  have h4 : b * u * d < (a * s + b) * d := Int.mul_lt_mul_of_pos_right h1.2 hd
  have h5 : c * s * b ≤ d * v * b := Int.mul_le_mul_of_nonneg_right h2.1 (by omega)
  have h6 : u * (b * d) < (v + 1) * (b * d) := by
    have e1 : u * (b * d) = b * u * d := by rw [← Int.mul_assoc, Int.mul_comm u b]
    have e2 : (v + 1) * (b * d) = d * v * b + b * d := by rw [Int.add_mul, Int.one_mul, Int.mul_comm b d, ← Int.mul_assoc, Int.mul_comm v d]
    have e3 : (a * s + b) * d = a * s * d + b * d := by rw [Int.add_mul]
    omega
  have := Int.lt_of_mul_lt_mul_right h6 (Int.le_of_lt (Int.mul_pos hb hd))
  omega
theorem two_mono {x y a b c d : Int} {m n : Nat} (ha : 0 ≤ a) (hb : 0 < b) (hc : 0 ≤ c) (hd : 0 < d) (h : a * d ≤ c * b) (hm : Cut (two x y) a b m) (hn : Cut (two x y) c d n) :
    (x ≤ y → levelV (two x y) a b m ≤ levelV (two x y) c d n) ∧ (¬ x ≤ y → levelV (two x y) c d n ≤ levelV (two x y) a b m) := by
  have in_ : ∀ {a b s : Int} (up : Bool), 0 ≤ a → 0 < b → a < b → 0 ≤ s → 0 ≤ wayV (a * s) b up ∧ wayV (a * s) b up ≤ s := fun {a b s} up h0 h1 h2 h3 => wayV_bd h1 (Int.mul_nonneg h0 h3) (by have := Int.mul_le_mul_of_nonneg_right (Int.le_of_lt h2) h3; exact this)
  rcases two_lvl ha hb hm with ⟨p1, p2⟩ | ⟨p1, p2⟩ <;> rcases two_lvl hc hd hn with ⟨q1, q2⟩ | ⟨q1, q2⟩ <;> rw [p2, q2]
  · constructor
    · intro hxy; rw [if_pos hxy, if_pos hxy]
      have := dn_mono hb hd h (show 0 ≤ y - x by omega); omega
    · intro hxy; rw [if_neg hxy, if_neg hxy]
      have := up_mono hb hd h (show 0 ≤ x - y by omega); omega
  · constructor
    · intro hxy; rw [if_pos hxy]
      have := in_ false ha hb p1 (show 0 ≤ y - x by omega); omega
    · intro hxy; rw [if_neg hxy]
      have := in_ true ha hb p1 (show 0 ≤ x - y by omega); omega
  · exfalso
    have h1 : b * d ≤ a * d := Int.mul_le_mul_of_nonneg_right p1 (by omega)
    have h2 : c * b < d * b := Int.mul_lt_mul_of_pos_right q1 hb
    rw [Int.mul_comm d b] at h2; omega
  · exact ⟨fun _ => Int.le_refl _, fun _ => Int.le_refl _⟩
theorem DynEven : ∀ (a0 : Int) (a1 : Int) (x2 : S38), ((Lit.int .u8 a0).wf = true) → ((Lit.int .u8 a1).wf = true) → (wf38 x2) → ∃ k, partitalaw12_DynEven.f k a0 a1 x2.f0.f0 x2.f0.f1 x2.f1.f0 x2.f1.f1 = some true := by
  intro a0 a1 x h0 h1 hx
  have b0 : 0 ≤ a0 ∧ a0 ≤ 255 := by simp only [Lit.wf, IntKind.min, IntKind.max, IntKind.signed, IntKind.bits, Bool.and_eq_true] at h0; simp at h0; omega
  have b1 : 0 ≤ a1 ∧ a1 ≤ 255 := by simp only [Lit.wf, IntKind.min, IntKind.max, IntKind.signed, IntKind.bits, Bool.and_eq_true] at h1; simp at h1; omega
  refine ⟨5000, ?_⟩
  unfold partitalaw12_DynEven.f partitalaw12_hair.f
  rw [awake_f (by omega), Option.bind_some, Option.bind_some]
  rw [wrap64_id (n := a0) (by unfold i64; omega), wrap64_id (n := a1) (by unfold i64; omega), tmod_pos b0.1, tmod_pos b1.1, wrap64_id (n := 1 + a0 % 127) (by unfold i64; omega), wrap64_id (n := 1 + a1 % 127) (by unfold i64; omega)]
  generalize hu : 1 + a0 % 127 = u
  generalize hv : 1 + a1 % 127 = v
  have i0 := i64_of hx.1.1
  have i1 := i64_of hx.1.2
  have i2 := i64_of hx.2.1
  have i3 := i64_of hx.2.2
  have hin : In36 (two u v) := by
    intro d hd
    simp only [List.mem_cons, List.not_mem_nil, or_false] at hd
    rcases hd with rfl | rfl <;> (refine ⟨?_, ?_, ?_⟩ <;> (unfold i64; simp; try omega))
  obtain ⟨⟨n, e⟩, hr, hp, _⟩ := level_f (l := two u v) (by simp) hin i0 i1
  obtain ⟨⟨m, f⟩, hs, hq, _⟩ := level_f (l := two u v) (by simp) hin i2 i3
  rw [hp 5000 (by omega), Option.bind_some, hq 5000 (by omega), Option.bind_some]
  simp only [partitalaw12_DynEven.j0]
  generalize x.f0.f0 = a at *
  generalize x.f0.f1 = b at *
  generalize x.f1.f0 = c at *
  generalize x.f1.f1 = d at *
  by_cases he : e = 0
  · by_cases hf : f = 0
    · rw [if_pos he, if_pos hf]
      unfold ratio_Compare.f
      rw [Option.bind_some]
      subst he hf
      cases hr with
      | ok m1 g1 r1 z1 k1 =>
        cases hs with
        | ok m2 g2 r2 z2 k2 =>
          rw [cmpI_rt i0 i1 i2 i3 r1 r2]
          by_cases h : a * d ≤ c * b
          · have key := two_mono z1 r1.pos z2 r2.pos h k1 k2
            have hd : decide ((if a * d < c * b then (-1 : Int) else if c * b < a * d then 1 else 0) > 0) = false := by
              apply decide_eq_false; split <;> (try split) <;> omega
            rw [hd, if_neg (by decide), if_pos (by simp), if_pos (by simp)]
            show (if u ≤ v then _ else _) = _
            by_cases huv : u ≤ v
            · rw [if_pos huv, if_pos trivial, decide_eq_true (key.1 huv)]
            · rw [if_neg huv, if_pos trivial, decide_eq_true (key.2 huv)]
          · have hd : decide ((if a * d < c * b then (-1 : Int) else if c * b < a * d then 1 else 0) > 0) = true := by
              apply decide_eq_true; rw [if_neg (by omega), if_pos (by omega)]; omega
            rw [hd, if_pos rfl]
    · rw [if_pos he, if_neg hf, if_pos trivial]
  · rw [if_neg he, if_pos trivial]
end Go.Proofs.Ytiifeheejapegaa.Pure
