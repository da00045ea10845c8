/- Plain facts on a leg: how long it takes, how fast it goes at its end. No conditions. -/
import Derived.Test.YtchjlkokfgmjaaaTP1
import Derived.WalkSmall
namespace Go.Proofs.Ytchjlkokfgmjaaa.Q
open Go.RowKit Go.Proofs.YtchjlkokfgmjaaaW.PrintWords Go.Proofs.YtchjlkokfgmjaaaW.PrintMore
set_option linter.unusedVariables false
set_option linter.unusedSimpArgs false
theorem and_low (x : Int) (h0 : 0 ≤ x) (h1 : x ≤ 18446744073709551615) : Go.bits .and .u64 x 4294967295 = x % 4294967296 := by
  have h := bits_and_u64_nat x.toNat 4294967295 (by omega) (by omega)
  rw [show (4294967295 : Nat) = 2 ^ 32 - 1 from rfl, Nat.and_two_pow_sub_one_eq_mod, Int.toNat_of_nonneg h0] at h
  refine h.trans ?_
  omega
theorem u64_id {n : Int} (h0 : 0 ≤ n) (h1 : n ≤ 18446744073709551615) : IntKind.u64.wrap n = n := by rw [wrapU]; omega
theorem mul64 {a b : Int} (ha : 0 ≤ a) (ha1 : a ≤ 18446744073709551615) (hb : 0 ≤ b) (hb1 : b ≤ 18446744073709551615) (hp : a * b ≤ 18446744073709551615) : bits_Mul64.f a b = some (0, a * b) := by
  unfold bits_Mul64.f
  rw [and_low a ha ha1, and_low b hb hb1]
  have h0 := Int.mul_nonneg ha hb
  have ea : a = a / 4294967296 * 4294967296 + a % 4294967296 := by omega
  have eb : b = b / 4294967296 * 4294967296 + b % 4294967296 := by omega
  have p1 : 0 ≤ a / 4294967296 := by omega
  have p2 : 0 ≤ a % 4294967296 := by omega
  have p3 : 0 ≤ b / 4294967296 := by omega
  have p4 : 0 ≤ b % 4294967296 := by omega
  have l2 : a % 4294967296 < 4294967296 := by omega
  have l4 : b % 4294967296 < 4294967296 := by omega
  generalize a / 4294967296 = a1 at *
  generalize a % 4294967296 = a0 at *
  generalize b / 4294967296 = b1 at *
  generalize b % 4294967296 = b0 at *
  have e : a * b = (a1 * b1) * 18446744073709551616 + (a1 * b0 + a0 * b1) * 4294967296 + a0 * b0 := by
    rw [ea, eb, Int.add_mul, Int.mul_add, Int.mul_add]
    rw [show a1 * 4294967296 * (b1 * 4294967296) = (a1 * b1) * (4294967296 * 4294967296) by ac_rfl, show a1 * 4294967296 * b0 = (a1 * b0) * 4294967296 by ac_rfl, show a0 * (b1 * 4294967296) = (a0 * b1) * 4294967296 by ac_rfl]
    omega
  have q11 := Int.mul_nonneg p1 p3
  have q10 := Int.mul_nonneg p1 p4
  have q01 := Int.mul_nonneg p2 p3
  have q00 := Int.mul_nonneg p2 p4
  generalize a * b = ab at *
  generalize a1 * b1 = x11 at *
  generalize a1 * b0 = x10 at *
  generalize a0 * b1 = x01 at *
  generalize a0 * b0 = x00 at *
  clear ea eb
  have z11 : x11 = 0 := by omega
  subst z11
  rw [u64_id (n := x00) (by omega) (by omega), u64_id (n := x10) (by omega) (by omega), u64_id (n := x01) (by omega) (by omega), u64_id (n := 0) (by omega) (by omega), u64_id (n := ab) (by omega) (by omega)]
  rw [u64_id (n := x10 + x00 / 4294967296) (by omega) (by omega), and_low _ (by omega) (by omega), u64_id (n := (x10 + x00 / 4294967296) % 4294967296 + x01) (by omega) (by omega), u64_id (n := 0 + (x10 + x00 / 4294967296) / 4294967296) (by omega) (by omega), u64_id (by omega) (by omega)]
  congr 2
  omega
/-- Rounded down, by equal shares. -/
theorem div_same {p q p' q' : Int} (hq : 0 < q) (hq' : 0 < q') (h : p * q' = p' * q) : p / q = p' / q' := by
  have h1 : p / q = (p * q') / (q * q') := (Int.mul_ediv_mul_of_pos_left p q hq').symm
  have h2 : p' / q' = (p' * q) / (q' * q) := (Int.mul_ediv_mul_of_pos_left p' q' hq).symm
  rw [h1, h2, h, Int.mul_comm q q']
/-- A leg's time: f 96ths of w, from m on, by `more` over all w. -/
def legT (m more f w : Int) : Int := (f * (4 * m * w + 2 * more * f)) / (96 * w)
theorem time_f {A M n : Int} {R : Bool} {fn fd sn sd more f w : Int} (hm : 100000 ≤ M ∧ M ≤ 4000000) (hmo : 100000 ≤ M + more ∧ M + more ≤ 4000000) (hf : At f fn fd) (hf0 : 0 ≤ f) (hf1 : f ≤ 9600001) (s1 : 1 ≤ sd) (s2 : 0 ≤ sn) (s5 : more * (sn * w) = more * (f * sd)) (hsd : sn ≤ sd) (hsd2 : sd ≤ 2000) (hw : 0 < w) (hb : sn = 0 ∧ sd = 1 ∨ f ≤ 2000) :
    tempo_leg_time.f A n M R fn fd sn sd more = some (legT M more f w) := by
  have n1 := hf.num hf0
  have q1 := hf.den
  have hmsd := bd (a := M) (b := sd) (A := 4000000) (B := 2000) (by omega) (by omega) (by omega) (by omega)
  have e1 : 4 * M * sd = 4 * (M * sd) := Int.mul_assoc _ _ _
  have e2 : 2 * more * sn = 2 * (more * sn) := Int.mul_assoc _ _ _
  have b1 : -(M * sd) ≤ more * sn ∧ more * sn ≤ 4000000 * 2000 := by
    have t1 : (-M) * sn ≤ more * sn := Int.mul_le_mul_of_nonneg_right (by omega) s2
    have t2 : M * sn ≤ M * sd := Int.mul_le_mul_of_nonneg_left hsd (by omega)
    have t3 : more * sn ≤ 4000000 * sn := Int.mul_le_mul_of_nonneg_right (by omega) s2
    rw [Int.neg_mul] at t1
    omega
  have k0 : 0 ≤ 4 * M * sd + 2 * more * sn := by omega
  have k1 : 4 * M * sd + 2 * more * sn ≤ 48000000000 := by omega
  have hk : fn * (4 * M * sd + 2 * more * sn) ≤ 18446744073709551615 ∧ 0 ≤ fn * (4 * M * sd + 2 * more * sn) ∧ fn * (4 * M * sd + 2 * more * sn) ≤ 9000000000000000000 := by
    rcases hb with ⟨h1, h2⟩ | h1
    · have := bd (a := fn) (b := 4 * M * sd + 2 * more * sn) (A := 9600001) (B := 16000000) (by omega) (by omega) (by omega) (by subst h1 h2; omega)
      omega
    · have := bd (a := fn) (b := 4 * M * sd + 2 * more * sn) (A := 2000) (B := 48000000000) (by omega) (by omega) (by omega) (by omega)
      omega
  unfold tempo_leg_time.f
  rw [wrap64_id (n := 4 * M) (by unfold i64; omega), wrap64_id (n := 4 * M * sd) (by unfold i64; omega), wrap64_id (n := 2 * more) (by unfold i64; omega), wrap64_id (n := 2 * more * sn) (by unfold i64; omega), wrap64_id (n := 4 * M * sd + 2 * more * sn) (by unfold i64; omega)]
  rw [u64_id (n := fn) (by omega) (by omega), u64_id (n := 4 * M * sd + 2 * more * sn) (by omega) (by omega), mul64 (by omega) (by omega) (by omega) (by omega) hk.1, Option.bind_some]
  have hfs := bd (a := fd) (b := sd) (A := 96) (B := 2000) (by omega) (by omega) (by omega) (by omega)
  have hfs1 : 0 < fd * sd := Int.mul_pos (by omega) (by omega)
  rw [u64_id (n := fd) (by omega) (by omega), u64_id (n := sd) (by omega) (by omega), u64_id (n := fd * sd) (by omega) (by omega)]
  unfold bits_Div64.f
  simp only
  rw [if_pos ⟨trivial, hfs1, hk.2.1⟩, Option.bind_some]
  simp only
  have hq0 : 0 ≤ fn * (4 * M * sd + 2 * more * sn) / (fd * sd) := Int.ediv_nonneg hk.2.1 (by omega)
  have hq1 : fn * (4 * M * sd + 2 * more * sn) / (fd * sd) ≤ fn * (4 * M * sd + 2 * more * sn) := Int.ediv_le_self _ hk.2.1
  rw [Int.tdiv_eq_ediv_of_nonneg hk.2.1, u64_id hq0 (by omega), wrap64_id (by unfold i64; omega)]
  congr 1
  unfold legT
  refine div_same hfs1 (by omega) ?_
  have e := hf.2
  -- fn*96 = f*fd, sn*w = f*sd
  have g1 : fn * (4 * M * sd + 2 * more * sn) * (96 * w) = (fn * 96) * (4 * M * (sd * w) + 2 * more * (sn * w)) := by
    rw [show fn * (4 * M * sd + 2 * more * sn) * (96 * w) = (fn * 96) * ((4 * M * sd + 2 * more * sn) * w) by ac_rfl, Int.add_mul]
    rw [show 4 * M * sd * w = 4 * M * (sd * w) by ac_rfl, show 2 * more * sn * w = 2 * more * (sn * w) by ac_rfl]
  rw [g1, e, Int.mul_assoc 2 more (sn * w), s5, ← Int.mul_assoc 2 more (f * sd)]
  rw [show f * (4 * M * w + 2 * more * f) * (fd * sd) = (f * fd) * ((4 * M * w + 2 * more * f) * sd) by ac_rfl, Int.add_mul]
  rw [show 4 * M * w * sd = 4 * M * (sd * w) by ac_rfl, show 2 * more * f * sd = 2 * more * (f * sd) by ac_rfl]
theorem down_f {n d : Int} (hd : 0 < d) (hd1 : d ≤ 1000000) (hn : -1000000000000 ≤ n) (hn1 : n ≤ 1000000000000) : tempo_down.f n d = some (n / d) := by
  unfold tempo_down.f
  have hq := Int.mul_tdiv_add_tmod n d
  have hm := Int.tmod_lt_of_pos n hd
  have hz := Int.lt_tmod_of_pos n hd
  have hs : n < 0 → Int.tmod n d ≤ 0 := fun h => by have := Int.tmod_nonneg d (show 0 ≤ -n by omega); rw [Int.neg_tmod] at this; omega
  have hs2 : 0 ≤ n → 0 ≤ Int.tmod n d := fun h => Int.tmod_nonneg d h
  generalize Int.tdiv n d = q at *
  generalize Int.tmod n d = r at *
  have hqd : q * d = d * q := Int.mul_comm _ _
  have bq : -1000000000000 ≤ q ∧ q ≤ 1000000000000 := by
    constructor
    · by_cases h : -1000000000000 ≤ q
      · exact h
      · have : d * q ≤ 1 * q := Int.mul_le_mul_of_nonpos_right (by omega) (by omega)
        have := Int.mul_lt_mul_of_pos_left (show q < -1000000000000 by omega) hd
        omega
    · by_cases h : q ≤ 1000000000000
      · exact h
      · have : 1 * q ≤ d * q := Int.mul_le_mul_of_nonneg_right (by omega) (by omega)
        by_cases hn : n < 0
        · have := hs hn; omega
        · have := hs2 (by omega); omega
  rw [if_neg (by omega), wrap64_id (n := q) (by unfold i64; omega), wrap64_id (n := q * d) (by unfold i64; omega)]
  by_cases hc : q * d > n
  · rw [if_pos hc, wrap64_id (by unfold i64; omega)]
    congr 1
    symm
    rw [Int.ediv_eq_iff_of_pos hd]
    rw [Int.sub_mul]
    omega
  · rw [if_neg hc]
    congr 1
    symm
    rw [Int.ediv_eq_iff_of_pos hd]
    omega
/-- How fast a leg goes at its end. -/
def legR (m more f w : Int) : Int := m + (more * f) / w
theorem rate_f {A M n : Int} {R : Bool} {fn fd sn sd more f w : Int} (hm : 100000 ≤ M ∧ M ≤ 4000000) (hmo : 100000 ≤ M + more ∧ M + more ≤ 4000000) (s1 : 1 ≤ sd) (s2 : 0 ≤ sn) (s5 : more * (sn * w) = more * (f * sd)) (hsd : sn ≤ sd) (hsd2 : sd ≤ 2000) (hw : 0 < w) :
    tempo_leg_rate.f A n M R fn fd sn sd more = some (legR M more f w) := by
  have b1 : -4000000 * 2000 ≤ more * sn ∧ more * sn ≤ 4000000 * 2000 := by
    have t1 : (-4000000) * sn ≤ more * sn := Int.mul_le_mul_of_nonneg_right (by omega) s2
    have t3 : more * sn ≤ 4000000 * sn := Int.mul_le_mul_of_nonneg_right (by omega) s2
    omega
  unfold tempo_leg_rate.f legR
  rw [wrap64_id (n := more * sn) (by unfold i64; omega), down_f (by omega) (by omega) (by omega) (by omega), Option.bind_some]
  have hd : (more * sn) / sd = (more * f) / w := div_same (by omega) hw (by rw [Int.mul_assoc, s5]; ac_rfl)
  have h1 : (more * sn) / sd ≤ 4000000 * 2000 := by
    refine Int.ediv_le_of_le_mul (by omega) ?_
    have : (4000000 * 2000 : Int) * 1 ≤ 4000000 * 2000 * sd := Int.mul_le_mul_of_nonneg_left (by omega) (by omega)
    omega
  have h2 : -4000000 * 2000 ≤ (more * sn) / sd := by
    rw [Int.le_ediv_iff_mul_le (by omega)]
    have : (-4000000 * 2000 : Int) * sd ≤ -4000000 * 2000 * 1 := Int.mul_le_mul_of_nonpos_left (by omega) (by omega)
    omega
  rw [hd] at h1 h2 ⊢
  rw [wrap64_id (by unfold i64; omega)]
end Go.Proofs.Ytchjlkokfgmjaaa.Q
