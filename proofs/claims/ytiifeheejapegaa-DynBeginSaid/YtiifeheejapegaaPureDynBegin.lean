import Derived.Test.YtiifeheejapegaaDP8
import Derived.Test.YtiifeheejapegaaQ13
namespace Go.Proofs.Ytiifeheejapegaa.Pure
open Go.RowKit Go.Proofs.Ytiifeheejapegaa.Q Go.Proofs.YtiifeheejapegaaW.PrintWords
theorem rd_take {l : List S36} {n : Nat} {i : Int} (h0 : 0 ≤ i) (h : i < n) : rd_T36 (l.take n) i = rd_T36 l i := by
  unfold rd_T36
  rw [List.getD_eq_getElem?_getD, List.getD_eq_getElem?_getD, List.getElem?_take_of_lt (by omega)]
theorem badB_take {l : List S36} {n i : Nat} (h : i < n) : badB (l.take n) i = badB l i := by
  unfold badB
  rw [rd_take (by omega) (by omega)]
  by_cases h0 : 0 < i
  · rw [rd_take (by omega) (by omega)]
  · rw [decide_eq_false h0]; simp
theorem DynBegin : ∀ (l0 : List (S36)) (x1 : S29) (a2 : Int), (l0.length * 32 ≤ 140737488351232 ∧ ∀ y ∈ l0, wf36 y) → (wf29 x1) → ((Lit.int .u8 a2).wf = true) → ∃ k, partitalaw12_DynBegin.f k l0 x1.f0 x1.f1 a2 = some true := by
  intro l x n hw hx hn
  have hn2 : 0 ≤ n ∧ n ≤ 255 := by simp [Lit.wf, IntKind.min, IntKind.max, IntKind.signed, IntKind.bits] at hn; omega
  have hin := in36_of hw.2
  refine ⟨5000, ?_⟩
  unfold partitalaw12_DynBegin.f
  rw [awake_f (by omega), Option.bind_some]
  by_cases hl : (l.length : Int) > 20
  · rw [if_pos hl]
  · obtain ⟨r, hr, h1, _⟩ := level_f (l := l) (by omega) hin (i64_of hx.1) (i64_of hx.2)
    rw [if_neg hl, wrap64_id (n := (l.length : Int) + 1) (by unfold i64; omega), if_neg (by omega), h1 5000 (by omega), Option.bind_some, wrap64_id (n := n) (by unfold i64; omega)]
    have hk0 : 0 ≤ Int.tmod n ((l.length : Int) + 1) := Int.tmod_nonneg _ hn2.1
    have hk1 : Int.tmod n ((l.length : Int) + 1) < (l.length : Int) + 1 := Int.tmod_lt_of_pos _ (by omega)
    generalize Int.tmod n ((l.length : Int) + 1) = q at *
    by_cases he : r.2 = 0
    · rw [if_pos he]
      by_cases hq : q = 0
      · rw [if_pos hq]
      · rw [if_neg hq, wrap64_id (n := q - 1) (by unfold i64; omega), if_pos (by omega), if_pos (by omega)]
        simp only [ratio_Compare.f, Option.bind_some]
        cases hr with
        | bad _ _ => simp at he
        | arg _ _ => simp at he
        | ok m hg hrt h0 hm =>
          have hq2 := hg.rt hin (show (q - 1).toNat < l.length by omega)
          rw [show (((q - 1).toNat : Nat) : Int) = q - 1 by omega] at hq2
          have hq3 := hin.at (i := q - 1) (by omega) (by omega)
          rw [cmpI_rt (i64_of hx.1) (i64_of hx.2) hq3.1 hq3.2.1 hrt hq2.1]
          by_cases hc : x.f0 * (rd_T36 l (q - 1)).f0.f1 ≤ (rd_T36 l (q - 1)).f0.f0 * x.f1
          · have hmq : m < q.toNat ∨ m = q.toNat := by
              by_cases hh : m ≤ q.toNat
              · omega
              · have h3 := hm.2.1 q.toNat (by omega)
                have h4 := hg.lt_of hin (show (q - 1).toNat < q.toNat by omega) (show q.toNat < l.length by have := hm.1; omega)
                rw [show (((q - 1).toNat : Nat) : Int) = q - 1 by omega] at h4
                have hq4 := hg.rt hin (show q.toNat < l.length by have := hm.1; omega)
                have h5 := lt_trans_ hrt.pos hq2.1.pos hq4.1.pos hc h4
                omega
            have hno : ¬ (if x.f0 * (rd_T36 l (q - 1)).f0.f1 < (rd_T36 l (q - 1)).f0.f0 * x.f1 then (-1 : Int) else if (rd_T36 l (q - 1)).f0.f0 * x.f1 < x.f0 * (rd_T36 l (q - 1)).f0.f1 then 1 else 0) > 0 := by
              split
              · omega
              · rw [if_neg (by omega)]; omega
            rw [if_neg hno, if_pos (by omega), if_pos (by omega)]
            have hin2 : In36 (l.take q.toNat) := fun d hd => hin d (List.mem_of_mem_take hd)
            have hlen : (l.take q.toNat).length = q.toNat := by rw [List.length_take]; omega
            have hg2 : Q.Good (l.take q.toNat) := by
              intro j hj
              rw [hlen] at hj
              rw [badB_take hj]; exact hg j (by omega)
            have hcut : Cut (l.take q.toNat) x.f0 x.f1 m := by
              refine ⟨by rw [hlen]; omega, fun j hj => ?_, fun j h6 h7 => ?_⟩
              · rw [rd_take (by omega) (by omega)]; exact hm.2.1 j hj
              · rw [hlen] at h7; rw [rd_take (by omega) (by omega)]; exact hm.2.2 j h6 (by omega)
            have hrb : rightB x.f0 x.f1 = true ∧ 0 ≤ x.f0 := ⟨(rightB_iff (i64_of hx.1) (i64_of hx.2)).2 hrt, h0⟩
            have hv : dyn_Level.f 5000 (l.take q.toNat) x.f0 x.f1 = some (levelV (l.take q.toNat) x.f0 x.f1 m, 0) := by
              unfold dyn_Level.f
              rw [if_pos (by rw [hlen]; omega), dyn_Check_f _ (by rw [hlen]; omega) (by omega), Option.bind_some, if_pos (check_ok.2 hg2), if_pos hrb]
              exact (level_both (by rw [hlen]; omega) hin2 hg2 hrt (i64_of hx.1) (i64_of hx.2) hcut (by omega)).1
            rw [hv, Option.bind_some, if_pos trivial, if_pos rfl]
            have hs : levelV l x.f0 x.f1 m = levelV (l.take q.toNat) x.f0 x.f1 m := by
              unfold levelV
              by_cases hm0 : m = 0
              · rw [if_pos hm0, if_pos hm0]
              · rw [if_neg hm0, if_neg hm0, rd_take (by omega) (by omega)]
                simp only [hlen]
                by_cases e : m = q.toNat
                · have hle := hm.2.1 (q.toNat - 1) (by omega)
                  rw [show (((q.toNat - 1 : Nat)) : Int) = q - 1 by omega] at hle
                  rw [if_pos (show m = q.toNat ∨ _ from .inl e)]
                  by_cases h8 : m = l.length ∨ (rd_T36 l ((m : Int) - 1)).f2 = false
                  · rw [if_pos h8]
                  · rw [if_neg h8]
                    have hml : m < l.length := by have := hm.1; omega
                    have hz : x.f0 * (rd_T36 l ((m : Int) - 1)).f0.f1 - (rd_T36 l ((m : Int) - 1)).f0.f0 * x.f1 = 0 := by
                      rw [show (m : Int) - 1 = q - 1 by omega]; omega
                    rw [hz, Int.zero_mul, Int.zero_mul, Int.zero_mul]
                    simp [wayV]
                · have c1 : (m = l.length ∨ (rd_T36 l ((m : Int) - 1)).f2 = false) ↔ (m = q.toNat ∨ (rd_T36 l ((m : Int) - 1)).f2 = false) := by constructor <;> (rintro (h | h); omega; exact .inr h)
                  rw [rd_take (i := (m : Int)) (by omega) (by omega)]
                  by_cases h8 : m = l.length ∨ (rd_T36 l ((m : Int) - 1)).f2 = false
                  · rw [if_pos h8, if_pos (c1.1 h8)]
                  · rw [if_neg h8, if_neg (fun h => h8 (c1.2 h))]
            rw [hs]; simp
          · have hyes : (if x.f0 * (rd_T36 l (q - 1)).f0.f1 < (rd_T36 l (q - 1)).f0.f0 * x.f1 then (-1 : Int) else if (rd_T36 l (q - 1)).f0.f0 * x.f1 < x.f0 * (rd_T36 l (q - 1)).f0.f1 then 1 else 0) > 0 := by
              rw [if_neg (by omega), if_pos (by omega)]; omega
            rw [if_pos hyes]
    · rw [if_neg he]
end Go.Proofs.Ytiifeheejapegaa.Pure
