/- A voice's beams in plain Lean: whatever the meter, the voice. No conditions. -/
import Derived.Test.YtocjbedacnlaaaaGreatDoorGP0
namespace Go.Proofs.YtocjbedacnlaaaaGreatDoor.Q
open Go.RowKit Go.Proofs.YtocjbedacnlaaaaGreatDoorW.PrintWords Go.Proofs.YtocjbedacnlaaaaGreatDoorW.PrintMore
set_option linter.unusedVariables false
set_option linter.unusedSimpArgs false
/-- An event's length, if it is right. -/
def lenV (x : S41) : Int × Int × Int := ofQ (lenT x.f3.f0 x.f3.f1 x.f3.f2 x.f3.f3).1 (lenT x.f3.f0 x.f3.f1 x.f3.f2 x.f3.f3).2
theorem valB_of {b d n m : Int} (h : valB b d n m = true) : 0 ≤ b ∧ b ≤ 6 ∧ 0 ≤ d ∧ d ≤ 2 ∧ (n = 0 ∧ m = 0 ∨ 2 ≤ n ∧ n ≤ 15 ∧ 1 ≤ m ∧ m ≤ 15) := by
  unfold valB at h
  simp only [Bool.and_eq_true, Bool.or_eq_true, decide_eq_true_eq] at h
  omega
theorem lenT_w {b d n m : Int} (h : valB b d n m = true) : i64 (lenT b d n m).1 ∧ i64 (lenT b d n m).2 := by
  obtain ⟨b1, b2, d1, d2, hnm⟩ := valB_of h
  unfold lenT
  split
  · obtain ⟨_, _, x0, x1, y0, y1⟩ := dot_tab d.toNat (by omega)
    rw [Int.toNat_of_nonneg d1] at x0 x1 y0 y1
    obtain ⟨p0, p1⟩ := pow_bd b.toNat (by omega)
    have z0 : 1 ≤ dotD d * 2 ^ b.toNat := by have := Int.mul_le_mul y0 p0 (by omega) (by omega); omega
    have z1 : dotD d * 2 ^ b.toNat ≤ 256 := by have := Int.mul_le_mul y1 p1 (by omega) (by omega); omega
    exact ⟨by unfold i64; dsimp only; omega, by unfold i64; dsimp only; omega⟩
  · exact ⟨i64_wrap _, i64_wrap _⟩
theorem rightE_val {x : S41} (h : rightE x = true) : valB x.f3.f0 x.f3.f1 x.f3.f2 x.f3.f3 = true := by
  unfold rightE at h
  rw [Bool.and_eq_true] at h
  exact h.1
theorem length_f {x : S41} (h : rightE x = true) (hl : x.f4.length ≤ 9223372036854775807) {k : Nat} (hk : x.f4.length + 20 ≤ k) : event_Length.f k x.f0 x.f1 x.f2 x.f3.f0 x.f3.f1 x.f3.f2 x.f3.f3 x.f4 x.f5 = some (lenV x) := by
  unfold event_Length.f
  rw [evRight_f k x hl hk, Option.bind_some, if_pos h]
  have hv := rightE_val h
  obtain ⟨b1, b2, d1, d2, hnm⟩ := valB_of hv
  have e : value_Length.f k x.f3.f0 x.f3.f1 x.f3.f2 x.f3.f3 = some (lenV x) := by
    unfold value_Length.f
    obtain ⟨j, rfl⟩ : ∃ j, k = j + 1 := ⟨k - 1, by omega⟩
    rw [valRight_f, hv, Option.bind_some, if_pos rfl, if_pos (by omega), ratioOf (lenT_w hv).1 (lenT_w hv).2]
    rfl
  rw [e, Option.bind_some]
/-- A place and an event's length. -/
def addS (s : S72) (x : S41) : Int × Int × Int := (ratio_Add.f s.f0 s.f1 (lenV x).1 (lenV x).2.1).getD (0, 0, 0)
theorem addS_f (s : S72) (x : S41) : ratio_Add.f s.f0 s.f1 (lenV x).1 (lenV x).2.1 = some (addS s x) := by
  obtain ⟨r, hr, _⟩ := add_all s.f0 s.f1 (lenV x).1 (lenV x).2.1
  unfold addS; rw [hr]; rfl
/-- The places of some events, one behind the other. -/
def sumG (acc : List S72) (s : S72) : List S41 → List S72 × Int
  | [] => (acc, 0)
  | x :: xs => if (addS s x).2.2 = 0 then sumG (acc ++ [⟨(addS s x).1, (addS s x).2.1⟩]) ⟨(addS s x).1, (addS s x).2.1⟩ xs else ([], (addS s x).2.2)
theorem sumG_len : ∀ (xs : List S41) (acc : List S72) (s : S72), (sumG acc s xs).2 = 0 → (sumG acc s xs).1.length = acc.length + xs.length
  | [], acc, s, _ => by simp [sumG]
  | x :: xs, acc, s, h => by
    rw [sumG] at h ⊢
    by_cases c : (addS s x).2.2 = 0
    · rw [if_pos c] at h ⊢
      rw [sumG_len xs _ _ h]; simp; omega
    · rw [if_neg c] at h
      exact absurd h c
theorem sumG_map (f : S41 → S41) (h3 : ∀ x, (f x).f3 = x.f3) : ∀ (xs : List S41) (acc : List S72) (s : S72), sumG acc s (xs.map f) = sumG acc s xs
  | [], acc, s => rfl
  | x :: xs, acc, s => by
    have e : addS s (f x) = addS s x := by unfold addS lenV; rw [h3]
    rw [List.map_cons, sumG, sumG, e, sumG_map f h3 xs]
/-- How many marks a voice's events have. -/
def mks : List S41 → Nat
  | [] => 0
  | x :: xs => x.f4.length + mks xs
theorem mks_mem : ∀ {l : List S41} {x : S41}, x ∈ l → x.f4.length ≤ mks l
  | y :: l, x, h => by
    rcases List.mem_cons.1 h with rfl | h
    · show x.f4.length ≤ x.f4.length + mks l; omega
    · have := mks_mem h; show x.f4.length ≤ y.f4.length + mks l; omega
theorem rdT41_at {l : List S41} {i : Nat} (h : i < l.length) : rd_T41 l (i : Int) = l[i] := by simp [rd_T41, List.getD, h]
theorem sums_l0 {l : List S41} (hl : l.length ≤ 64) (hr : ∀ x ∈ l, rightE x = true) (hm : ∀ x ∈ l, x.f4.length ≤ 9223372036854775807) : ∀ (m k i : Nat) (acc : List S72) (s : S72), i + m = l.length → mks l + 20 + m + 1 ≤ k → acc.length = i + 1 → acc[i]? = some s →
    voice_sums.l0 k acc l (l.length : Int) (i : Int) = some (sumG acc s (l.drop i)) := by
  intro m
  induction m with
  | zero =>
    intro k i acc s hi hk ha hs
    obtain ⟨k, rfl⟩ : ∃ j, k = j + 1 := ⟨k - 1, by omega⟩
    unfold voice_sums.l0
    rw [if_neg (by omega), List.drop_of_length_le (by omega)]
    rfl
  | succ m ih =>
    intro k i acc s hi hk ha hs
    obtain ⟨k, rfl⟩ : ∃ j, k = j + 1 := ⟨k - 1, by omega⟩
    unfold voice_sums.l0
    have hx : l[i] ∈ l := List.getElem_mem (by omega)
    have e1 : rd_T72 acc (i : Int) = s := by simp [rd_T72, List.getD, hs]
    rw [if_pos (by omega), if_pos (by omega), if_pos (by omega), rdT41_at (by omega), length_f (hr _ hx) (hm _ hx) (by have := mks_mem hx; omega), Option.bind_some, if_pos (by omega), e1, addS_f, Option.bind_some]
    rw [List.drop_eq_getElem_cons (by omega), sumG]
    by_cases c : (addS s l[i]).2.2 = 0
    · rw [if_pos c, if_pos c, if_pos (by omega), wrap64_id (n := (i : Int) + 1) (by unfold i64; omega)]
      exact ih k (i + 1) _ _ (by omega) (by omega) (by simp [ha]) (by rw [← ha]; simp)
    · rw [if_neg c, if_neg c]
theorem checkV_of {l : List S41} (h : (checkV l).2 = 0) : l.length ≤ 64 ∧ (∀ x ∈ l, rightE x = true) ∧ ¬ 0 ≤ badI l := by
  unfold checkV at h
  split at h
  · cases h
  · split at h
    · cases h
    · split at h
      · cases h
      · rename_i h1 h2 h3
        refine ⟨by omega, fun x hx => ?_, h3⟩
        have := idxF_any (fun e => !rightE e) l
        rw [decide_eq_false h2] at this
        have := (List.any_eq_false.1 this.symm) x hx
        simpa using this
theorem checkV_to {l : List S41} (h1 : l.length ≤ 64) (h2 : ∀ x ∈ l, rightE x = true) (h3 : ¬ 0 ≤ badI l) : (checkV l).2 = 0 := by
  unfold checkV
  rw [if_neg (by omega), if_neg ?_, if_neg h3]
  intro c
  have := idxF_any (fun e => !rightE e) l
  rw [decide_eq_true c] at this
  obtain ⟨x, hx, hn⟩ := List.any_eq_true.1 this.symm
  rw [h2 x hx] at hn
  cases hn
/-- A voice's places. -/
def sumsV (l : List S41) : List S72 × Int := if (checkV l).2 = 0 then sumG [⟨0, 1⟩] ⟨0, 1⟩ l else ([], (checkV l).2)
theorem sums_f {l : List S41} (hm : ∀ x ∈ l, x.f4.length ≤ 9223372036854775807) {k : Nat} (hk : mks l + l.length + 30 ≤ k) : voice_sums.f k l = some (sumsV l) := by
  unfold voice_sums.f voice_Check.f sumsV
  rw [Option.bind_some]
  by_cases c : (checkV l).2 = 0
  · obtain ⟨h1, h2, _⟩ := checkV_of c
    rw [if_pos c, if_pos c]
    exact sums_l0 h1 h2 hm l.length k 0 _ _ (by omega) (by omega) rfl rfl
  · rw [if_neg c, if_neg c]
theorem sumsV_len {l : List S41} (h : (sumsV l).2 = 0) : (checkV l).2 = 0 ∧ (sumsV l).1.length = l.length + 1 := by
  unfold sumsV at h ⊢
  by_cases c : (checkV l).2 = 0
  · rw [if_pos c] at h ⊢
    refine ⟨c, ?_⟩
    rw [sumG_len _ _ _ h]; simp; omega
  · rw [if_neg c] at h; exact absurd h c
/-- Where a voice's events begin. -/
def startsV (l : List S41) : List S72 × Int := if (sumsV l).2 = 0 then ((sumsV l).1.take l.length, 0) else ([], (sumsV l).2)
def longV (l : List S41) : S72 := rd_T72 (sumsV l).1 (l.length : Int)
theorem starts_f {l : List S41} (hm : ∀ x ∈ l, x.f4.length ≤ 9223372036854775807) {k : Nat} (hk : mks l + l.length + 30 ≤ k) : voice_Starts.f k l = some (startsV l) := by
  unfold voice_Starts.f startsV
  rw [sums_f hm hk, Option.bind_some]
  by_cases c : (sumsV l).2 = 0
  · obtain ⟨h1, h2⟩ := sumsV_len c
    have h3 := (checkV_of h1).1
    rw [if_pos c, if_pos c, if_pos (by omega), if_pos (by omega), Int.toNat_natCast]
    unfold api_Ratio.f
    rw [if_pos (by rw [List.length_take]; omega), Option.bind_some]
  · rw [if_neg c, if_neg c]
theorem long_f {l : List S41} (hm : ∀ x ∈ l, x.f4.length ≤ 9223372036854775807) (h : (startsV l).2 = 0) {k : Nat} (hk : mks l + l.length + 30 ≤ k) : voice_Length.f k l = some ((longV l).f0, (longV l).f1, 0) := by
  have c : (sumsV l).2 = 0 := by
    unfold startsV at h
    split at h
    · rename_i c; exact c
    · exact h
  obtain ⟨h1, h2⟩ := sumsV_len c
  unfold voice_Length.f longV
  rw [sums_f hm hk, Option.bind_some, if_pos c, if_pos (by omega), if_pos (by omega)]
theorem startsV_ok {l : List S41} (h : (startsV l).2 = 0) : (sumsV l).2 = 0 ∧ (checkV l).2 = 0 ∧ (startsV l).1 = (sumsV l).1.take l.length ∧ (startsV l).1.length = l.length := by
  unfold startsV at h ⊢
  by_cases c : (sumsV l).2 = 0
  · obtain ⟨h1, h2⟩ := sumsV_len c
    rw [if_pos c]
    exact ⟨c, h1, rfl, by rw [List.length_take]; omega⟩
  · rw [if_neg c] at h; exact absurd h c
/-- A voice's beams. -/
def groupsV (n d : Int) (g : List Int) (l : List S41) : List S49 × Int :=
  if (beatP n d g).2 ≠ 0 then ([], (beatP n d g).2) else if (startsV l).2 ≠ 0 then ([], (startsV l).2) else if 0 < cmpI (longV l).f0 (longV l).f1 (lenP n d g).1 (lenP n d g).2.1 then ([], 230) else ((grpL l (beatP n d g).1 (startsV l).1).map (beamS l), 0)
theorem okL_V {n d : Int} {g : List Int} {l : List S41} (h1 : (beatP n d g).2 = 0) (h2 : (startsV l).2 = 0) : okL l (beatP n d g).1 (startsV l).1 = true := by
  obtain ⟨s1, s2, s3, s4⟩ := startsV_ok h2
  obtain ⟨c1, c2, _⟩ := checkV_of s2
  have hb : (beatP n d g).1.length ≤ 32 := by
    unfold beatP at h1 ⊢
    by_cases c : rightM n d g = true
    · rw [if_pos c]
      have := beatsP_len (gm_of c)
      unfold rowsP; rw [List.length_map]; exact this
    · rw [if_neg c] at h1; cases h1
  unfold okL
  rw [decide_eq_true (by omega), decide_eq_true s4, decide_eq_true (by omega)]
  simp only [Bool.true_and, List.all_eq_true, Bool.and_eq_true, decide_eq_true_eq]
  intro x hx
  have := valB_of (rightE_val (c2 x hx))
  omega
theorem groups_f {n d : Int} {g : List Int} {l : List S41} (hn : i64 n) (hd : i64 d) (hg : g.length ≤ 17592186044416) (hm : ∀ x ∈ l, x.f4.length ≤ 9223372036854775807) {k : Nat} (hk : g.length + mks l + l.length + 50 ≤ k) : beam_Groups.f k n d g l = some (groupsV n d g l) := by
  unfold beam_Groups.f groupsV
  rw [beat_f hg (by omega), Option.bind_some, starts_f hm (by omega), Option.bind_some]
  by_cases c1 : (beatP n d g).2 ≠ 0
  · rw [if_pos c1, if_pos c1]
  rw [if_neg c1, if_neg c1]
  by_cases c2 : (startsV l).2 ≠ 0
  · rw [if_pos c2, if_pos c2]
  rw [if_neg c2, if_neg c2, long_f hm (Decidable.not_not.1 c2) (by omega), Option.bind_some, len_f hn hd hg (by omega), Option.bind_some]
  by_cases c3 : 0 < cmpI (longV l).f0 (longV l).f1 (lenP n d g).1 (lenP n d g).2.1
  · rw [if_pos c3, if_pos c3]
  · rw [if_neg c3, if_neg c3, if_pos (okL_V (Decidable.not_not.1 c1) (Decidable.not_not.1 c2))]
theorem groupsV_ok {n d : Int} {g : List Int} {l : List S41} (h : (groupsV n d g l).2 = 0) : (beatP n d g).2 = 0 ∧ (startsV l).2 = 0 ∧ ¬ 0 < cmpI (longV l).f0 (longV l).f1 (lenP n d g).1 (lenP n d g).2.1 ∧ (groupsV n d g l).1 = (grpL l (beatP n d g).1 (startsV l).1).map (beamS l) := by
  unfold groupsV at h ⊢
  by_cases c1 : (beatP n d g).2 ≠ 0
  · rw [if_pos c1] at h; exact absurd h c1
  rw [if_neg c1] at h ⊢
  by_cases c2 : (startsV l).2 ≠ 0
  · rw [if_pos c2] at h; exact absurd h c2
  rw [if_neg c2] at h ⊢
  by_cases c3 : 0 < cmpI (longV l).f0 (longV l).f1 (lenP n d g).1 (lenP n d g).2.1
  · rw [if_pos c3] at h; cases h
  · rw [if_neg c3]
    exact ⟨Decidable.not_not.1 c1, Decidable.not_not.1 c2, c3, rfl⟩
theorem badI_nil {l : List S41} (h : ∀ x ∈ l, tiedL x.f1 x.f2 = []) : ¬ 0 ≤ badI l := by
  have e : badI l = -1 := by
    unfold badI
    refine idxF_no fun j hj => ?_
    rw [List.length_range] at hj
    have hx : l.getD j z41 ∈ l := by
      have : j < l.length := by omega
      simp [List.getD, this]
    unfold badT
    rw [List.getElem_range, h _ hx]
    rfl
  omega
/-- The same values, nothing tied: it is alike but for what may be beamed. -/
theorem groupsV_map {n d : Int} {g : List Int} {l : List S41} (f : S41 → S41) (h3 : ∀ x, (f x).f3 = x.f3) (hr : ∀ x, rightE x = true → rightE (f x) = true) (ht : ∀ x ∈ l, tiedL (f x).f1 (f x).f2 = []) (h : (groupsV n d g l).2 = 0) :
    groupsV n d g (l.map f) = ((grpL (l.map f) (beatP n d g).1 (startsV l).1).map (beamS (l.map f)), 0) := by
  obtain ⟨h1, h2, h4, _⟩ := groupsV_ok h
  obtain ⟨s1, s2, s3, s4⟩ := startsV_ok h2
  obtain ⟨c1, c2, _⟩ := checkV_of s2
  have e0 : (checkV (l.map f)).2 = 0 := checkV_to (by rw [List.length_map]; exact c1) (fun y hy => by
    obtain ⟨x, hx, rfl⟩ := List.mem_map.1 hy
    exact hr x (c2 x hx)) (badI_nil fun y hy => by
    obtain ⟨x, hx, rfl⟩ := List.mem_map.1 hy
    exact ht x hx)
  have e1 : sumsV (l.map f) = sumsV l := by
    unfold sumsV
    rw [if_pos e0, if_pos s2, sumG_map f h3]
  have e2 : startsV (l.map f) = startsV l := by unfold startsV; rw [e1, List.length_map]
  have e3 : longV (l.map f) = longV l := by unfold longV; rw [e1, List.length_map]
  unfold groupsV
  rw [e2, e3, if_neg (by simpa using h1), if_neg (by simpa using h2), if_neg h4]
theorem bz {l : List S41} {x : S41} (hw : wf32 ⟨l⟩) (hx : x ∈ l) : x.f4.length ≤ 9223372036854775807 := by
  have h := (hw.2 x hx).2.2.2.2.1.1
  omega
end Go.Proofs.YtocjbedacnlaaaaGreatDoor.Q
