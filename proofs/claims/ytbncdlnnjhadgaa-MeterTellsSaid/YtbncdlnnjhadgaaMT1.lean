/- The document's meters are the program's: right ones, beats, pieces. No conditions. -/
import Derived.Test.YtbncdlnnjhadgaaMPT
import Derived.Test.YtbncdlnnjhadgaaRefRight
import Derived.Test.YtbncdlnnjhadgaaQ8
import Derived.Test.YtbncdlnnjhadgaaQ5
namespace Go.Proofs.Ytbncdlnnjhadgaa.Q
open Go.RowKit Go.Proofs.YtbncdlnnjhadgaaW.PrintWords Go.Proofs.YtbncdlnnjhadgaaW.PrintMore
set_option linter.unusedVariables false
set_option linter.unusedSimpArgs false
theorem okG_iff {e : Bool} : ∀ {l : List Int} {left : Int}, 0 ≤ left → left ≤ 32 → okG e left l = true → (∀ g ∈ l, 1 ≤ g ∧ g ≤ 32) ∧ (l.sum = left ∨ e = true)
  | [], left, _, _, h => by
    rw [okG, Bool.or_eq_true, beq_iff_eq] at h
    exact ⟨by simp, by rcases h with h | h <;> simp [h]⟩
  | g :: l, left, h0, h1, h => by
    rw [okG, Bool.and_eq_true, Bool.and_eq_true, decide_eq_true_iff, decide_eq_true_iff] at h
    obtain ⟨h2, h3⟩ := okG_iff (l := l) (left := left - g) (by omega) (by omega) h.2
    refine ⟨fun x hx => ?_, ?_⟩
    · rcases List.mem_cons.1 hx with rfl | hx
      · omega
      · exact h2 x hx
    · rcases h3 with h3 | h3
      · left; rw [List.sum_cons]; omega
      · exact .inr h3
theorem dOK_iff {d : Int} (h1 : 1 ≤ d) (h2 : d ≤ 64) (h : dOK d = true) : d = 1 ∨ d = 2 ∨ d = 4 ∨ d = 8 ∨ d = 16 ∨ d = 32 ∨ d = 64 := by
  have key : ∀ m : Fin 65, 1 ≤ m.val → dOK (m.val : Int) = true → m.val = 1 ∨ m.val = 2 ∨ m.val = 4 ∨ m.val = 8 ∨ m.val = 16 ∨ m.val = 32 ∨ m.val = 64 := by decide +kernel
  have := key ⟨d.toNat, by omega⟩ (by show 1 ≤ d.toNat; omega) (by show dOK ((d.toNat : Nat) : Int) = true; rw [Int.toNat_of_nonneg (by omega)]; exact h)
  simp only at this
  omega
theorem gm_of {n d : Int} {l : List Int} (h : rightM n d l = true) : GM n d l := by
  unfold rightM at h
  simp only [Bool.and_eq_true, decide_eq_true_iff] at h
  obtain ⟨a1, a2, a3, a4, a5, a6⟩ := h
  obtain ⟨b1, b2⟩ := okG_iff (by omega) a2 a6
  refine ⟨a1, a2, dOK_iff a3 a4 a5, b1, ?_⟩
  rcases b2 with b2 | b2
  · exact .inr b2
  · left; simpa using b2
theorem rightM_no {n d : Int} {l : List Int} (h : ¬ GM n d l) : rightM n d l = false := by
  rw [Bool.eq_false_iff]; exact fun e => h (gm_of e)
theorem ptB_of {d a : Int} (hd : i64 d) (ha : i64 a) : ptB d a = ((ofQ a d).1, (ofQ a d).2.1) := by
  unfold ptB; rw [ratioOf ha hd]; rfl
theorem beatsR_f {d : Int} (hd : i64 d) (k : Nat) : ∀ (G : List Int) (a : Int), (∀ g ∈ G, 1 ≤ g ∧ g ≤ 32) → 0 ≤ a → a + 32 * (G.length : Int) ≤ 1000000 →
    beatsR (k + 1) d G a = some (rowsP ((List.range G.length).map fun j => ptB d (a + (G.take j).sum)))
  | [], a, _, _, _ => rfl
  | g :: G, a, h, h0, h1 => by
    have hg := h g (by simp)
    rw [List.length_cons] at h1
    rw [beatsR, refOf (by unfold i64; omega) hd, Option.bind_some, beatsR_f hd k G (a + g) (fun x hx => h x (by simp [hx])) (by omega) (by omega), Option.bind_some]
    congr 1
    rw [List.length_cons, List.range_succ_eq_map, List.map_cons, List.map_map]
    unfold rowsP
    rw [List.map_cons]
    congr 1
    · rw [List.take_zero, List.sum_nil, Int.add_zero, ptB_of hd (by unfold i64; omega)]
    · rw [List.map_map, List.map_map]
      apply List.map_congr_left
      intro j _
      simp [Function.comp, List.take_succ_cons, Int.add_assoc]
theorem beatsR_P {n d : Int} {l : List Int} (h : GM n d l) (k : Nat) : beatsR (k + 1) d (grp n d l) 0 = some (rowsP (beatsP n d l)) := by
  obtain ⟨g1, g2, g3, g4⟩ := grp_ok h
  have hd := h.d64
  rw [beatsR_f (by unfold i64; omega) k _ 0 g2 (by omega) (by omega)]
  unfold beatsP uptoB
  simp only [Int.zero_add]
theorem sub_err {a b c d : Int} {r : Int × Int × Int} (ha : i64 b) (hd : i64 d) (hac : i64 a) (hcc : i64 c) (h : ratio_Sub.f a b c d = some r) : r.2.2 = 0 ∨ r.2.2 = 10 := by
  unfold ratio_Sub.f doI at h
  by_cases hr : (rightB a b && rightB c d) = true
  · rw [if_pos hr, ratioOf (i64_wrap _) (i64_wrap _)] at h
    rw [Bool.and_eq_true] at hr
    have r1 := (rightB_iff hac ha).1 hr.1
    have r2 := (rightB_iff hcc hd).1 hr.2
    have p1 := r1.pos
    have p2 := r2.pos
    have p3 : 0 < b * d := Int.mul_pos p1 p2
    have p4 := mul_bd r1.den r2.den
    rw [wrap64_id (n := b * d) (i64_small (by omega))] at h
    have := Option.some.inj h
    subst this
    unfold ofQ
    rw [if_neg (by omega)]
    split
    · exact .inr rfl
    · exact .inl rfl
  · rw [if_neg hr] at h
    have := Option.some.inj h
    subst this
    exact .inr rfl
/-- The pieces as the document cuts them: the first error ends it. -/
def cutD : Int × Int → List (Int × Int) → List (Int × Int) → Option (List (Int × Int) × Int)
  | _, out, [] => some (out, 0)
  | s, out, t :: ts => (ratio_Sub.f t.1 t.2 s.1 s.2).bind fun r => if r.2.2 = 0 then cutD t (out ++ [(r.1, r.2.1)]) ts else some ([], r.2.2)
def W2 (p : Int × Int) : Prop := i64 p.1 ∧ i64 p.2
theorem cutG_bad : ∀ (ts : List (Int × Int)) (s : Int × Int) (out : List (Int × Int)), W2 s → (∀ t ∈ ts, W2 t) → ∃ z o, cutG (s, out, 10) ts = some (z, o, 10)
  | [], s, out, _, _ => ⟨s, out, rfl⟩
  | t :: ts, s, out, hs, ht => by
    obtain ⟨r, hr⟩ := sub_all t.1 t.2 s.1 s.2
    have h1 := ht t (by simp)
    have he := sub_err h1.2 hs.2 h1.1 hs.1 hr
    obtain ⟨z, o, h⟩ := cutG_bad ts t (out ++ [(r.1, r.2.1)]) h1 (fun x hx => ht x (by simp [hx]))
    refine ⟨z, o, ?_⟩
    rw [cutG]
    simp only [hr, Option.bind_some]
    rw [show mx 10 r.2.2 = 10 by rcases he with e | e <;> rw [e] <;> rfl]
    exact h
/-- The program's pieces are the document's. -/
theorem cut_same : ∀ (ts : List (Int × Int)) (s : Int × Int) (out : List (Int × Int)), W2 s → (∀ t ∈ ts, W2 t) →
    ((cutG (s, out, 0) ts).bind fun z => if z.2.2 = 0 then some (rowsP z.2.1, 0) else some (([] : List S26), z.2.2)) = (cutD s out ts).bind fun m => some (rowsP m.1, m.2)
  | [], s, out, _, _ => rfl
  | t :: ts, s, out, hs, ht => by
    obtain ⟨r, hr⟩ := sub_all t.1 t.2 s.1 s.2
    have h1 := ht t (by simp)
    have he := sub_err h1.2 hs.2 h1.1 hs.1 hr
    rw [cutG, cutD]
    simp only [hr, Option.bind_some]
    rcases he with e | e
    · rw [e, if_pos rfl, show mx 0 0 = 0 from rfl]
      exact cut_same ts t _ h1 (fun x hx => ht x (by simp [hx]))
    · rw [e, show mx 0 10 = 10 from rfl, if_neg (by decide)]
      obtain ⟨z, o, h⟩ := cutG_bad ts t (out ++ [(r.1, r.2.1)]) h1 (fun x hx => ht x (by simp [hx]))
      rw [h]
      rfl
end Go.Proofs.Ytbncdlnnjhadgaa.Q
