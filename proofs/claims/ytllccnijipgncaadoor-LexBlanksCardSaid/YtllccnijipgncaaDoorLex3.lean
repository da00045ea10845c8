/- Right pieces, their text, and that they are read again from it. No conditions. -/
import Derived.Test.YtllccnijipgncaaDoorLex1
import Derived.Test.YtllccnijipgncaaDoorLex2
import Derived.Test.YtllccnijipgncaaDoorPrintW
import Derived.Test.YtllccnijipgncaaDoorQ5
namespace Go.Proofs.YtllccnijipgncaaDoor.Q
open Go.RowKit Go.Shelf Go.Proofs.YtllccnijipgncaaDoorW.PrintWords
set_option linter.unusedVariables false
/-- Is a piece right? -/
def rgtL (k : Int) (l : List UInt8) : Bool :=
  if k = 1 then (match l with | [] => false | c :: t => letB c && (c :: t).all innB)
  else if k = 2 then whoL l
  else if k = 3 then insL l
  else if k = 4 then (match l with | [c] => sgB c | _ => false)
  else if k = 5 then l == [10]
  else false
theorem size_mk (l : List UInt8) : (⟨l.toArray⟩ : ByteArray).size = l.length := by rw [← size_list]
theorem right_f (k a : Int) (l : List UInt8) (h : l.length ≤ 1000000000000) : lex_right.f k ⟨l.toArray⟩ a = some (rgtL k l) := by
  unfold lex_right.f rgtL
  have hz := size_mk l
  by_cases h1 : k = 1
  · rw [if_pos h1, if_pos h1, toList_data]
    cases l with
    | nil => rfl
    | cons c t =>
      rw [if_neg (by simp), hz, if_pos (by simp only [List.length_cons]; omega)]
      rw [show bt ⟨(c :: t).toArray⟩ 0 = (c.toNat : Int) from bt_list ⟨(c :: t).toArray⟩ 0 (by rw [hz]; exact Nat.succ_pos _), letter_f]
      simp only [Option.bind_some]
      cases letB c with
      | false => rfl
      | true =>
        rw [if_pos rfl]
        unfold lex_inner.f
        rw [if_pos ⟨by rw [hz]; omega, by omega, by rw [hz]; omega⟩]
        simp only [Option.bind_some, Bool.true_and]
        have hr := run_all innB (c :: t)
        congr 1
        rw [Bool.eq_iff_iff, beq_iff_eq, ← hr]
        show ((runL innB (c :: t) 0 : Nat) : Int) = ((c :: t).length : Int) ↔ _
        omega
  · rw [if_neg h1, if_neg h1]
    by_cases h2 : k = 2
    · rw [if_pos h2, if_pos h2, whole_f l (by omega)]; rfl
    · rw [if_neg h2, if_neg h2]
      by_cases h3 : k = 3
      · rw [if_pos h3, if_pos h3]
        unfold lex_inside.f
        rw [if_pos (by rw [hz]; omega)]; rfl
      · rw [if_neg h3, if_neg h3]
        by_cases h4 : k = 4
        · rw [if_pos h4, if_pos h4, hz]
          match l, h, hz with
          | [], _, _ => rfl
          | [c], _, hz =>
            rw [if_pos (show (([c].length : Nat) : Int) = 1 from rfl), if_pos (show (0 : Int) < (([c].length : Nat) : Int) by simp)]
            rw [show bt ⟨[c].toArray⟩ 0 = (c.toNat : Int) from bt_list ⟨[c].toArray⟩ 0 (by rw [hz]; exact Nat.succ_pos _)]
            unfold lex_sign.f
            have hc := c.toNat_lt
            rw [if_pos ⟨by omega, by omega⟩]
            simp only [Option.bind_some]
            rw [Int.toNat_natCast, UInt8.ofNat_toNat]
          | c :: d :: t, _, _ =>
            rw [if_neg (by simp only [List.length_cons]; omega)]
        · rw [if_neg h4, if_neg h4]
          by_cases h5 : k = 5
          · rw [if_pos h5, if_pos h5, toList_data]
          · rw [if_neg h5, if_neg h5]
def rgtX (x : S35) : Bool := rgtL x.f0 x.f1.data.toList
theorem right_x (x : S35) (h : x.f1.size ≤ 1000000000000) : lex_right.f x.f0 x.f1 x.f2 = some (rgtX x) := by
  have := right_f x.f0 x.f2 x.f1.data.toList (by rw [size_list]; exact h)
  exact this
/-- What pieces stand for, behind one of the kind p. -/
def txt : Int → List S35 → List UInt8
  | _, [] => []
  | p, x :: r => sepL p x.f0 ++ bodL x.f0 x.f1 ++ txt x.f0 r
theorem prL_f : ∀ (l : List S35) (p : Int) (acc : List UInt8), (∀ x ∈ l, x.f1.size ≤ 1000000000000) → prL p l acc = if l.all rgtX = true then some (⟨(acc ++ txt p l).toArray⟩, 0) else some (⟨#[]⟩, 180)
  | [], p, acc, _ => by simp [prL, txt]
  | x :: r, p, acc, h => by
    unfold prL
    rw [right_x x (h x List.mem_cons_self)]
    simp only [Option.bind_some]
    have e : (x :: r).all rgtX = (rgtX x && r.all rgtX) := List.all_cons
    by_cases hx : rgtX x = true
    · rw [if_pos hx, prL_f r x.f0 _ (fun y hy => h y (List.mem_cons_of_mem _ hy))]
      simp only [txt, List.append_assoc]
      by_cases hr : r.all rgtX = true
      · rw [if_pos hr, if_pos (show (x :: r).all rgtX = true by rw [e, hx, hr]; rfl)]
      · rw [if_neg hr, if_neg (show ¬ (x :: r).all rgtX = true by rw [e, hx]; exact hr)]
    · rw [if_neg hx, if_neg (show ¬ (x :: r).all rgtX = true by rw [e]; intro h2; rw [Bool.and_eq_true] at h2; exact hx h2.1)]
theorem print_f (l : List S35) (hn : l.length ≤ 100000) (hz : ∀ x ∈ l, x.f1.size ≤ 1000000) : lex_Print.f l = if l.all rgtX = true then some (⟨(txt 5 l).toArray⟩, 0) else some (⟨#[]⟩, 180) := by
  unfold lex_Print.f
  rw [if_pos ⟨hn, List.all_eq_true.2 fun x hx => decide_eq_true (hz x hx)⟩, prL_f l 5 [] (fun x hx => Nat.le_trans (hz x hx) (by omega)), List.nil_append]
theorem while_app (p : UInt8 → Bool) (t rest : List UInt8) (h : t.all p = true) (hr : ∀ c r, rest = c :: r → p c = false) : (t ++ rest).takeWhile p = t := by
  induction t with
  | nil =>
    cases rest with
    | nil => rfl
    | cons c r => rw [List.nil_append, List.takeWhile_cons, hr c r rfl]; rfl
  | cons c t ih =>
    rw [List.all_cons, Bool.and_eq_true] at h
    rw [List.cons_append, List.takeWhile_cons, if_pos h.1, ih h.2]
theorem qtd_app : ∀ (l acc : List UInt8) (n : Nat) (rest : List UInt8), (∀ c ∈ l, 32 ≤ c.toNat ∨ c.toNat = 10 ∨ c.toNat = 9) → insL (acc ++ l) = true → qtd (l.flatMap qtB ++ 34 :: rest) acc n = some (acc ++ l, n + (l.flatMap qtB).length + 1)
  | [], acc, n, rest, _, hi => by
    rw [List.append_nil] at hi
    unfold qtd
    simp [hi]
  | c :: l, acc, n, rest, hc, hi => by
    have ih := fun acc n h => qtd_app l acc n rest (fun x hx => hc x (List.mem_cons_of_mem _ hx)) h
    have h0 := hc c List.mem_cons_self
    have hap : acc ++ [c] ++ l = acc ++ c :: l := by simp
    rw [List.flatMap_cons, List.append_assoc]
    have two (d x : UInt8) (hx : escB d = some x) (hxc : x = c) (hq : qtB c = [92, d]) : qtd (qtB c ++ (l.flatMap qtB ++ 34 :: rest)) acc n = some (acc ++ c :: l, n + (qtB c ++ l.flatMap qtB).length + 1) := by
      rw [hq]
      show qtd (92 :: d :: (l.flatMap qtB ++ 34 :: rest)) acc n = _
      unfold qtd
      rw [if_neg (by decide), if_neg (by decide), if_neg (by decide)]
      simp only [hx, hxc]
      rw [ih (acc ++ [c]) (n + 2) (by rw [hap]; exact hi), hap]
      congr 2
      simp only [List.length_append, List.length_cons, List.length_nil]; omega
    by_cases h1 : c.toNat = 34
    · exact two 34 34 (by decide) (UInt8.toNat_inj.1 h1).symm (by unfold qtB; rw [if_pos h1])
    by_cases h2 : c.toNat = 92
    · exact two 92 92 (by decide) (UInt8.toNat_inj.1 h2).symm (by unfold qtB; rw [if_neg h1, if_pos h2])
    by_cases h3 : c.toNat = 10
    · exact two 110 10 (by decide) (UInt8.toNat_inj.1 h3).symm (by unfold qtB; rw [if_neg h1, if_neg h2, if_pos h3])
    by_cases h4 : c.toNat = 9
    · exact two 116 9 (by decide) (UInt8.toNat_inj.1 h4).symm (by unfold qtB; rw [if_neg h1, if_neg h2, if_neg h3, if_pos h4])
    have hq : qtB c = [c] := by unfold qtB; rw [if_neg h1, if_neg h2, if_neg h3, if_neg h4]
    rw [hq]
    show qtd (c :: (l.flatMap qtB ++ 34 :: rest)) acc n = _
    unfold qtd
    rw [if_neg (by omega), if_neg h1, if_pos h2, ih (acc ++ [c]) (n + 1) (by rw [hap]; exact hi), hap]
    congr 2
    simp only [List.length_append, List.length_cons, List.length_nil]; omega
/-- No byte of a word's begins what stands behind. -/
def stopL (rest : List UInt8) : Prop := ∀ c r, rest = c :: r → innB c = false
theorem stop_dig {rest : List UInt8} (h : stopL rest) : ∀ c r, rest = c :: r → digB c = false := by
  intro c r hr
  have := h c r hr
  unfold innB at this
  simp only [Bool.or_eq_false_iff] at this
  exact this.1.2
theorem all_sg : ∀ c : UInt8, sgB c = true → letB c = false ∧ digB c = false ∧ c.toNat ≠ 34 ∧ c.toNat ≠ 10 ∧ c.toNat ≠ 35 ∧ ¬ blkB c := by
  have : ∀ n : Fin 256, sgB (UInt8.ofNat n.val) = true → letB (UInt8.ofNat n.val) = false ∧ digB (UInt8.ofNat n.val) = false ∧ (UInt8.ofNat n.val).toNat ≠ 34 ∧ (UInt8.ofNat n.val).toNat ≠ 10 ∧ (UInt8.ofNat n.val).toNat ≠ 35 ∧ ¬ blkB (UInt8.ofNat n.val) := by decide +kernel
  intro c
  have h := this ⟨c.toNat, c.toNat_lt⟩
  simpa using h
theorem bod_k (k : Int) (l : List UInt8) (hk : k ≠ 3) : bodL k ⟨l.toArray⟩ = l := by unfold bodL; rw [if_neg hk]
theorem bod_3 (l : List UInt8) (h : insL l = true) : bodL 3 ⟨l.toArray⟩ = quoL l := by
  unfold bodL; rw [if_pos rfl, if_pos (show insB ⟨l.toArray⟩ = true from h)]
/-- A right piece's text, and what stands behind it, begins with that piece. -/
theorem pcT_app (k : Int) (l rest : List UInt8) (h : rgtL k l = true) (hs : k = 1 ∨ k = 2 ∨ k = 4 → stopL rest) :
    ∃ c t, bodL k ⟨l.toArray⟩ = c :: t ∧ ¬ blkB c ∧ c.toNat ≠ 35 ∧ pcT (c :: (t ++ rest)) = (k, l, t.length + 1) := by
  unfold rgtL at h
  by_cases h1 : k = 1
  · rw [if_pos h1] at h
    subst h1
    cases l with
    | nil => cases h
    | cons c t =>
      rw [Bool.and_eq_true] at h
      have hl := h.1
      have hw := while_app innB (c :: t) rest h.2 (hs (Or.inl rfl))
      have hl' := hl
      unfold letB at hl'
      have := of_decide_eq_true hl'
      refine ⟨c, t, bod_k 1 _ (by omega), by unfold blkB; omega, by omega, ?_⟩
      unfold pcT
      dsimp only
      rw [if_pos hl, ← List.cons_append, hw]; rfl
  rw [if_neg h1] at h
  by_cases h2 : k = 2
  · rw [if_pos h2] at h
    subst h2
    have hd := stop_dig (hs (Or.inr (Or.inl rfl)))
    cases l with
    | nil => cases h
    | cons c t =>
      have hwho := h
      unfold whoL absL at h
      dsimp only at h
      by_cases hm : c.toNat = 45
      · rw [if_pos hm] at h
        cases t with
        | nil => cases h
        | cons d t' =>
          simp only [Bool.and_eq_true] at h
          have hw := while_app digB (d :: t') rest h.1 hd
          refine ⟨c, d :: t', bod_k 2 _ (by omega), by unfold blkB; omega, by omega, ?_⟩
          unfold pcT
          dsimp only
          rw [if_neg (by unfold letB; rw [decide_eq_true_iff]; omega), hw, if_pos (Or.inr ⟨hm, by simp⟩), if_pos hwho]
      · rw [if_neg hm] at h
        simp only [Bool.and_eq_true] at h
        have hall := h.1
        rw [List.all_cons, Bool.and_eq_true] at hall
        have hw := while_app digB t rest hall.2 hd
        have hdc := hall.1
        have hdc' := hdc
        unfold digB at hdc'
        have hdn := of_decide_eq_true hdc'
        refine ⟨c, t, bod_k 2 _ (by omega), by unfold blkB; omega, by omega, ?_⟩
        unfold pcT
        dsimp only
        rw [if_neg (by unfold letB; rw [decide_eq_true_iff]; omega), hw, if_pos (Or.inl hdc), if_pos hwho]
  rw [if_neg h2] at h
  by_cases h3 : k = 3
  · rw [if_pos h3] at h
    subst h3
    refine ⟨34, l.flatMap qtB ++ [34], by rw [bod_3 l h]; unfold quoL; simp, by decide, by decide, ?_⟩
    have hm := vd_mem l.length l (Nat.le_refl _) (by rw [← insL_vd]; exact h)
    have hq := qtd_app l [] 1 rest hm (by rw [List.nil_append]; exact h)
    unfold pcT
    dsimp only
    rw [if_neg (by decide), if_neg (fun h => h.elim (fun h => absurd h (by decide)) (fun h => absurd h.1 (by decide))), if_pos (by decide)]
    rw [List.append_assoc, List.singleton_append, hq]
    simp only [List.nil_append, List.length_append, List.length_singleton]
    congr 2; omega
  rw [if_neg h3] at h
  by_cases h4 : k = 4
  · rw [if_pos h4] at h
    subst h4
    match l, h with
    | [c], h =>
      obtain ⟨g1, g2, g3, g4, g5, g6⟩ := all_sg c h
      refine ⟨c, [], bod_k 4 _ (by omega), g6, g5, ?_⟩
      have hd := stop_dig (hs (Or.inr (Or.inr rfl)))
      have hw : (rest).takeWhile digB = [] := by
        have := while_app digB [] rest rfl hd
        exact this
      unfold pcT
      dsimp only
      rw [if_neg (by rw [g1]; simp), List.nil_append, hw, if_neg (by rw [g2]; simp), if_neg g3, if_neg g4, if_pos h]
      rfl
  rw [if_neg h4] at h
  by_cases h5 : k = 5
  · rw [if_pos h5] at h
    subst h5
    obtain rfl := beq_iff_eq.1 h
    refine ⟨10, [], bod_k 5 _ (by omega), by decide, by decide, ?_⟩
    unfold pcT
    dsimp only
    rw [if_neg (by decide), if_neg (fun h => h.elim (fun h => absurd h (by decide)) (fun h => absurd h.1 (by decide))), if_neg (by decide), if_pos (by decide)]
    rfl
  rw [if_neg h5] at h
  cases h
theorem tk_app (k : Int) (l rest : List UInt8) (a : Nat) (h : rgtL k l = true) (hs : k = 1 ∨ k = 2 ∨ k = 4 → stopL rest) :
    tkL (bodL k ⟨l.toArray⟩ ++ rest) a = (⟨k, ⟨l.toArray⟩, a⟩ :: (tkL rest (a + (bodL k ⟨l.toArray⟩).length)).1, (tkL rest (a + (bodL k ⟨l.toArray⟩).length)).2) := by
  obtain ⟨c, t, hb, h1, h2, hp⟩ := pcT_app k l rest h hs
  rw [hb, List.cons_append, tkL_one c (t ++ rest) a 0 t.length k l h1 h2 hp, List.drop_left]
  rfl
end Go.Proofs.YtllccnijipgncaaDoor.Q
