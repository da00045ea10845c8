/- The document's break is the program's: its loops. No conditions. -/
import Derived.Test.YtneaoicjbiebkaaDoorSP6
namespace Go.Proofs.YtneaoicjbiebkaaDoor.Pure
open Go.RowKit Go.Proofs.YtneaoicjbiebkaaDoor.Q Go.Proofs.YtneaoicjbiebkaaDoorW.PrintWords Go.Proofs.YtneaoicjbiebkaaDoorW.PrintMore
set_option linter.unusedVariables false
theorem rd_set (l : List Int) (i b : Nat) (v : Int) (h : i < l.length) : rd (l.set i v) (b : Int) = if b = i then v else rd l (b : Int) := by
  unfold rd
  rw [show ((b : Nat) : Int).toNat = b from Int.toNat_natCast _, List.getD_eq_getElem?_getD, List.getD_eq_getElem?_getD, List.getElem?_set]
  by_cases c : i = b
  · subst c; simp [h]
  · rw [if_neg c, if_neg (fun e => c e.symm)]
theorem rd38_set (l : List S38) (i b : Nat) (v : S38) (h : i < l.length) : rd_T38 (l.set i v) (b : Int) = if b = i then v else rd_T38 l (b : Int) := by
  unfold rd_T38
  rw [show ((b : Nat) : Int).toNat = b from Int.toNat_natCast _, List.getD_eq_getElem?_getD, List.getD_eq_getElem?_getD, List.getElem?_set]
  by_cases c : i = b
  · subst c; simp [h]
  · rw [if_neg c, if_neg (fun e => c e.symm)]
def firstW (x : Q.Way) : S38 := ⟨x.1, x.2.1, x.2.2.1⟩
structure Inv (ws ss : List Int) (line : Int) (a : Nat) (T : List Int) (F : List S38) : Prop where
  lt : T.length = ws.length + 1
  lf : F.length = ws.length + 1
  t : ∀ b : Nat, a ≤ b → b ≤ ws.length → rd T (b : Int) = totI ws ss line b
  f : ∀ b : Nat, a ≤ b → b < ws.length → rd_T38 F (b : Int) = firstW (tabI ws ss line ws.length b)
def bestJ (ws ss : List Int) (line : Int) (a j : Nat) : Q.Way := bestW (tabI ws ss line ws.length) ((List.range j).map (itJ ws ss line a))
theorem bestJ_succ (ws ss : List Int) (line : Int) (a j : Nat) : bestJ ws ss line a (j + 1) = stepW (tabI ws ss line ws.length) (bestJ ws ss line a j) (itJ ws ss line a j) := by
  unfold bestJ; rw [List.range_succ, List.map_append, List.map_singleton, bestW_snoc]
theorem bestJ_m (ws ss : List Int) (line : Int) {a : Nat} (ha : a < ws.length) : bestJ ws ss line a (mFrom ws ss line a) = tabI ws ss line ws.length a := by
  rw [tab_rec ws ss line ha]; rfl
theorem bestJ_pos {ws ss : List Int} {line : Int} (R : Right ws ss line) {a j : Nat} (ha : a < ws.length) (h0 : 0 < j) (hj : j ≤ mFrom ws ss line a) : (bestJ ws ss line a j).2.1 ≠ 0 ∧ 0 ≤ (bestJ ws ss line a j).2.2.2 := by
  have hM := (mFrom_spec ws ss line a).1
  have hl := R.len
  have hne : (List.range j).map (itJ ws ss line a) ≠ [] := by
    intro e
    have := congrArg List.length e
    simp at this; omega
  obtain ⟨l1, x, l2, e, hb, -, -⟩ := bestW_spec (tabI ws ss line ws.length) _ (fun x hx => by obtain ⟨i, _, rfl⟩ := List.mem_map.1 hx; show (a : Int) + i + 1 ≠ 0; omega) hne
  obtain ⟨i, hi, rfl, -, -⟩ := range_split e
  have ht := totI_range R (a := a + i + 1) (by omega)
  have hv := vv_itJ ws ss line a i (by omega)
  have hc := cst_range ws ss line a (a + i + 1)
  unfold bestJ
  rw [hb]
  refine ⟨by show (a : Int) + i + 1 ≠ 0; omega, ?_⟩
  show 0 ≤ vv _ _
  rw [hv]; unfold val; omega
theorem val_of {ws ss : List Int} {line : Int} {a j : Nat} {x : Int} (hx : x = totI ws ss line (a + 1 + j)) (h0 : 0 ≤ x) (h1 : x ≤ 2000000) : wrap64 (wrap64 (cst ws ss line a (a + 1 + j) + 10) + x) = val ws ss line a j := by
  have hc := cst_range ws ss line a (a + 1 + j)
  rw [wrap64_id_ (n := cst ws ss line a (a + 1 + j) + 10) (by omega), wrap64_id_ (n := cst ws ss line a (a + 1 + j) + 10 + x) (by omega), hx]
  unfold val
  rw [show a + j + 1 = a + 1 + j by omega]
theorem wrap_nat {m : Nat} (h : m ≤ 1000000) : wrap64 ((m : Int) + 1) = ((m + 1 : Nat) : Int) := by rw [wrap64_id_ (n := (m : Int) + 1) (by omega)]; omega
theorem tot_small {ws ss : List Int} {line : Int} (R : Right ws ss line) {b : Nat} (hb : b ≤ ws.length) : 0 ≤ totI ws ss line b ∧ totI ws ss line b ≤ 2000000 := by
  have := totI_range R hb
  have := R.len
  omega
set_option maxHeartbeats 1000000 in
theorem ref_l1 {ws ss : List Int} {line : Int} (R : Right ws ss line) {a : Nat} (ha : a < ws.length) (r : List S38 × Int) (K : Nat)
    (h : ∀ T F k, Inv ws ss line a T F → K ≤ k → partitaref25_Break.l0 k ws ss line ws.length T F ((a : Int) - 1) = some r) :
    ∀ (d j k : Nat) (T : List Int) (F : List S38), mFrom ws ss line a = j + d → K + d + 300 ≤ k → T.length = ws.length + 1 → F.length = ws.length + 1 → (∀ b : Nat, a < b → b ≤ ws.length → rd T (b : Int) = totI ws ss line b) → (∀ b : Nat, a < b → b < ws.length → rd_T38 F (b : Int) = firstW (tabI ws ss line ws.length b)) →
      rd T (a : Int) = (if j = 0 then -1 else (bestJ ws ss line a j).2.2.2) → (j ≠ 0 → rd_T38 F (a : Int) = firstW (bestJ ws ss line a j)) →
      partitaref25_Break.l1 k ws ss line ws.length T F a ((a + 1 + j : Nat) : Int) = some r
  | 0, j, k, T, F, e, hk, lT, lF, hT, hF, hTa, hFa => by
    obtain ⟨B, hB⟩ : ∃ B, bestJ ws ss line a j = B := ⟨_, rfl⟩
    rw [hB] at hTa hFa
    replace hTa := Aside0.mk hTa
    replace hFa := Aside0.mk hFa
    replace hB := Aside0.mk hB
    obtain ⟨k, rfl⟩ : ∃ k', k = k' + 1 := ⟨k - 1, by omega⟩
    obtain ⟨m1, m2, m3⟩ := mFrom_spec ws ss line a
    have hp := mFrom_pos R ha
    have hl := R.len
    have hw := Aside0.mk (show wrap64 ((a : Int) - 1) = (a : Int) - 1 from wrap64_id_ (n := (a : Int) - 1) (by omega))
    have fin : partitaref25_Break.l0 k ws ss line ws.length T F (wrap64 ((a : Int) - 1)) = some r := by
      rw [hw.out]
      refine h T F k ⟨lT, lF, fun b h1 h2 => ?_, fun b h1 h2 => ?_⟩ (by omega)
      · rcases Nat.lt_or_ge a b with c | c
        · exact hT b c h2
        · obtain rfl : b = a := by omega
          rw [hTa.out, if_neg (by omega), ← hB.out, show j = mFrom ws ss line b by omega, bestJ_m _ _ _ ha]; rfl
      · rcases Nat.lt_or_ge a b with c | c
        · exact hF b c h2
        · obtain rfl : b = a := by omega
          rw [hFa.out (by omega), ← hB.out, show j = mFrom ws ss line b by omega, bestJ_m _ _ _ ha]
    simp only [partitaref25_Break.l1]
    by_cases c : ((a + 1 + j : Nat) : Int) ≤ (ws.length : Int)
    · rw [if_pos c, one_f R a (a + 1 + j) (by omega) (by omega) (by omega), Option.bind_some]
      have h3 := m3 (by omega)
      rw [show a + mFrom ws ss line a + 1 = a + 1 + j by omega] at h3
      rw [h3, if_neg (by simp)]
      exact fin
    · rw [if_neg c]; exact fin
  | d + 1, j, k, T, F, e, hk, lT, lF, hT, hF, hTa, hFa => by
    obtain ⟨B, hB⟩ : ∃ B, bestJ ws ss line a j = B := ⟨_, rfl⟩
    rw [hB] at hTa hFa
    replace hTa := Aside0.mk hTa
    replace hFa := Aside0.mk hFa
    replace hB := Aside0.mk hB
    obtain ⟨k, rfl⟩ : ∃ k', k = k' + 1 := ⟨k - 1, by omega⟩
    obtain ⟨m1, m2, m3⟩ := mFrom_spec ws ss line a
    have hl := R.len
    have hfit := m2 j (by omega)
    rw [show a + j + 1 = a + 1 + j by omega] at hfit
    have hc := cst_range ws ss line a (a + 1 + j)
    have hto := hT (a + 1 + j) (by omega) (by omega)
    have hle : a + 1 + j ≤ ws.length := by omega
    have hts := tot_small R hle
    have hts2 := hts
    rw [← hto] at hts
    have hv : wrap64 (wrap64 (cst ws ss line a (a + 1 + j) + 10) + rd T ((a + 1 + j : Nat) : Int)) = val ws ss line a j := val_of hto hts.1 hts.2
    have hw : wrap64 (((a + 1 + j : Nat) : Int) + 1) = ((a + 1 + (j + 1) : Nat) : Int) := wrap_nat (by omega)
    replace hw := Aside0.mk hw
    replace hv := Aside0.mk hv
    have hvv : vv (tabI ws ss line ws.length) (itJ ws ss line a j) = val ws ss line a j := vv_itJ ws ss line a j (by rw [show a + j + 1 = a + 1 + j by omega]; exact hts2)
    clear hto hts hts2
    have hval := hvv
    unfold vv at hval
    replace hval := Aside0.mk hval
    replace hvv := Aside0.mk hvv
    simp only [partitaref25_Break.l1]
    rw [if_pos (by omega), one_f R a (a + 1 + j) (by omega) (by omega) (by omega), Option.bind_some, hfit, if_pos rfl, if_pos (by omega), if_pos (by omega), if_pos (by omega), if_pos (by omega)]
    dsimp only
    rw [hv.out, hw.out, Int.toNat_natCast]
    have keep : ∀ (T' : List Int) (F' : List S38), T' = T.set a (val ws ss line a j) → F' = F.set a (⟨(a : Int), ((a + 1 + j : Nat) : Int), cst ws ss line a (a + 1 + j)⟩ : S38) → bestJ ws ss line a (j + 1) = ((a : Int), (a : Int) + j + 1, cst ws ss line a (a + j + 1), val ws ss line a j) →
        partitaref25_Break.l1 k ws ss line ws.length T' F' a ((a + 1 + (j + 1) : Nat) : Int) = some r := by
      intro T' F' eT eF eb
      subst eT
      subst eF
      refine ref_l1 R ha r K h d (j + 1) k _ _ (by omega) (by omega) (by rw [List.length_set]; exact lT) (by rw [List.length_set]; exact lF) (fun b h1 h2 => ?_) (fun b h1 h2 => ?_) ?_ (fun _ => ?_)
      · rw [rd_set _ _ _ _ (by omega), if_neg (by omega)]; exact hT b h1 h2
      · rw [rd38_set _ _ _ _ (by omega), if_neg (by omega)]; exact hF b h1 h2
      · rw [rd_set _ _ _ _ (by omega), if_pos rfl, if_neg (by omega), eb]
      · rw [rd38_set _ _ _ _ (by omega), if_pos rfl, eb]
        unfold firstW
        dsimp only
        rw [show a + j + 1 = a + 1 + j by omega, show (a : Int) + j + 1 = ((a + 1 + j : Nat) : Int) by omega]
    have hsucc := bestJ_succ ws ss line a j
    unfold stepW at hsucc
    dsimp only at hsucc
    rw [hval.out, hB.out] at hsucc
    replace hsucc := Aside0.mk hsucc
    by_cases c0 : j = 0
    · have e1 : rd T (a : Int) = -1 := by rw [hTa.out, if_pos c0]
      rw [e1, if_pos (by decide), if_pos (by omega)]
      refine keep _ _ rfl rfl ?_
      rw [hsucc.out, if_pos (.inl (by rw [← hB.out]; subst c0; rfl))]
      rfl
    · have e1 := Aside0.mk (show rd T (a : Int) = B.2.2.2 by rw [hTa.out, if_neg c0])
      obtain ⟨p1, p2⟩ := bestJ_pos R ha (j := j) (by omega) (by omega)
      rw [hB.out] at p1 p2
      obtain ⟨B0, B1, B2, B3⟩ := B
      dsimp only at p1 p2
      replace e1 : Aside0 (rd T (a : Int) = B3) := ⟨e1.out⟩
      rw [e1.out, if_neg (by omega)]
      by_cases c1 : val ws ss line a j ≤ B3
      · rw [if_pos c1, if_pos (by omega)]
        refine keep _ _ rfl rfl ?_
        rw [hsucc.out, if_pos (.inr c1)]
        rfl
      · rw [if_neg c1]
        have eb : bestJ ws ss line a (j + 1) = (B0, B1, B2, B3) := by rw [hsucc.out, if_neg (by rintro (q | q); exact p1 q; exact c1 q)]
        refine ref_l1 R ha r K h d (j + 1) k T F (by omega) (by omega) lT lF hT hF ?_ (fun _ => ?_)
        · rw [e1.out, if_neg (by omega), eb]
        · rw [hFa.out c0, eb]
theorem ref_l2 {ws ss : List Int} {line : Int} (R : Right ws ss line) (T : List Int) (F : List S38) (I : Inv ws ss line 0 T F) : ∀ (d a : Nat) (acc : List S38) (k : Nat), ws.length ≤ a + d → a ≤ ws.length → acc.length ≤ a → d + 2 ≤ k → partitaref25_Break.l2 k ws.length F acc a = some (acc ++ outI (tabI ws ss line ws.length) ws.length d a, 0)
  | 0, a, acc, k, h1, h2, h3, hk => by
    obtain ⟨k, rfl⟩ : ∃ k', k = k' + 1 := ⟨k - 1, by omega⟩
    simp only [partitaref25_Break.l2]
    rw [if_neg (by omega), out_end _ _ _ _ (by omega), List.append_nil]
  | d + 1, a, acc, k, h1, h2, h3, hk => by
    obtain ⟨k, rfl⟩ : ∃ k', k = k' + 1 := ⟨k - 1, by omega⟩
    simp only [partitaref25_Break.l2]
    have hl := R.len
    rcases Nat.lt_or_ge a ws.length with ha | ha
    · obtain ⟨-, j, hj, q, -⟩ := tab_spec R _ a rfl ha
      have hM := (mFrom_spec ws ss line a).1
      have lf := I.lf
      rw [if_pos (by omega), if_pos (by omega), if_pos (by omega), if_pos (by omega), I.f a (Nat.zero_le _) ha]
      have ho : outI (tabI ws ss line ws.length) ws.length (d + 1) a = firstW (tabI ws ss line ws.length a) :: outI (tabI ws ss line ws.length) ws.length d (tabI ws ss line ws.length a).2.1 := by
        show (if (a : Int) < ws.length then _ else _) = _
        rw [if_pos (by omega)]; rfl
      rw [ho]
      have e2 : (firstW (tabI ws ss line ws.length a)).f1 = ((a + j + 1 : Nat) : Int) := by rw [q]; show (a : Int) + j + 1 = _; omega
      have e3 : (tabI ws ss line ws.length a).2.1 = ((a + j + 1 : Nat) : Int) := e2
      rw [e2, e3, ref_l2 R T F I d (a + j + 1) _ k (by omega) (by omega) (by rw [List.length_append, List.length_singleton]; omega) (by omega), List.append_assoc]
      rw [← e2]
      rfl
    · rw [if_neg (by omega), out_end _ _ _ _ ha, List.append_nil]
theorem ref_l0 {ws ss : List Int} {line : Int} (R : Right ws ss line) : ∀ (a : Nat) (T : List Int) (F : List S38) (k : Nat), a ≤ ws.length → Inv ws ss line a T F → 500 * a + 500 ≤ k → partitaref25_Break.l0 k ws ss line ws.length T F ((a : Int) - 1) = some (outI (tabI ws ss line ws.length) ws.length ws.length (0 : Nat), 0)
  | 0, T, F, k, ha, I, hk => by
    obtain ⟨k, rfl⟩ : ∃ k', k = k' + 1 := ⟨k - 1, by omega⟩
    have hl := R.len
    simp only [partitaref25_Break.l0]
    rw [if_neg (by omega)]
    have := ref_l2 R T F I ws.length 0 [] k (by omega) (Nat.zero_le _) (Nat.le_refl _) (by omega)
    rw [List.nil_append] at this
    exact this
  | a + 1, T, F, k, ha, I, hk => by
    obtain ⟨k, rfl⟩ : ∃ k', k = k' + 1 := ⟨k - 1, by omega⟩
    have hl := R.len
    have hM := (mFrom_spec ws ss line a).1
    have lT := I.lt
    have lF := I.lf
    simp only [partitaref25_Break.l0]
    rw [show ((a + 1 : Nat) : Int) - 1 = (a : Int) by omega, if_pos (by omega), if_pos (by omega), if_pos (by omega), Int.toNat_natCast, show wrap64 ((a : Int) + 1) = ((a + 1 + 0 : Nat) : Int) by rw [wrap64_id_ (n := (a : Int) + 1) (by omega)]; omega]
    refine ref_l1 R (a := a) (by omega) _ (500 * a + 500) (fun T F k I hk => ref_l0 R a T F k (by omega) I hk) (mFrom ws ss line a) 0 k _ _ (by omega) (by omega) (by rw [List.length_set]; exact lT) lF (fun b h1 h2 => ?_) (fun b h1 h2 => I.f b h1 h2) ?_ (fun h => absurd rfl h)
    · rw [rd_set _ _ _ _ (by omega), if_neg (by omega)]; exact I.t b h1 h2
    · rw [rd_set _ _ _ _ (by omega), if_pos rfl, if_pos rfl]
theorem refBreak_f (ws ss : List Int) (line : Int) (hn : ws.length ≤ 1000) {k : Nat} (hk : 60000 ≤ k) : partitaref25_Break.f k ws ss line = some (breakI ws ss line) := by
  unfold partitaref25_Break.f
  rw [refcheck_f ws ss line hn (by omega), Option.bind_some]
  by_cases c : chkI ws ss line = 0
  · have R := right_of c
    have hl := R.len
    rw [if_pos c, breakI_yes c, wrap64_id_ (n := (ws.length : Int) + 1) (by omega), if_pos (by omega), if_pos (by omega), if_pos (by omega), wrap64_id_ (n := (ws.length : Int) - 1) (by omega)]
    have e : ((ws.length : Int) + 1).toNat = ws.length + 1 := by omega
    rw [e]
    refine ref_l0 R ws.length _ _ k (Nat.le_refl _) ⟨by simp, by simp, fun b h1 h2 => ?_, fun b h1 h2 => absurd h2 (by omega)⟩ (by omega)
    obtain rfl : b = ws.length := by omega
    have h0 := totI_range R (Nat.le_refl ws.length)
    have : rd (List.replicate (ws.length + 1) (0 : Int)) (ws.length : Int) = 0 := by
      unfold rd; rw [Int.toNat_natCast, List.getD_eq_getElem?_getD, List.getElem?_replicate, if_pos (by omega)]; rfl
    rw [this]; omega
  · rw [if_neg c, breakI_no c]
end Go.Proofs.YtneaoicjbiebkaaDoor.Pure
