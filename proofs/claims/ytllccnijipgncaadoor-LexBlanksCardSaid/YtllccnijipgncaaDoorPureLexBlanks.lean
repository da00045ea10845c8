/- LexBlanks: the plain law. No conditions. -/
import Derived.Test.YtllccnijipgncaaDoorKinds
import Derived.Test.YtllccnijipgncaaDoorLex6
import Derived.Test.YtllccnijipgncaaDoorLex8
import Derived.Test.YtllccnijipgncaaDoorQ22
namespace Go.Proofs.YtllccnijipgncaaDoor.Pure
open Go.RowKit Go.Proofs.YtllccnijipgncaaDoor.Q Go.Proofs.YtllccnijipgncaaDoorW.PrintWords Go.Proofs.YtllccnijipgncaaDoorW.PrintMore
def remL : List UInt8 := [32, 35, 32, 34, 110, 111, 32, 112, 105, 101, 99, 101]
/-- A piece with blanks about it, and a remark ahead of a line's end. -/
def blkL (o : Bool) (x : S35) : List UInt8 := (if x.f0 = 5 ∧ o = true then remL else []) ++ [32, 9] ++ bodL x.f0 x.f1 ++ [13, 32]
theorem tk_blank (o : Bool) : ∀ (l : List S35) (a : Nat), l.all rgtX = true → ∃ m, tkL (l.flatMap (blkL o)) a = (m, none) ∧ bare m = bare l
  | [], a, _ => ⟨[], tkL_nil a, rfl⟩
  | x :: r, a, h => by
    rw [List.all_cons, Bool.and_eq_true] at h
    have main : ∀ b : Nat, ∃ m, tkL (bodL x.f0 x.f1 ++ (13 :: 32 :: r.flatMap (blkL o))) b = (m, none) ∧ bare m = bare (x :: r) := by
      intro b
      have ht := tk_app x.f0 x.f1.data.toList (13 :: 32 :: r.flatMap (blkL o)) b h.1 (fun _ => by
        intro c u hc
        injection hc with h1 _
        rw [← h1]; decide)
      have ht2 : tkL (bodL x.f0 x.f1 ++ (13 :: 32 :: r.flatMap (blkL o))) b = (⟨x.f0, x.f1, b⟩ :: (tkL (13 :: 32 :: r.flatMap (blkL o)) (b + (bodL x.f0 x.f1).length)).1, (tkL (13 :: 32 :: r.flatMap (blkL o)) (b + (bodL x.f0 x.f1).length)).2) := ht
      rw [tkL_blk 13 _ _ (by decide), tkL_blk 32 _ _ (by decide)] at ht2
      obtain ⟨m, hm, hb⟩ := tk_blank o r (b + (bodL x.f0 x.f1).length + 1 + 1) h.2
      rw [hm] at ht2
      exact ⟨_, ht2, by unfold bare at hb ⊢; simp only [List.map_cons, hb]⟩
    rw [List.flatMap_cons]
    generalize r.flatMap (blkL o) = Rr at main ⊢
    unfold blkL
    by_cases h5 : x.f0 = 5 ∧ o = true
    · rw [if_pos h5]
      have hr : rgtL 5 x.f1.data.toList = true := by rw [← h5.1]; exact h.1
      have hl : x.f1.data.toList = [10] := by
        unfold rgtL at hr
        rw [if_neg (by decide), if_neg (by decide), if_neg (by decide), if_neg (by decide), if_pos rfl] at hr
        exact beq_iff_eq.1 hr
      have hb : bodL x.f0 x.f1 = [10] := by
        unfold bodL; rw [if_neg (by omega), hl]
      rw [hb] at main ⊢
      obtain ⟨m, hm, hbm⟩ := main (a + 1 + 1 + 12)
      refine ⟨m, ?_, hbm⟩
      unfold remL
      simp only [List.cons_append, List.nil_append]
      rw [tkL_blk 32 _ a (by decide), tkL_rem 35 _ _ (by decide)]
      have hw : (32 :: 34 :: 110 :: 111 :: 32 :: 112 :: 105 :: 101 :: 99 :: 101 :: 32 :: 9 :: 10 :: 13 :: 32 :: Rr).takeWhile linB = [32, 34, 110, 111, 32, 112, 105, 101, 99, 101, 32, 9] :=
        while_app linB [32, 34, 110, 111, 32, 112, 105, 101, 99, 101, 32, 9] (10 :: 13 :: 32 :: Rr) (by decide) (fun c u hc => by injection hc with h1 _; rw [← h1]; decide)
      rw [hw]; exact hm
    · rw [if_neg h5]
      obtain ⟨m, hm, hbm⟩ := main (a + 1 + 1)
      refine ⟨m, ?_, hbm⟩
      simp only [List.nil_append, List.append_assoc, List.cons_append]
      rw [tkL_blk 32 _ a (by decide), tkL_blk 9 _ _ (by decide)]
      exact hm
theorem blk_le (o : Bool) (x : S35) (h : x.f1.size ≤ 60) : (blkL o x).length ≤ 2000100 := by
  have := bod_le x.f0 x.f1 (by omega)
  unfold blkL remL
  simp only [List.length_append]
  split
  · simp only [List.length_cons, List.length_nil]; omega
  · simp only [List.length_cons, List.length_nil]; omega
theorem flat_len (o : Bool) : ∀ (l : List S35), (∀ x ∈ l, x.f1.size ≤ 60) → (l.flatMap (blkL o)).length ≤ l.length * 2000100
  | [], _ => by simp
  | x :: r, h => by
    have h1 := blk_le o x (h x List.mem_cons_self)
    have h2 := flat_len o r (fun y hy => h y (List.mem_cons_of_mem _ hy))
    rw [List.flatMap_cons, List.length_append, List.length_cons]; omega
theorem blanks_l0 (l : List S35) (n : Int) (hn : l.length ≤ 30) (hz : ∀ x ∈ l, x.f1.size ≤ 60) : ∀ (d i k : Nat), l.length - i = d → i ≤ l.length → d + 200000000 ≤ k → (l.take i).all rgtX = true →
    partitalaw18_LexBlanks.l0 k l n true ⟨((l.take i).flatMap (blkL (decide (Int.tmod n 2 = 1)))).toArray⟩ (i : Int) = some true := by
  intro d
  induction d with
  | zero =>
    intro i k hd hi hk hr
    obtain ⟨k, rfl⟩ : ∃ m, k = m + 1 := ⟨k - 1, by omega⟩
    have et : l.take i = l := List.take_of_length_le (by omega)
    rw [et] at hr ⊢
    simp only [partitalaw18_LexBlanks.l0]
    have hl := flat_len (decide (Int.tmod n 2 = 1)) l hz
    obtain ⟨m, hm, hbm⟩ := tk_blank (decide (Int.tmod n 2 = 1)) l 0 hr
    have hlm := len_bare hbm
    rw [if_neg (by omega), tokens_f _ (by omega) k (by omega), hm]
    simp only [resT, List.nil_append, Option.bind_some, if_true]
    rw [bare_f m (by omega) k (by omega), bare_f l (by omega) k (by omega)]
    simp only [Option.bind_some]
    rw [hbm, same_f (bare l) (by unfold bare; rw [List.length_map]; omega) k (by unfold bare; rw [List.length_map]; omega)]
    rfl
  | succ d ih =>
    intro i k hd hi hk hr
    obtain ⟨k, rfl⟩ : ∃ m, k = m + 1 := ⟨k - 1, by omega⟩
    have h : i < l.length := by omega
    have hl := flat_len (decide (Int.tmod n 2 = 1)) (l.take i) (fun x hx => hz x (List.mem_of_mem_take hx))
    have hli : (l.take i).length ≤ 30 := by rw [List.length_take]; omega
    simp only [partitalaw18_LexBlanks.l0]
    rw [if_pos (show (i : Int) < (l.length : Int) by omega), if_pos (by omega), w64 (by omega), if_pos (by omega), if_pos (by omega)]
    have e1 : (l.take ((i : Int) + 1).toNat).drop ((i : Int)).toNat = [l[i]] := by
      rw [show ((i : Int) + 1).toNat = i + 1 by omega, Int.toNat_natCast, List.take_succ_eq_append_getElem h, List.drop_append_of_le_length (by rw [List.length_take]; omega), List.drop_of_length_le (by rw [List.length_take]; omega)]
      rfl
    have hzx := hz l[i] (List.getElem_mem h)
    have ih1 := ih (i + 1) k (by omega) (by omega) (by omega)
    rw [List.take_succ_eq_append_getElem h, List.flatMap_append, List.flatMap_singleton] at ih1
    rw [e1, rd_getd l i h]
    generalize l[i] = x at hzx ih1
    generalize (l.take i).flatMap (blkL (decide (Int.tmod n 2 = 1))) = acc at hl ih1
    rw [print_f [x] (by simp) (fun y hy => by obtain rfl := List.mem_singleton.1 hy; omega)]
    have hall : ([x] : List S35).all rgtX = rgtX x := by simp
    cases hg : rgtX x with
    | false =>
      rw [if_neg (show ¬ ([x] : List S35).all rgtX = true by rw [hall, hg]; simp)]
      rfl
    | true =>
      have ih2 := ih1 (by rw [List.all_append, hr, hall, hg]; rfl)
      have ht : txt 5 [x] = bodL x.f0 x.f1 := by
        unfold txt sepL txt
        rw [if_neg (fun e => e.2 rfl)]; simp
      have hb := bod_le x.f0 x.f1 (by omega)
      rw [if_pos (show ([x] : List S35).all rgtX = true by rw [hall, hg]), ht]
      simp only [Option.bind_some]
      rw [if_pos trivial]
      have hzb := size_mk (bodL x.f0 x.f1)
      have z1 := size_mk acc
      have a2 : (⟨acc.toArray⟩ : ByteArray) ++ ⟨#[32, 9]⟩ = ⟨(acc ++ [32, 9]).toArray⟩ := app_mk acc [32, 9]
      have z2 := size_mk (acc ++ [32, 9])
      have a3 : (⟨(acc ++ [32, 9]).toArray⟩ : ByteArray) ++ ⟨(bodL x.f0 x.f1).toArray⟩ = _ := app_mk (acc ++ [32, 9]) (bodL x.f0 x.f1)
      have z3 := size_mk (acc ++ [32, 9] ++ bodL x.f0 x.f1)
      have a4 : (⟨(acc ++ [32, 9] ++ bodL x.f0 x.f1).toArray⟩ : ByteArray) ++ ⟨#[13, 32]⟩ = _ := app_mk (acc ++ [32, 9] ++ bodL x.f0 x.f1) [13, 32]
      simp only [List.length_append, List.length_cons, List.length_nil] at z2 z3
      have plain : ¬ (x.f0 = 5 ∧ Int.tmod n 2 = 1) → partitalaw18_LexBlanks.l0 k l n true ⟨(acc ++ [32, 9] ++ bodL x.f0 x.f1 ++ [13, 32]).toArray⟩ ((i : Int) + 1) = some true := by
        intro hno
        have e2 : blkL (decide (Int.tmod n 2 = 1)) x = [32, 9] ++ bodL x.f0 x.f1 ++ [13, 32] := by
          unfold blkL
          rw [if_neg (fun e => hno ⟨e.1, of_decide_eq_true e.2⟩)]; rfl
        rw [e2] at ih2
        have e3 : acc ++ ([32, 9] ++ bodL x.f0 x.f1 ++ [13, 32]) = acc ++ [32, 9] ++ bodL x.f0 x.f1 ++ [13, 32] := by simp
        rw [e3] at ih2
        exact ih2
      by_cases h5 : x.f0 = 5
      · rw [if_pos h5]
        by_cases ho : Int.tmod n 2 = 1
        · have b1 : (⟨acc.toArray⟩ : ByteArray) ++ ⟨#[32, 35, 32, 34, 110, 111, 32, 112, 105, 101, 99, 101]⟩ = ⟨(acc ++ remL).toArray⟩ := app_mk acc remL
          have b2 : (⟨(acc ++ remL).toArray⟩ : ByteArray) ++ ⟨#[32, 9]⟩ = ⟨(acc ++ remL ++ [32, 9]).toArray⟩ := app_mk (acc ++ remL) [32, 9]
          have b3 : (⟨(acc ++ remL ++ [32, 9]).toArray⟩ : ByteArray) ++ ⟨(bodL x.f0 x.f1).toArray⟩ = _ := app_mk (acc ++ remL ++ [32, 9]) (bodL x.f0 x.f1)
          have b4 : (⟨(acc ++ remL ++ [32, 9] ++ bodL x.f0 x.f1).toArray⟩ : ByteArray) ++ ⟨#[13, 32]⟩ = _ := app_mk (acc ++ remL ++ [32, 9] ++ bodL x.f0 x.f1) [13, 32]
          have y1 := size_mk (acc ++ remL)
          have y2 := size_mk (acc ++ remL ++ [32, 9])
          have y3 := size_mk (acc ++ remL ++ [32, 9] ++ bodL x.f0 x.f1)
          have hrl : remL.length = 12 := rfl
          simp only [List.length_append, List.length_cons, List.length_nil, hrl] at y1 y2 y3
          rw [if_pos ho, if_pos (by omega), b1, if_pos (by omega), b2, if_pos (by omega), b3, if_pos (by omega), b4]
          have e2 : blkL (decide (Int.tmod n 2 = 1)) x = remL ++ [32, 9] ++ bodL x.f0 x.f1 ++ [13, 32] := by
            unfold blkL
            rw [if_pos ⟨h5, decide_eq_true ho⟩]
          rw [e2] at ih2
          have e3 : acc ++ (remL ++ [32, 9] ++ bodL x.f0 x.f1 ++ [13, 32]) = acc ++ remL ++ [32, 9] ++ bodL x.f0 x.f1 ++ [13, 32] := by simp
          rw [e3] at ih2
          exact ih2
        · rw [if_neg ho, if_pos (by omega), a2, if_pos (by omega), a3, if_pos (by omega), a4]
          exact plain (fun e => ho e.2)
      · rw [if_neg h5, if_pos (by omega), a2, if_pos (by omega), a3, if_pos (by omega), a4]
        exact plain (fun e => h5 e.1)
theorem LexBlanks : ∀ (l0 : List (S35)) (a1 : Int), (l0.length * 32 ≤ 140737488351232 ∧ ∀ y ∈ l0, wf35 y) → ((Lit.int .u8 a1).wf = true) → ∃ k, partitalaw18_LexBlanks.f k l0 a1 = some true := by
  intro l0 a1 h0 _
  refine ⟨300000000, ?_⟩
  obtain ⟨K, hK⟩ : ∃ K : Nat, K = 300000000 := ⟨_, rfl⟩
  rw [← hK]
  unfold partitalaw18_LexBlanks.f
  rw [awake_ge K (by omega)]
  simp only [Option.bind_some]
  obtain ⟨b, hb, hfew⟩ := few_f l0 (by omega) K (by omega)
  rw [hb]
  simp only [Option.bind_some]
  by_cases hbt : b = true
  · obtain ⟨hn, hz⟩ := hfew hbt
    rw [if_pos hbt]
    have := blanks_l0 l0 a1 hn hz l0.length 0 K (by omega) (by omega) (by omega) rfl
    exact this
  · rw [if_neg hbt]
end Go.Proofs.YtllccnijipgncaaDoor.Pure
