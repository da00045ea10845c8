-- Written by a program of this session (myprint.py), function by function.
import Derived.Test.YtchjlkokfgmjaaaQ0
import Derived.Test.YtchjlkokfgmjaaaQ2
import Derived.Test.YtchjlkokfgmjaaaQ3
import Derived.Test.YtchjlkokfgmjaaaQ5
import Derived.BigRegion
import Derived.ChangeAlike
import Derived.IntWalk
import Derived.RegionTactic
import Derived.Shelf.Abstract
namespace Go.Proofs.Ytchjlkokfgmjaaa.Q
open Go.RowKit Go.Proofs.YtchjlkokfgmjaaaW.PrintWords Go.Proofs.YtchjlkokfgmjaaaW.PrintLast Go.Proofs.YtchjlkokfgmjaaaW.PrintMore
attribute [local go_sem] max2_int min2_int max_two min_two max_three min_three max_four min_four   -- for this text's walks alone
set_option linter.unusedVariables false
set_option linter.unusedSimpArgs false

-- NOT PRINTED: function 44 (api_Tempo_44)

/-! ### tempo_last: function 29 -/
def aboveB (a b : Int) (d : S36) : Bool := decide (0 < cmpI d.f0.f0 d.f0.f1 a b)
theorem cmp_any (a b c d : Int) (w : World) :
    Calls Try.prog 19 #[.agg #[.int .i64 a, .int .i64 b], .agg #[.int .i64 c, .int .i64 d]] w fun e w' => e = .returned (.int .i64 (cmpI a b c d)) ∧ Below w.heap.size w w' := ratio_Compare.calls a b c d _ w rfl
set_option maxHeartbeats 1000000 in
set_option maxRecDepth 100000 in
theorem above_any (B : Nat) (a b x y z : Int) (t : Bool) (w : World) (hB : B < w.heap.size) (h0 : w.cell? ⟨B, 0, none⟩ = some (.int .i64 a)) (h1 : w.cell? ⟨B, 1, none⟩ = some (.int .i64 b)) :
    Calls Try.prog 45 #[.agg #[.int .i64 x, .int .i64 y, .int .i64 z, .bool t], .pointer (some ⟨B, 0, none⟩)] w fun e w' => e = .returned (.bool (decide (0 < cmpI x y a b))) ∧ Below w.heap.size w w' := by
  have HB := Aside0.mk (Below.refl w.heap.size w)
  have hu := Try.underlying27
  generalize hr : decide (0 < cmpI x y a b) = r
  have hne : B ≠ w.heap.size := by omega
  have hne2 : w.heap.size ≠ B := by omega
  have HR := Aside0.mk hr
  clear hr
  go_enter Try.func45, Try.ntmps45
  go_wp2_with (go_at_call 19; (with_reducible refine (cmp_any _ _ _ _ _).mono ?_); rintro e w1 ⟨rfl, hb⟩)
  rw [HR.out]
  go_ret
  exact ⟨rfl, (by repeat (first | exact HB.out | apply below_alloc) : Below w.heap.size w _).trans (hb.mono (by simp))⟩
/-- The first index at which p holds; -1. -/
def idxI (p : S36 → Bool) : List S36 → Int
  | [] => -1
  | d :: l => if p d = true then 0 else if idxI p l = -1 then -1 else idxI p l + 1
def idxFrom (p : S36 → Bool) (k : Nat) (l : List S36) : Int := if idxI p l = -1 then -1 else idxI p l + k
theorem idxFrom_step (p : S36 → Bool) (l : List S36) (k : Nat) (h : k < l.length) : idxFrom p k (l.drop k) = if p (rd_T36 l k) = true then (k : Int) else idxFrom p (k + 1) (l.drop (k + 1)) := by
  rw [List.drop_eq_getElem_cons h]
  have e : rd_T36 l (k : Int) = l[k] := by simp [rd_T36, List.getD, h]
  rw [e]
  unfold idxFrom
  simp only [idxI]
  by_cases hp : p l[k] = true
  · simp [hp]
  · simp only [hp, if_false, Bool.false_eq_true]
    by_cases h1 : idxI p (l.drop (k + 1)) = -1
    · simp [h1]
    · have h2 : 0 ≤ idxI p (l.drop (k + 1)) := by
        clear hp e
        generalize l.drop (k + 1) = m at h1
        induction m with
        | nil => simp [idxI] at h1
        | cons d m ih =>
          simp only [idxI] at h1 ⊢
          split
          · omega
          · rename_i hd
            rw [if_neg hd] at h1
            by_cases h3 : idxI p m = -1
            · rw [if_pos h3] at h1; exact absurd rfl h1
            · rw [if_neg h3]; have := ih h3; omega
      rw [if_neg h1, if_neg (by omega), if_neg h1]
      push_cast
      omega
set_option maxHeartbeats 1000000 in
set_option maxRecDepth 100000 in
theorem IndexFunc_any (g : Nat) (eg : ∀ args w, (callFunc g args).run Try.prog w = .ok (.enter g args) w) (lb : Array Value) (p : S36 → Bool) (A : Option Addr) (c : Nat) (l : List S36) (w : World) (hr : Kd.C k36 w A l.length l) (hc : l.length ≤ c) (hlen : l.length ≤ 1000)
    (hP : ∀ (j : Nat) (_ : j < l.length) (W : World), Below w.heap.size w W → Calls Try.prog g (#[.agg #[.int .i64 (rd_T36 l j).f0.f0, .int .i64 (rd_T36 l j).f0.f1, .int .i64 (rd_T36 l j).f1, .bool (rd_T36 l j).f2]] ++ lb) W fun e W' => e = .returned (.bool (p (rd_T36 l j))) ∧ Below W.heap.size W W') :
    Calls Try.prog 44 #[.slice A l.length c, .func (.func g) #[] lb] w fun e w' => e = .returned (.int .i64 (idxI p l)) ∧ Below w.heap.size w w' := by
  have hres : idxFrom p 0 (l.drop 0) = idxI p l := by unfold idxFrom; split <;> simp_all
  have HRES := Aside0.mk hres
  generalize idxI p l = r at *
  have HR := Aside0.mk hr
  have HP := Aside0.mk hP
  have HB := Aside0.mk (Below.refl w.heap.size w)
  clear hr hP hres
  have hu := Try.underlying36
  go_enter Try.func44, Try.ntmps44
  go_wp2
  go_loopw [8] (fun i wr => ∃ k : Nat, i = .int .i64 k ∧ k ≤ l.length ∧ Aside0 (idxFrom p k (l.drop k) = r) ∧ Aside0 (Below w.heap.size w wr)) (fun i _ => l.length - (intOf i).toNat)
  case atStart => exact ⟨0, rfl, by omega, HRES, HB⟩
  case round =>
    obtain ⟨k, rfl, hk, HT, HB2⟩ := hrel
    clear HRES
    by_cases hlt : k < l.length
    · have h2 := HT.out
      rw [idxFrom_step p l k hlt] at h2
      have H2 := Aside0.mk h2
      obtain ⟨ad, rfl, x0, x1, x2, x3⟩ := at_T36 HR.out (k : Int) (by omega) (by omega)
      have y0 := (HB2.out.cell (World.block_lt_of_cell? w _ x0)).trans x0
      have y1 := (HB2.out.cell (World.block_lt_of_cell? w _ x1)).trans x1
      have y2 := (HB2.out.cell (World.block_lt_of_cell? w _ x2)).trans x2
      have y3 := (HB2.out.cell (World.block_lt_of_cell? w _ x3)).trans x3
      rw [Int.toNat_natCast] at y0 y1 y2 y3
      have M := Aside0.mk (HP.out k hlt wr HB2.out)
      clear h2 x0 x1 x2 x3 HT
      generalize rd_T36 l (k : Int) = d at *
      have hltd : decide (k < l.length) = true := by simp; omega
      by_cases hp : p d = true
      · rw [hp] at M H2
        rw [if_pos rfl] at H2
        have HK := H2.out
        clear H2
        subst HK
        go_wp2_with (go_at_fn g; refine M.out.mono ?_; rintro e w1 ⟨rfl, hb⟩)
        go_ret
        exact ⟨rfl, HB2.out.trans (hb.mono HB2.out.size)⟩
      · replace hp := Bool.eq_false_iff.mpr hp
        rw [hp] at M H2
        rw [if_neg (by decide)] at H2
        go_wp2_with (go_at_fn g; refine M.out.mono ?_; rintro e w1 ⟨rfl, hb⟩)
        go_roundw
        case rel => exact ⟨k + 1, by go_num, by omega, H2, ⟨HB2.out.trans (hb.mono HB2.out.size)⟩⟩
        case measure => simp [intOf]; omega
    · have e : k = l.length := by omega
      subst e
      have h2 := HT.out
      rw [List.drop_length] at h2
      have HK : (-1 : Int) = r := h2
      clear h2 HT
      subst HK
      have hltd : decide (l.length < l.length) = false := by simp
      go_wp2
      go_ret
      exact ⟨rfl, HB2.out⟩
/-- The number of the last tempo whose place isn't above (a, b). -/
def lastN (l : List S36) (a b : Int) : Int := if idxI (aboveB a b) l < 0 then (l.length : Int) else idxI (aboveB a b) l
def tempo_last.f (k : Nat) (l : List S36) (a b : Int) : Option Int := if l.length ≤ 1000 then some (wrap64 (lastN l a b - 1)) else none
theorem tempo_last.mono : ∀ l a b k, LeO (tempo_last.f k l a b) (tempo_last.f (k + 1) l a b) := fun _ _ _ _ => LeO.refl _
set_option maxHeartbeats 1000000 in
set_option maxRecDepth 100000 in
theorem tempo_last.calls (k : Nat) (A0 : Option Addr) (c0 : Nat) (l0 : List S36) (a b : Int) (r : Int) (w : World) (hr : Kd.C k36 w A0 l0.length l0) (hc : l0.length ≤ c0) (h : tempo_last.f k l0 a b = some r) :
    Calls Try.prog 29 #[.slice A0 l0.length c0, .agg #[.int .i64 a, .int .i64 b]] w fun e w' => e = .returned (.int .i64 r) ∧ Below w.heap.size w w' := by
  unfold tempo_last.f at h
  split at h
  next hlen =>
    have h2 := Option.some.inj h
    clear h
    subst h2
    have hu := Try.underlying27
    have HB := Aside0.mk (Below.refl w.heap.size w)
    unfold lastN
    have hX := fun (W : World) (hb : Below w.heap.size w W) (B : Nat) (hB : B < W.heap.size) (h0 : W.cell? ⟨B, 0, none⟩ = some (.int .i64 a)) (h1 : W.cell? ⟨B, 1, none⟩ = some (.int .i64 b)) =>
      IndexFunc_any 45 (enters_of Try.func45 (by kernel_rfl) rfl) #[.pointer (some ⟨B, 0, none⟩)] (aboveB a b) A0 c0 l0 W (Kd.C_below hr hb) hc hlen
        (fun j _ W2 hb2 => above_any B a b (rd_T36 l0 j).f0.f0 (rd_T36 l0 j).f0.f1 (rd_T36 l0 j).f1 (rd_T36 l0 j).f2 W2 (Nat.lt_of_lt_of_le hB hb2.size) ((hb2.cell (p := ⟨B, 0, none⟩) hB).trans h0) ((hb2.cell (p := ⟨B, 1, none⟩) hB).trans h1))
    have k0 : (w.alloc (.cells #[.int .i64 a, .int .i64 b] 27)).cell? ⟨w.heap.size, 0, none⟩ = some (.int .i64 a) := (blk_cell (blk_new w _) 0).trans rfl
    have k1 : (w.alloc (.cells #[.int .i64 a, .int .i64 b] 27)).cell? ⟨w.heap.size, 1, none⟩ = some (.int .i64 b) := (blk_cell (blk_new w _) 1).trans rfl
    have M := Aside0.mk (hX _ (below_alloc HB.out _) w.heap.size (by simp) k0 k1)
    clear hX
    clear hr k0 k1
    generalize idxI (aboveB a b) l0 = n at *
    by_cases hn : n < 0
    · have e1 : decide (n < 0) = true := decide_eq_true hn
      rw [if_pos hn]
      clear hn
      rw [show wrap64 ((l0.length : Int) - 1) = (l0.length : Int) - 1 from by unfold wrap64; omega]
      go_enter Try.func29, Try.ntmps29
      go_wp2_with (go_at_call 44; (with_reducible refine M.out.mono ?_); rintro e w1 ⟨rfl, hb⟩; have HB1 := Aside0.mk ((below_alloc HB.out _).trans (hb.mono (by simp))); clear hb)
      go_ret
      exact ⟨rfl, HB1.out⟩
    · have e1 : decide (n < 0) = false := decide_eq_false hn
      rw [if_neg hn]
      clear hn
      go_enter Try.func29, Try.ntmps29
      go_wp2_with (go_at_call 44; (with_reducible refine M.out.mono ?_); rintro e w1 ⟨rfl, hb⟩; have HB1 := Aside0.mk ((below_alloc HB.out _).trans (hb.mono (by simp))); clear hb)
      go_ret
      exact ⟨rfl, HB1.out⟩
  next => cases h

/-! ### tempo_asked: function 24 -/
def tempo_asked.f (k : Nat) (l0 : List (S36)) (a1_0 : Int) (a1_1 : Int) : Option (Int) := (tempo_Check.f k l0).bind fun bt120 => (if bt120.2 = 0 then ((ratio_Right.f a1_0 a1_1).bind fun t122 => (if t122 = true then (if a1_0 < 0 then (some 2) else (some 0)) else (some 2))) else (some bt120.2))
theorem tempo_asked.mono : ∀ a0 a1 a2 k, LeO (tempo_asked.f k a0 a1 a2) (tempo_asked.f (k + 1) a0 a1 a2) := by
  intro a0 a1 a2 k
  unfold tempo_asked.f
  repeat' first
      | (with_reducible exact tempo_Check.mono _ _)
      | (with_reducible exact LeO.refl _)
      | (with_reducible exact LeO.none _)
      | (with_reducible refine LeO.ite ?_ ?_)
      | (with_reducible refine LeO.bind ?_ (fun _ => ?_))
      | exact tempo_Check.mono _ _
      | exact LeO.none _
      | refine LeO.ite ?_ ?_
      | refine LeO.bind ?_ (fun _ => ?_)
set_option maxHeartbeats 8000000 in
set_option maxRecDepth 100000 in
theorem tempo_asked.calls (k : Nat) (A0 : Option Addr) (c0 : Nat) (l0 : List (S36)) (a1_0 : Int) (a1_1 : Int) (r : Int) (w : World) (hr0 : Kd.C k36 w A0 l0.length l0) (hc0 : l0.length ≤ c0) (h : tempo_asked.f k l0 a1_0 a1_1 = some r) :
    Calls Try.prog 24 #[.slice A0 l0.length c0, .agg #[.int .i64 a1_0, .int .i64 a1_1]] w fun e w' => e = .returned (.int .i64 r) ∧ Below w.heap.size w w' := by
  have hu27 := Try.underlying27
  have HR0 := Aside0.mk hr0
  have HC0 := Aside0.mk hc0
  clear hr0 hc0
  have HB := Aside0.mk (Below.refl w.heap.size w)
  have H : ((tempo_Check.f k l0).bind fun bt120 => (if bt120.2 = 0 then ((ratio_Right.f a1_0 a1_1).bind fun t122 => (if t122 = true then (if a1_0 < 0 then (some 2) else (some 0)) else (some 2))) else (some bt120.2))) = some r := h
  clear h
  replace H := Option.bind_eq_some_iff.mp H
  obtain ⟨⟨t120, t121⟩, A30, H⟩ := H
  replace H : (if t121 = 0 then ((ratio_Right.f a1_0 a1_1).bind fun t122 => (if t122 = true then (if a1_0 < 0 then (some 2) else (some 0)) else (some 2))) else (some t121)) = some r := H
  have A3 := Aside0.mk A30
  clear A30
  by_cases c4 : t121 = 0
  · rw [if_pos c4] at H
    have c4b0 : (t121 == 0) = true := beq_iff_eq.mpr c4
    have c4b1 : (t121 != 0) = false := bne_eq_false_iff_eq.mpr c4
    clear c4
    replace H := Option.bind_eq_some_iff.mp H
    obtain ⟨t122, A50, H⟩ := H
    replace H : (if t122 = true then (if a1_0 < 0 then (some 2) else (some 0)) else (some 2)) = some r := H
    have A5 := Aside0.mk A50
    clear A50
    by_cases c6 : t122 = true
    · subst c6
      have H1 : (if a1_0 < 0 then (some 2) else (some 0)) = some r := by rw [if_pos rfl] at H; exact H
      clear H
      have H := H1
      clear H1
      by_cases c7 : a1_0 < 0
      · rw [if_pos c7] at H
        have c7b0 : decide (a1_0 < 0) = true := decide_eq_true c7
        clear c7
        obtain rfl := Option.some.inj H
        go_enter Try.func24, Try.ntmps24
        go_wp2_with (first | ((with_reducible refine gate_dst (N := 3) rfl ?_); refine box_event ?hg (N := 3) ?hd (cs := #[.int .i64 a1_0, .int .i64 a1_1]) (t := 27) ?hr ?_; (case hd => rfl); (case hg => rfl); (case hr => first | (go_simp; done) | (go_simp; rfl)); intro gb119 hg w8 hbox hb; have n0_ := Aside0.mk (below_step (by repeat (first | (with_reducible first | exact HB.out | apply below_alloc | apply pw_below_drewN | apply below_drew1) | exact HB.out)) hb); have n1_ := Aside0.mk (hbox); have n2_ := Aside0.mk ((by rw [hg]; exact (below_size (by repeat (first | (with_reducible first | exact HB.out | apply below_alloc | apply pw_below_drewN | apply below_drew1) | exact HB.out))) : w.heap.size ≤ gb119)); have n3_ := Aside0.mk ((by rw [hg]; exact (below_size (by repeat (first | (with_reducible first | exact HB.out | apply below_alloc | apply pw_below_drewN | apply below_drew1) | exact HB.out))) : w.heap.size ≤ gb119)); clear HB; have HB := n0_; have BK119 := n1_; have GW119 := n2_; have GE119 := n3_; clear n0_ n1_ n2_ n3_; clear hb hbox hg) | ((with_reducible refine gate_callee (f := 20) rfl ?_); refine goesL_ (some 9) rfl rfl Try.func20 (by kernel_rfl) rfl #[.slice A0 l0.length c0] rfl (by (try simp only [List.map_toArray, List.map_cons, List.map_nil]); first | done | rfl | (simp only [List.length_drop, List.length_take]; rfl)) ?_; (with_reducible refine (tempo_Check.calls k _ _ l0 t120 t121 _ ?side1 ?side2 A3.out).mono ?_); (case side1 => repeat (first | exact (Kd.C_below HR0.out HB.out) | (with_reducible refine Kd.C_alloc ?_ _) | (with_reducible refine Kd.C_drewN ?_ _) | (with_reducible refine Kd.C_drew ?_))); (case side2 => exact HC0.out); rintro e w9 ⟨rfl, hb⟩; refine ⟨_, rfl, ?_⟩; have n0_ := Aside0.mk (blk_below (g := gb119) (o := .cells #[.int .i64 a1_0, .int .i64 a1_1] 27 (0, 0)) (by (with_reducible repeat (first | refine blk_drewN ?_ _ | refine blk_drew ?_ | refine blk_alloc ?_ _)); exact BK119.out) hb); have n1_ := Aside0.mk (below_step (by repeat (first | (with_reducible first | exact HB.out | apply below_alloc | apply pw_below_drewN | apply below_drew1 | refine below_set ?_ GE119.out) | exact HB.out)) hb); clear BK119; clear HB; have BK119 := n0_; have HB := n1_; clear n0_ n1_; (try clear hb); (try clear hb2); (try clear hk); (try clear hi); have hcz10_0 : w9.cell? ⟨gb119, 0, none⟩ = some (.int .i64 a1_0) := (blk_cell BK119.out 0).trans rfl; have hcz10_1 : w9.cell? ⟨gb119, 1, none⟩ = some (.int .i64 a1_1) := (blk_cell BK119.out 1).trans rfl; have hfz10_0 := blk_frozen BK119.out 0; have hfz10_1 := blk_frozen BK119.out 1) | ((with_reducible refine gate_callee (f := 36) rfl ?_); refine goesL_ (some 16) rfl rfl Try.func36 (by kernel_rfl) rfl #[.agg #[.int .i64 a1_0, .int .i64 a1_1]] rfl (by (try simp only [List.map_toArray, List.map_cons, List.map_nil]); first | done | rfl | (simp only [List.length_drop, List.length_take]; rfl)) ?_; (with_reducible refine (ratio_Right.calls a1_0 a1_1 true _ A5.out).mono ?_); rintro e w11 ⟨rfl, hb⟩; refine ⟨_, rfl, ?_⟩; have n0_ := Aside0.mk (blk_below (g := gb119) (o := .cells #[.int .i64 a1_0, .int .i64 a1_1] 27 (0, 0)) (by (with_reducible repeat (first | refine blk_drewN ?_ _ | refine blk_drew ?_ | refine blk_alloc ?_ _)); exact BK119.out) hb); have n1_ := Aside0.mk (below_step (by repeat (first | (with_reducible first | exact HB.out | apply below_alloc | apply pw_below_drewN | apply below_drew1 | refine below_set ?_ GE119.out) | exact HB.out)) hb); clear BK119; clear HB; have BK119 := n0_; have HB := n1_; clear n0_ n1_; (try clear hb); (try clear hb2); (try clear hk); (try clear hi); have hcz12_0 : w11.cell? ⟨gb119, 0, none⟩ = some (.int .i64 a1_0) := (blk_cell BK119.out 0).trans rfl; have hcz12_1 : w11.cell? ⟨gb119, 1, none⟩ = some (.int .i64 a1_1) := (blk_cell BK119.out 1).trans rfl; have hfz12_0 := blk_frozen BK119.out 0; have hfz12_1 := blk_frozen BK119.out 1))
        go_ret
        exact ⟨by first | rfl | (simp [errW_none, errW_some] <;> rfl) | (simp [*, errW_none, errW_some] <;> rfl), by repeat (first | (with_reducible first | exact HB.out | apply below_alloc | apply pw_below_drewN | apply below_drew1 | refine below_set ?_ GE119.out) | exact HB.out)⟩
      · rw [if_neg c7] at H
        have c7b0 : decide (a1_0 < 0) = false := decide_eq_false c7
        clear c7
        obtain rfl := Option.some.inj H
        go_enter Try.func24, Try.ntmps24
        go_wp2_with (first | ((with_reducible refine gate_dst (N := 3) rfl ?_); refine box_event ?hg (N := 3) ?hd (cs := #[.int .i64 a1_0, .int .i64 a1_1]) (t := 27) ?hr ?_; (case hd => rfl); (case hg => rfl); (case hr => first | (go_simp; done) | (go_simp; rfl)); intro gb119 hg w13 hbox hb; have n0_ := Aside0.mk (below_step (by repeat (first | (with_reducible first | exact HB.out | apply below_alloc | apply pw_below_drewN | apply below_drew1) | exact HB.out)) hb); have n1_ := Aside0.mk (hbox); have n2_ := Aside0.mk ((by rw [hg]; exact (below_size (by repeat (first | (with_reducible first | exact HB.out | apply below_alloc | apply pw_below_drewN | apply below_drew1) | exact HB.out))) : w.heap.size ≤ gb119)); have n3_ := Aside0.mk ((by rw [hg]; exact (below_size (by repeat (first | (with_reducible first | exact HB.out | apply below_alloc | apply pw_below_drewN | apply below_drew1) | exact HB.out))) : w.heap.size ≤ gb119)); clear HB; have HB := n0_; have BK119 := n1_; have GW119 := n2_; have GE119 := n3_; clear n0_ n1_ n2_ n3_; clear hb hbox hg) | ((with_reducible refine gate_callee (f := 20) rfl ?_); refine goesL_ (some 9) rfl rfl Try.func20 (by kernel_rfl) rfl #[.slice A0 l0.length c0] rfl (by (try simp only [List.map_toArray, List.map_cons, List.map_nil]); first | done | rfl | (simp only [List.length_drop, List.length_take]; rfl)) ?_; (with_reducible refine (tempo_Check.calls k _ _ l0 t120 t121 _ ?side1 ?side2 A3.out).mono ?_); (case side1 => repeat (first | exact (Kd.C_below HR0.out HB.out) | (with_reducible refine Kd.C_alloc ?_ _) | (with_reducible refine Kd.C_drewN ?_ _) | (with_reducible refine Kd.C_drew ?_))); (case side2 => exact HC0.out); rintro e w14 ⟨rfl, hb⟩; refine ⟨_, rfl, ?_⟩; have n0_ := Aside0.mk (blk_below (g := gb119) (o := .cells #[.int .i64 a1_0, .int .i64 a1_1] 27 (0, 0)) (by (with_reducible repeat (first | refine blk_drewN ?_ _ | refine blk_drew ?_ | refine blk_alloc ?_ _)); exact BK119.out) hb); have n1_ := Aside0.mk (below_step (by repeat (first | (with_reducible first | exact HB.out | apply below_alloc | apply pw_below_drewN | apply below_drew1 | refine below_set ?_ GE119.out) | exact HB.out)) hb); clear BK119; clear HB; have BK119 := n0_; have HB := n1_; clear n0_ n1_; (try clear hb); (try clear hb2); (try clear hk); (try clear hi); have hcz15_0 : w14.cell? ⟨gb119, 0, none⟩ = some (.int .i64 a1_0) := (blk_cell BK119.out 0).trans rfl; have hcz15_1 : w14.cell? ⟨gb119, 1, none⟩ = some (.int .i64 a1_1) := (blk_cell BK119.out 1).trans rfl; have hfz15_0 := blk_frozen BK119.out 0; have hfz15_1 := blk_frozen BK119.out 1) | ((with_reducible refine gate_callee (f := 36) rfl ?_); refine goesL_ (some 16) rfl rfl Try.func36 (by kernel_rfl) rfl #[.agg #[.int .i64 a1_0, .int .i64 a1_1]] rfl (by (try simp only [List.map_toArray, List.map_cons, List.map_nil]); first | done | rfl | (simp only [List.length_drop, List.length_take]; rfl)) ?_; (with_reducible refine (ratio_Right.calls a1_0 a1_1 true _ A5.out).mono ?_); rintro e w16 ⟨rfl, hb⟩; refine ⟨_, rfl, ?_⟩; have n0_ := Aside0.mk (blk_below (g := gb119) (o := .cells #[.int .i64 a1_0, .int .i64 a1_1] 27 (0, 0)) (by (with_reducible repeat (first | refine blk_drewN ?_ _ | refine blk_drew ?_ | refine blk_alloc ?_ _)); exact BK119.out) hb); have n1_ := Aside0.mk (below_step (by repeat (first | (with_reducible first | exact HB.out | apply below_alloc | apply pw_below_drewN | apply below_drew1 | refine below_set ?_ GE119.out) | exact HB.out)) hb); clear BK119; clear HB; have BK119 := n0_; have HB := n1_; clear n0_ n1_; (try clear hb); (try clear hb2); (try clear hk); (try clear hi); have hcz17_0 : w16.cell? ⟨gb119, 0, none⟩ = some (.int .i64 a1_0) := (blk_cell BK119.out 0).trans rfl; have hcz17_1 : w16.cell? ⟨gb119, 1, none⟩ = some (.int .i64 a1_1) := (blk_cell BK119.out 1).trans rfl; have hfz17_0 := blk_frozen BK119.out 0; have hfz17_1 := blk_frozen BK119.out 1))
        go_ret
        exact ⟨by first | rfl | (simp [errW_none, errW_some] <;> rfl) | (simp [*, errW_none, errW_some] <;> rfl), by repeat (first | (with_reducible first | exact HB.out | apply below_alloc | apply pw_below_drewN | apply below_drew1 | refine below_set ?_ GE119.out) | exact HB.out)⟩
    · replace c6 := Bool.eq_false_iff.mpr c6
      subst c6
      have H1 : (some 2) = some r := by rw [if_neg (show ¬ (false = true) by decide)] at H; exact H
      clear H
      have H := H1
      clear H1
      obtain rfl := Option.some.inj H
      go_enter Try.func24, Try.ntmps24
      go_wp2_with (first | ((with_reducible refine gate_dst (N := 3) rfl ?_); refine box_event ?hg (N := 3) ?hd (cs := #[.int .i64 a1_0, .int .i64 a1_1]) (t := 27) ?hr ?_; (case hd => rfl); (case hg => rfl); (case hr => first | (go_simp; done) | (go_simp; rfl)); intro gb119 hg w18 hbox hb; have n0_ := Aside0.mk (below_step (by repeat (first | (with_reducible first | exact HB.out | apply below_alloc | apply pw_below_drewN | apply below_drew1) | exact HB.out)) hb); have n1_ := Aside0.mk (hbox); have n2_ := Aside0.mk ((by rw [hg]; exact (below_size (by repeat (first | (with_reducible first | exact HB.out | apply below_alloc | apply pw_below_drewN | apply below_drew1) | exact HB.out))) : w.heap.size ≤ gb119)); have n3_ := Aside0.mk ((by rw [hg]; exact (below_size (by repeat (first | (with_reducible first | exact HB.out | apply below_alloc | apply pw_below_drewN | apply below_drew1) | exact HB.out))) : w.heap.size ≤ gb119)); clear HB; have HB := n0_; have BK119 := n1_; have GW119 := n2_; have GE119 := n3_; clear n0_ n1_ n2_ n3_; clear hb hbox hg) | ((with_reducible refine gate_callee (f := 20) rfl ?_); refine goesL_ (some 9) rfl rfl Try.func20 (by kernel_rfl) rfl #[.slice A0 l0.length c0] rfl (by (try simp only [List.map_toArray, List.map_cons, List.map_nil]); first | done | rfl | (simp only [List.length_drop, List.length_take]; rfl)) ?_; (with_reducible refine (tempo_Check.calls k _ _ l0 t120 t121 _ ?side1 ?side2 A3.out).mono ?_); (case side1 => repeat (first | exact (Kd.C_below HR0.out HB.out) | (with_reducible refine Kd.C_alloc ?_ _) | (with_reducible refine Kd.C_drewN ?_ _) | (with_reducible refine Kd.C_drew ?_))); (case side2 => exact HC0.out); rintro e w19 ⟨rfl, hb⟩; refine ⟨_, rfl, ?_⟩; have n0_ := Aside0.mk (blk_below (g := gb119) (o := .cells #[.int .i64 a1_0, .int .i64 a1_1] 27 (0, 0)) (by (with_reducible repeat (first | refine blk_drewN ?_ _ | refine blk_drew ?_ | refine blk_alloc ?_ _)); exact BK119.out) hb); have n1_ := Aside0.mk (below_step (by repeat (first | (with_reducible first | exact HB.out | apply below_alloc | apply pw_below_drewN | apply below_drew1 | refine below_set ?_ GE119.out) | exact HB.out)) hb); clear BK119; clear HB; have BK119 := n0_; have HB := n1_; clear n0_ n1_; (try clear hb); (try clear hb2); (try clear hk); (try clear hi); have hcz20_0 : w19.cell? ⟨gb119, 0, none⟩ = some (.int .i64 a1_0) := (blk_cell BK119.out 0).trans rfl; have hcz20_1 : w19.cell? ⟨gb119, 1, none⟩ = some (.int .i64 a1_1) := (blk_cell BK119.out 1).trans rfl; have hfz20_0 := blk_frozen BK119.out 0; have hfz20_1 := blk_frozen BK119.out 1) | ((with_reducible refine gate_callee (f := 36) rfl ?_); refine goesL_ (some 16) rfl rfl Try.func36 (by kernel_rfl) rfl #[.agg #[.int .i64 a1_0, .int .i64 a1_1]] rfl (by (try simp only [List.map_toArray, List.map_cons, List.map_nil]); first | done | rfl | (simp only [List.length_drop, List.length_take]; rfl)) ?_; (with_reducible refine (ratio_Right.calls a1_0 a1_1 false _ A5.out).mono ?_); rintro e w21 ⟨rfl, hb⟩; refine ⟨_, rfl, ?_⟩; have n0_ := Aside0.mk (blk_below (g := gb119) (o := .cells #[.int .i64 a1_0, .int .i64 a1_1] 27 (0, 0)) (by (with_reducible repeat (first | refine blk_drewN ?_ _ | refine blk_drew ?_ | refine blk_alloc ?_ _)); exact BK119.out) hb); have n1_ := Aside0.mk (below_step (by repeat (first | (with_reducible first | exact HB.out | apply below_alloc | apply pw_below_drewN | apply below_drew1 | refine below_set ?_ GE119.out) | exact HB.out)) hb); clear BK119; clear HB; have BK119 := n0_; have HB := n1_; clear n0_ n1_; (try clear hb); (try clear hb2); (try clear hk); (try clear hi)))
      go_ret
      exact ⟨by first | rfl | (simp [errW_none, errW_some] <;> rfl) | (simp [*, errW_none, errW_some] <;> rfl), by repeat (first | (with_reducible first | exact HB.out | apply below_alloc | apply pw_below_drewN | apply below_drew1 | refine below_set ?_ GE119.out) | exact HB.out)⟩
  · rw [if_neg c4] at H
    have c4b0 : (t121 == 0) = false := beq_eq_false_iff_ne.mpr c4
    have c4b1 : (t121 != 0) = true := bne_iff_ne.mpr c4
    obtain rfl := Option.some.inj H
    go_enter Try.func24, Try.ntmps24
    go_wp2_with (first | ((with_reducible refine gate_dst (N := 3) rfl ?_); refine box_event ?hg (N := 3) ?hd (cs := #[.int .i64 a1_0, .int .i64 a1_1]) (t := 27) ?hr ?_; (case hd => rfl); (case hg => rfl); (case hr => first | (go_simp; done) | (go_simp; rfl)); intro gb119 hg w22 hbox hb; have n0_ := Aside0.mk (below_step (by repeat (first | (with_reducible first | exact HB.out | apply below_alloc | apply pw_below_drewN | apply below_drew1) | exact HB.out)) hb); have n1_ := Aside0.mk (hbox); have n2_ := Aside0.mk ((by rw [hg]; exact (below_size (by repeat (first | (with_reducible first | exact HB.out | apply below_alloc | apply pw_below_drewN | apply below_drew1) | exact HB.out))) : w.heap.size ≤ gb119)); have n3_ := Aside0.mk ((by rw [hg]; exact (below_size (by repeat (first | (with_reducible first | exact HB.out | apply below_alloc | apply pw_below_drewN | apply below_drew1) | exact HB.out))) : w.heap.size ≤ gb119)); clear HB; have HB := n0_; have BK119 := n1_; have GW119 := n2_; have GE119 := n3_; clear n0_ n1_ n2_ n3_; clear hb hbox hg) | ((with_reducible refine gate_callee (f := 20) rfl ?_); refine goesL_ (some 9) rfl rfl Try.func20 (by kernel_rfl) rfl #[.slice A0 l0.length c0] rfl (by (try simp only [List.map_toArray, List.map_cons, List.map_nil]); first | done | rfl | (simp only [List.length_drop, List.length_take]; rfl)) ?_; (with_reducible refine (tempo_Check.calls k _ _ l0 t120 t121 _ ?side1 ?side2 A3.out).mono ?_); (case side1 => repeat (first | exact (Kd.C_below HR0.out HB.out) | (with_reducible refine Kd.C_alloc ?_ _) | (with_reducible refine Kd.C_drewN ?_ _) | (with_reducible refine Kd.C_drew ?_))); (case side2 => exact HC0.out); rintro e w23 ⟨rfl, hb⟩; refine ⟨_, rfl, ?_⟩; have n0_ := Aside0.mk (blk_below (g := gb119) (o := .cells #[.int .i64 a1_0, .int .i64 a1_1] 27 (0, 0)) (by (with_reducible repeat (first | refine blk_drewN ?_ _ | refine blk_drew ?_ | refine blk_alloc ?_ _)); exact BK119.out) hb); have n1_ := Aside0.mk (below_step (by repeat (first | (with_reducible first | exact HB.out | apply below_alloc | apply pw_below_drewN | apply below_drew1 | refine below_set ?_ GE119.out) | exact HB.out)) hb); clear BK119; clear HB; have BK119 := n0_; have HB := n1_; clear n0_ n1_; (try clear hb); (try clear hb2); (try clear hk); (try clear hi)))
    go_ret
    exact ⟨by first | rfl | (simp [errW_none, errW_some] <;> rfl) | (simp [*, errW_none, errW_some] <;> rfl), by repeat (first | (with_reducible first | exact HB.out | apply below_alloc | apply pw_below_drewN | apply below_drew1 | refine below_set ?_ GE119.out) | exact HB.out)⟩

/-! ### tempo_tempos: function 25 -/
/-- The tempos, one more ahead where nothing stands at 0. -/
def tempsI (l : List S36) : List S36 := if 0 < l.length ∧ (rd_T36 l 0).f0.f0 = 0 then l else ⟨⟨0, 1⟩, 500000, false⟩ :: l
set_option maxHeartbeats 2000000 in
set_option maxRecDepth 100000 in
theorem tempos_any (A0 : Option Addr) (c0 : Nat) (l0 r : List S36) (w : World) (hr : Kd.C k36 w A0 l0.length l0) (hc : l0.length ≤ c0) (hlen : l0.length ≤ 1000) (hres : tempsI l0 = r) :
    Calls Try.prog 25 #[.slice A0 l0.length c0] w fun e w' => ∃ A1 c1, e = .returned (.slice A1 r.length c1) ∧ r.length ≤ c1 ∧ Kd.C k36 w' A1 r.length r ∧ Below w.heap.size w w' := by
  have HR := Aside0.mk hr
  have HB := Aside0.mk (Below.refl w.heap.size w)
  have hu27 := Try.underlying27
  have hu36 := Try.underlying36
  unfold tempsI at hres
  clear hr
  by_cases h0 : 0 < l0.length
  · have e0 : decide (0 < l0.length) = true := decide_eq_true h0
    have e1 : decide (0 < (l0.length : Int)) = true := decide_eq_true (by omega)
    obtain ⟨ad, rfl, x0, x1, x2, x3⟩ := at_T36 HR.out 0 (by omega) (by omega)
    (try rw [show ((0 : Int)).toNat = 0 from rfl] at x0)
    (try rw [show 0 * 4 = 0 from rfl] at x0)
    (try rw [Addr.add_zero'] at x0)
    by_cases h1 : (rd_T36 l0 0).f0.f0 = 0
    · rw [if_pos ⟨h0, h1⟩] at hres
      subst hres
      rw [h1] at x0
      clear x1 x2 x3 h1
      go_enter Try.func25, Try.ntmps25
      go_wp2
      go_ret
      exact ⟨_, _, rfl, hc, HR.out, HB.out⟩
    · rw [if_neg (fun h => h1 h.2)] at hres
      subst hres
      have e2 : ((rd_T36 l0 0).f0.f0 == 0) = false := beq_eq_false_iff_ne.mpr h1
      generalize (rd_T36 l0 0).f0.f0 = q at *
      clear x1 x2 x3 h1
      go_enter Try.func25, Try.ntmps25
      go_wp2_with (first
        | ((with_reducible refine gate_dst (N := 17) rfl ?_); refine Kd.R_lit k36 (w0 := w) w.heap.size 36 ?hg (N := 17) ?hd (xs := ([(⟨(⟨0, 1⟩ : S27), 500000, false⟩ : S36)] : List S36)) (inner := [.int .i64 0, .int .i64 1, .int .i64 500000, .bool false]) (ok := fun _ => True) (okp := fun _ => True) ?hr ?hp (fun _ hk => hk) trivial (by repeat (first | exact HB.out | apply below_alloc | apply pw_below_drewN | apply below_drew1)) (below_size (by repeat (first | exact HB.out | apply below_alloc | apply pw_below_drewN | apply below_drew1))) (by simp) ?_; (case hd => rfl); (case hg => rfl); (case hr => first | (go_simp; done) | (go_simp; rfl)); (case hp => exact (Reps.c4 (show Kd.M k36 _ _ _ (⟨(⟨0, 1⟩ : S27), 500000, false⟩ : S36) [.int .i64 0, .int .i64 1, .int .i64 500000, .bool false] from (k36_mkM _ _ _ (⟨(⟨0, 1⟩ : S27), 500000, false⟩ : S36) )) (Reps.none _ _))); intro v142 w8 ho9 hb hg_ hnew_; obtain ⟨bn_, hbn_, hnew_⟩ := hnew_; have HO := Aside0.mk ho9; have HB8 := Aside0.mk hb; clear hg_ hnew_ ho9 hb)
        | ((with_reducible refine gate_builtin (b := .append) (xs := #[.tmp 17, .tmp 18]) rfl ?_); at_builtin; refine Kd.R_append_rows k36 (w0 := w) w.heap.size rfl (.tmp 17) (.tmp 18) 22 36 (.agg #[(.int .i64 0), (.int .i64 0), (.int .i64 0), (.bool false)]) 32 rfl Try.underlying22 info36 rfl (by decide) (by omega) v142 [(⟨(⟨0, 1⟩ : S27), 500000, false⟩ : S36)] l0 _ _ _ (fun _ => True) (fun _ => False) rfl rfl HO.out (Kd.C_below HR.out HB8.out) (fun _ _ h => h) (fun _ h => h.elim) (fun _ _ => trivial) HB8.out (below_size HB8.out) (by simp; omega) ?_; intro v145 w10 ho hb hg hat; have HO2 := Aside0.mk ho; have HB9 := Aside0.mk hb; clear ho hb hg hat))
      obtain ⟨A1, c1, rfl⟩ := Kd.R_slice HO2.out
      obtain ⟨hn1, hn2, hn3⟩ := Kd.R_reads' HO2.out
      go_ret
      exact ⟨A1, c1, rfl, hn2, hn3, HB9.out⟩
  · have e0 : decide (0 < l0.length) = false := decide_eq_false h0
    have e1 : decide (0 < (l0.length : Int)) = false := decide_eq_false (by omega)
    rw [if_neg (fun h => h0 h.1)] at hres
    subst hres
    go_enter Try.func25, Try.ntmps25
    go_wp2_with (first
      | ((with_reducible refine gate_dst (N := 17) rfl ?_); refine Kd.R_lit k36 (w0 := w) w.heap.size 36 ?hg (N := 17) ?hd (xs := ([(⟨(⟨0, 1⟩ : S27), 500000, false⟩ : S36)] : List S36)) (inner := [.int .i64 0, .int .i64 1, .int .i64 500000, .bool false]) (ok := fun _ => True) (okp := fun _ => True) ?hr ?hp (fun _ hk => hk) trivial (by repeat (first | exact HB.out | apply below_alloc | apply pw_below_drewN | apply below_drew1)) (below_size (by repeat (first | exact HB.out | apply below_alloc | apply pw_below_drewN | apply below_drew1))) (by simp) ?_; (case hd => rfl); (case hg => rfl); (case hr => first | (go_simp; done) | (go_simp; rfl)); (case hp => exact (Reps.c4 (show Kd.M k36 _ _ _ (⟨(⟨0, 1⟩ : S27), 500000, false⟩ : S36) [.int .i64 0, .int .i64 1, .int .i64 500000, .bool false] from (k36_mkM _ _ _ (⟨(⟨0, 1⟩ : S27), 500000, false⟩ : S36) )) (Reps.none _ _))); intro v142 w8 ho9 hb hg_ hnew_; obtain ⟨bn_, hbn_, hnew_⟩ := hnew_; have HO := Aside0.mk ho9; have HB8 := Aside0.mk hb; clear hg_ hnew_ ho9 hb)
      | ((with_reducible refine gate_builtin (b := .append) (xs := #[.tmp 17, .tmp 18]) rfl ?_); at_builtin; refine Kd.R_append_rows k36 (w0 := w) w.heap.size rfl (.tmp 17) (.tmp 18) 22 36 (.agg #[(.int .i64 0), (.int .i64 0), (.int .i64 0), (.bool false)]) 32 rfl Try.underlying22 info36 rfl (by decide) (by omega) v142 [(⟨(⟨0, 1⟩ : S27), 500000, false⟩ : S36)] l0 _ _ _ (fun _ => True) (fun _ => False) rfl rfl HO.out (Kd.C_below HR.out HB8.out) (fun _ _ h => h) (fun _ h => h.elim) (fun _ _ => trivial) HB8.out (below_size HB8.out) (by simp; omega) ?_; intro v145 w10 ho hb hg hat; have HO2 := Aside0.mk ho; have HB9 := Aside0.mk hb; clear ho hb hg hat))
    obtain ⟨A1, c1, rfl⟩ := Kd.R_slice HO2.out
    obtain ⟨hn1, hn2, hn3⟩ := Kd.R_reads' HO2.out
    go_ret
    exact ⟨A1, c1, rfl, hn2, hn3, HB9.out⟩

/-! ### tempo_Micros: function 15 -/
/-- A leg more: the sum, and what is wrong. -/
def moreF (l : List S36) (i p q s : Int) : Option (Int × Int) :=
  (tempo_reach.f 0 l i p q).bind fun r => if r.2.2.2.2.2.2.2.2.2 = 0 then
    (tempo_leg_time.f r.1 r.2.1 r.2.2.1 r.2.2.2.1 r.2.2.2.2.1 r.2.2.2.2.2.1 r.2.2.2.2.2.2.1 r.2.2.2.2.2.2.2.1 r.2.2.2.2.2.2.2.2.1).bind fun t => some (wrap64 (s + t), 0)
    else some (s, r.2.2.2.2.2.2.2.2.2)
set_option maxHeartbeats 2000000 in
set_option maxRecDepth 100000 in
theorem more_any (Ba Bs : Nat) (A : Option Addr) (c : Nat) (l : List S36) (i p q s s' er : Int) (w : World) (hA : w.heap[Ba]? = some (.cells #[.slice A l.length c] 22 (0, 0))) (hS : w.heap[Bs]? = some (.cells #[.int .i64 s] 3 (0, 0)))
    (hr : Kd.C k36 w A l.length l) (hc : l.length ≤ c) (h : moreF l i p q s = some (s', er)) :
    Calls Try.prog 26 #[.int .i64 i, .agg #[.int .i64 p, .int .i64 q], .pointer (some ⟨Ba, 0, none⟩), .pointer (some ⟨Bs, 0, none⟩)] w fun e w' => e = .returned (.int .i64 er) ∧ Below Bs w w' ∧ w'.heap[Bs]? = some (.cells #[.int .i64 s'] 3 (0, 0)) := by
  unfold moreF at h
  obtain ⟨⟨r1, r2, r3, r4, r5, r6, r7, r8, r9, r10⟩, hR, h⟩ := Option.bind_eq_some_iff.mp h
  simp only at h
  have HR := Aside0.mk (fun W (hb : Below w.heap.size w W) => tempo_reach.calls 0 A c l i p q r1 r2 r3 r4 r5 r6 r7 r8 r9 r10 W (Kd.C_below hr hb) hc hR)
  have HB := Aside0.mk (Below.refl w.heap.size w)
  have HS := Aside0.mk hS
  have hu27 := Try.underlying27
  have hu51 := Try.underlying51
  have a0 : w.cell? ⟨Ba, 0, none⟩ = some (.slice A l.length c) := (blk_cell hA 0).trans rfl
  have s0 : w.cell? ⟨Bs, 0, none⟩ = some (.int .i64 s) := (blk_cell hS 0).trans rfl
  have lA := blk_lt hA
  have lS := blk_lt hS
  have n1 : Ba ≠ w.heap.size := by omega
  have n2 : w.heap.size ≠ Ba := by omega
  clear hA hS hr hR
  by_cases he : r10 = 0
  · subst he
    simp only [if_true] at h
    obtain ⟨t, hT, h⟩ := Option.bind_eq_some_iff.mp h
    simp only [Option.some.injEq, Prod.mk.injEq] at h
    obtain ⟨rfl, rfl⟩ := h
    have HT := Aside0.mk (fun W => tempo_leg_time.calls r1 r2 r3 r4 r5 r6 r7 r8 r9 t W hT)
    clear hT
    go_enter Try.func26, Try.ntmps26
    go_wp2_with (first
      | (go_at_call 27; (with_reducible refine (HR.out _ ?hb1).mono ?_); (case hb1 => (repeat (first | exact HB.out | apply below_alloc))); rintro e w1 ⟨rfl, hb⟩; have B1 := Aside0.mk (blk_below (blk_alloc HS.out _) hb); have HB1 := Aside0.mk ((by repeat (first | exact HB.out | apply below_alloc) : Below w.heap.size w _).trans (hb.mono (by simp))); clear hb a0 s0))
    have lB := blk_lt B1.out
    have lX : w1.heap.size ≠ Bs := by omega
    have lY : Bs ≠ w1.heap.size := by omega
    have s1 : w1.cell? ⟨Bs, 0, none⟩ = some (.int .i64 s) := (blk_cell B1.out 0).trans rfl
    have f1 : w1.frozen? ⟨Bs, 0, none⟩ = false := blk_frozen B1.out 0
    have BX := Aside0.mk (blk_new w1 (.cells #[.int .i64 r1, .int .i64 r2, .int .i64 r3, .bool r4, .int .i64 r5, .int .i64 r6, .int .i64 r7, .int .i64 r8, .int .i64 r9] 51))
    have BS := Aside0.mk (blk_alloc B1.out (.cells #[.int .i64 r1, .int .i64 r2, .int .i64 r3, .bool r4, .int .i64 r5, .int .i64 r6, .int .i64 r7, .int .i64 r8, .int .i64 r9] 51))
    have HW := Aside0.mk (below_alloc HB1.out (.cells #[.int .i64 r1, .int .i64 r2, .int .i64 r3, .bool r4, .int .i64 r5, .int .i64 r6, .int .i64 r7, .int .i64 r8, .int .i64 r9] 51))
    go_upto_region 3 with (fail)
    generalize (w1.alloc (.cells #[.int .i64 r1, .int .i64 r2, .int .i64 r3, .bool r4, .int .i64 r5, .int .i64 r6, .int .i64 r7, .int .i64 r8, .int .i64 r9] 51)) = W2 at *
    generalize w1.heap.size = nx at *
    go_cut [6] from 18 to 21 (fun v6 wc => v6 = .int .i64 0 ∧ Aside0 (Below Bs w wc) ∧ Aside0 (wc.heap[Bs]? = some (.cells #[.int .i64 (wrap64 (s + t))] 3 (0, 0))))
    case first =>
      have lBS := blk_lt BS.out
      have lBX := blk_lt BX.out
      have c0_ : W2.drew.cell? ⟨nx, 0, none⟩ = some (.int .i64 r1) := (blk_cell (blk_drew BX.out) 0).trans rfl
      have c1_ : W2.drew.cell? ⟨nx, 1, none⟩ = some (.int .i64 r2) := (blk_cell (blk_drew BX.out) 1).trans rfl
      have c2_ : W2.drew.cell? ⟨nx, 2, none⟩ = some (.int .i64 r3) := (blk_cell (blk_drew BX.out) 2).trans rfl
      have c3_ : W2.drew.cell? ⟨nx, 3, none⟩ = some (.bool r4) := (blk_cell (blk_drew BX.out) 3).trans rfl
      have c4_ : W2.drew.cell? ⟨nx, 4, none⟩ = some (.int .i64 r5) := (blk_cell (blk_drew BX.out) 4).trans rfl
      have c5_ : W2.drew.cell? ⟨nx, 5, none⟩ = some (.int .i64 r6) := (blk_cell (blk_drew BX.out) 5).trans rfl
      have c6_ : W2.drew.cell? ⟨nx, 6, none⟩ = some (.int .i64 r7) := (blk_cell (blk_drew BX.out) 6).trans rfl
      have c7_ : W2.drew.cell? ⟨nx, 7, none⟩ = some (.int .i64 r8) := (blk_cell (blk_drew BX.out) 7).trans rfl
      have c8_ : W2.drew.cell? ⟨nx, 8, none⟩ = some (.int .i64 r9) := (blk_cell (blk_drew BX.out) 8).trans rfl
      have cs_ : W2.drew.cell? ⟨Bs, 0, none⟩ = some (.int .i64 s) := (blk_cell (blk_drew BS.out) 0).trans rfl
      have fs_ := blk_frozen (blk_drew BS.out) 0
      go_region_with ((go_at_call 28; (with_reducible refine (HT.out _).mono ?_); rintro e w4 ⟨rfl, hb4⟩; have HB4 := Aside0.mk hb4; have BS4 := blk_below (blk_drew BS.out) hb4; have BX4 := blk_below (blk_drew BX.out) hb4; have z0 : w4.cell? ⟨Bs, 0, none⟩ = some (.int .i64 s) := (blk_cell BS4 0).trans rfl; have y0 := blk_frozen BS4 0; have x0 : w4.cell? ⟨nx, 0, none⟩ = some (.int .i64 r1) := (blk_cell BX4 0).trans rfl; have x1 : w4.cell? ⟨nx, 1, none⟩ = some (.int .i64 r2) := (blk_cell BX4 1).trans rfl; have x2 : w4.cell? ⟨nx, 2, none⟩ = some (.int .i64 r3) := (blk_cell BX4 2).trans rfl; have x3 : w4.cell? ⟨nx, 3, none⟩ = some (.bool r4) := (blk_cell BX4 3).trans rfl; have x4 : w4.cell? ⟨nx, 4, none⟩ = some (.int .i64 r5) := (blk_cell BX4 4).trans rfl; have x5 : w4.cell? ⟨nx, 5, none⟩ = some (.int .i64 r6) := (blk_cell BX4 5).trans rfl; have x6 : w4.cell? ⟨nx, 6, none⟩ = some (.int .i64 r7) := (blk_cell BX4 6).trans rfl; have x7 : w4.cell? ⟨nx, 7, none⟩ = some (.int .i64 r8) := (blk_cell BX4 7).trans rfl; have x8 : w4.cell? ⟨nx, 8, none⟩ = some (.int .i64 r9) := (blk_cell BX4 8).trans rfl; replace BS4 := Aside0.mk BS4; clear hb4 BX4))
      all_goals go_wp2
      all_goals (try go_meet)
      all_goals rw [show IntKind.i64.wrap (s + t) = wrap64 (s + t) from by rw [IntKind.wrap_i64]; unfold wrap64; omega]
      all_goals exact ⟨rfl, ⟨(((below_drew1 HW.out).trans (HB4.out.mono (below_size (below_drew1 HW.out)))).mono (by omega : Bs ≤ w.heap.size)).setCell (Nat.le_refl Bs) _⟩, ⟨blk_put BS4.out 0 _ rfl⟩⟩
    case rest =>
      obtain ⟨rfl, HB9, HS9⟩ := hcut
      go_wp2
      go_ret
      exact ⟨rfl, HB9.out, HS9.out⟩
  · simp only [he, if_false] at h
    simp only [Option.some.injEq, Prod.mk.injEq] at h
    obtain ⟨rfl, rfl⟩ := h
    have e1 : (r10 == 0) = false := beq_eq_false_iff_ne.mpr he
    clear he
    go_enter Try.func26, Try.ntmps26
    go_wp2_with (first
      | (go_at_call 27; (with_reducible refine (HR.out _ ?hb1).mono ?_); (case hb1 => (repeat (first | exact HB.out | apply below_alloc))); rintro e w1 ⟨rfl, hb⟩; have B1 := Aside0.mk (blk_below (blk_alloc HS.out _) hb); have HB1 := Aside0.mk ((by repeat (first | exact HB.out | apply below_alloc) : Below w.heap.size w _).trans (hb.mono (by simp))); clear hb a0 s0))
    go_ret
    exact ⟨rfl, (below_alloc HB1.out _).mono (by omega), blk_alloc B1.out _⟩
/-- What is left of the legs: m of them, from the number i on; the last one up to (a, b). -/
def mRest (l : List S36) (n a b : Int) : Nat → Int → Int → Option (Int × Int)
  | 0, _, s => (moreF l n a b s).bind fun r => if r.2 = 0 then some (r.1, 0) else some (0, r.2)
  | m + 1, i, s => (moreF l i (rd_T36 l (i + 1)).f0.f0 (rd_T36 l (i + 1)).f0.f1 s).bind fun r => if r.2 = 0 then mRest l n a b m (i + 1) r.1 else some (0, r.2)
def microsI (l : List S36) (a b : Int) : Option (Int × Int) :=
  (tempo_last.f 0 l a b).bind fun n => if 0 ≤ n ∧ n < l.length ∧ l.length ≤ 1001 then mRest l n a b n.toNat 0 0 else none
def tempo_Micros.f (k : Nat) (l : List S36) (a b : Int) : Option (Int × Int) :=
  if l.length ≤ 999 then (tempo_asked.f k l a b).bind fun e => if e = 0 then microsI (tempsI l) a b else some (0, e) else none
theorem tempo_Micros.mono : ∀ l a b k, LeO (tempo_Micros.f k l a b) (tempo_Micros.f (k + 1) l a b) := by
  intro l a b k
  unfold tempo_Micros.f
  refine LeO.ite (LeO.bind (tempo_asked.mono _ _ _ _) (fun _ => LeO.refl _)) (LeO.refl _)
theorem tempsI_length (l : List S36) : (tempsI l).length ≤ l.length + 1 := by unfold tempsI; split <;> simp
set_option maxHeartbeats 4000000 in
set_option maxRecDepth 100000 in
theorem Micros_any (k : Nat) (A0 : Option Addr) (c0 : Nat) (l0 al : List S36) (a b r1 r2 n : Int) (w : World) (hr : Kd.C k36 w A0 l0.length l0) (hc : l0.length ≤ c0) (hlen : l0.length ≤ 999)
    (hE : tempo_asked.f k l0 a b = some 0) (hal : tempsI l0 = al) (hN : tempo_last.f 0 al a b = some n) (hn0 : 0 ≤ n) (hn1 : n < al.length) (hl : al.length ≤ 1001) (h : mRest al n a b n.toNat 0 0 = some (r1, r2)) :
    Calls Try.prog 15 #[.slice A0 l0.length c0, .agg #[.int .i64 a, .int .i64 b]] w fun e w' => e = .returned (.tuple #[.int .i64 r1, .int .i64 r2]) ∧ Below w.heap.size w w' := by
  have HE := Aside0.mk (fun W (hb : Below w.heap.size w W) => tempo_asked.calls k A0 c0 l0 a b 0 W (Kd.C_below hr hb) hc hE)
  have HT := Aside0.mk (fun W (hb : Below w.heap.size w W) => tempos_any A0 c0 l0 al W (Kd.C_below hr hb) hc (by omega) hal)
  have HB := Aside0.mk (Below.refl w.heap.size w)
  have HM := Aside0.mk h
  have HN := Aside0.mk hN
  have HL := Aside0.mk hl
  have hu27 := Try.underlying27
  have hu36 := Try.underlying36
  clear hr hE hal hlen h hN hl
  have hbx := blk_new w (.cells #[.int .i64 a, .int .i64 b] 27)
  have BX := Aside0.mk hbx
  clear hbx
  go_enter Try.func15, Try.ntmps15
  go_wp2_with (fail)
  go_at_call 24
  (with_reducible refine (HE.out _ ?hb1).mono ?_)
  case hb1 => (repeat (first | exact HB.out | apply below_alloc))
  rintro e w1 ⟨rfl, hb⟩
  have BX1 := Aside0.mk (blk_below BX.out hb)
  have HB1 := Aside0.mk ((by repeat (first | exact HB.out | apply below_alloc) : Below w.heap.size w _).trans (hb.mono (by simp)))
  clear hb BX
  go_wp2_with (fail)
  go_at_call 25
  (with_reducible refine (HT.out _ HB1.out).mono ?_)
  rintro e w2 ⟨A1, c1, rfl, hc1, hA1, hb⟩
  have BX2 := Aside0.mk (blk_below BX1.out hb)
  have HB2 := Aside0.mk (HB1.out.trans (hb.mono HB1.out.size))
  have HA := Aside0.mk hA1
  have HC := Aside0.mk hc1
  clear hb BX1 hA1 hc1
  have l1 := HB2.out.size
  have l0_ := blk_lt BX2.out
  have x0 : w2.cell? ⟨w.heap.size, 0, none⟩ = some (.int .i64 a) := (blk_cell BX2.out 0).trans rfl
  have x1 : w2.cell? ⟨w.heap.size, 1, none⟩ = some (.int .i64 b) := (blk_cell BX2.out 1).trans rfl
  have m1_ : w2.heap.size ≠ w.heap.size := by omega
  have m2_ : w2.heap.size + 1 ≠ w.heap.size := by omega
  have m3_ : w.heap.size ≠ w2.heap.size := by omega
  have m4_ : w.heap.size ≠ w2.heap.size + 1 := by omega
  go_wp2_with (fail)
  have HW2 := below_alloc (below_alloc (Below.refl w2.heap.size w2) (.cells #[.slice A1 al.length c1] 22)) (.cells #[.int .i64 0] 3)
  have BA2 := blk_alloc (blk_new w2 (.cells #[.slice A1 al.length c1] 22)) (.cells #[.int .i64 0] 3)
  have BS2 := blk_new (w2.alloc (.cells #[.slice A1 al.length c1] 22)) (.cells #[.int .i64 0] 3)
  rw [World.size_alloc] at BS2
  have BX3 := blk_alloc (blk_alloc BX2.out (.cells #[.slice A1 al.length c1] 22)) (.cells #[.int .i64 0] 3)
  go_at_call 29
  (with_reducible refine (tempo_last.calls 0 A1 c1 al a b n _ (Kd.C_below HA.out HW2) HC.out HN.out).mono ?_)
  rintro e w3 ⟨rfl, hb⟩
  have HW3 := Aside0.mk (HW2.trans (hb.mono HW2.size))
  have BA3 := Aside0.mk (blk_below BA2 hb)
  have BS3 := Aside0.mk (blk_below BS2 hb)
  have BX3 := Aside0.mk (blk_below BX3 hb)
  clear hb HW2 BA2 BS2 BX2 x0 x1 HE HT HB HB1
  have HA3 := Aside0.mk (fun W (hb : Below w2.heap.size w2 W) => Kd.C_below HA.out hb)
  have HBX := Aside0.mk (fun W (hb : Below w2.heap.size w2 W) => HB2.out.trans (hb.mono HB2.out.size))
  clear HB2 HA
  obtain ⟨m, rfl⟩ : ∃ m : Nat, n = m := ⟨n.toNat, by omega⟩
  rw [Int.toNat_natCast] at HM
  have hm1 : m < al.length := by omega
  clear hn0 hn1
  have g1_ : w2.heap.size ≤ w2.heap.size + 1 := by omega
  have g2_ : w2.heap.size ≤ w2.heap.size := Nat.le_refl _
  have g3_ : w2.heap.size < w2.heap.size + 1 := by omega
  have g4_ : w.heap.size < w2.heap.size + 1 := by omega
  generalize hbs : w2.heap.size + 1 = Bs at *
  generalize hba : w2.heap.size = Ba at *
  generalize hbx : w.heap.size = Bx at *
  go_wp2
  go_loopw [27] (fun i wr => ∃ (j : Nat) (s : Int), i = .int .i64 j ∧ j ≤ m ∧ Aside0 (mRest al m a b (m - j) j s = some (r1, r2)) ∧ Aside0 (wr.heap[Bs]? = some (.cells #[.int .i64 s] 3 (0, 0))) ∧ Aside0 (wr.heap[Ba]? = some (.cells #[.slice A1 al.length c1] 22 (0, 0))) ∧ Aside0 (wr.heap[Bx]? = some (.cells #[.int .i64 a, .int .i64 b] 27 (0, 0))) ∧ Aside0 (Below Ba w2 wr)) (fun i _ => m - (intOf i).toNat)
  case atStart => exact ⟨0, 0, rfl, by omega, HM, BS3, BA3, BX3, HW3⟩
  case round =>
    obtain ⟨j, s, rfl, hj, HM, BS, BA, BX, HW⟩ := hrel
    clear BS3 BA3 BX3 HW3
    have lS := blk_lt BS.out
    have a0 : wr.cell? ⟨Ba, 0, none⟩ = some (.slice A1 al.length c1) := (blk_cell BA.out 0).trans rfl
    have hA := HA3.out wr HW.out
    have HMO := fun i p q s' er (h : moreF al i p q s = some (s', er)) => more_any Ba Bs A1 c1 al i p q s s' er wr BA.out BS.out hA HC.out h
    have hlw : ∀ W, Below Bs wr W → W.heap[Ba]? = some (.cells #[.slice A1 al.length c1] 22 (0, 0)) := fun W hb => (hb.block Ba (by omega)).trans BA.out
    have hlx : ∀ W, Below Bs wr W → W.heap[Bx]? = some (.cells #[.int .i64 a, .int .i64 b] 27 (0, 0)) := fun W hb => (hb.block Bx (by omega)).trans BX.out
    have HLW := Aside0.mk hlw
    have HLX := Aside0.mk hlx
    clear hlw hlx
    by_cases hlt : j < m
    · obtain ⟨d, hd⟩ : ∃ d, m - j = d + 1 := ⟨m - j - 1, by omega⟩
      have h := HM.out
      rw [hd] at h
      obtain ⟨⟨s', er⟩, hM, h⟩ := Option.bind_eq_some_iff.mp h
      simp only at h
      obtain ⟨ad, rfl, x0, x1, x2, x3⟩ := at_T36 hA ((j : Int) + 1) (by omega) (by omega)
      clear x2 x3 HM hA
      have M := Aside0.mk (HMO _ _ _ s' er hM)
      clear HMO hM
      have hltd : decide (j < m) = true := decide_eq_true hlt
      have e3 : IntKind.i64.wrap ((j : Int) + 1) = (j : Int) + 1 := by have := HL.out; rw [IntKind.wrap_i64]; omega
      have p2 : (j : Int) + 1 < (al.length : Int) := by omega
      have p3 : 0 ≤ (j : Int) + 1 := by omega
      have p4 : ((j : Int) + 1).toNat = j + 1 := by omega
      rw [p4] at x0 x1
      generalize rd_T36 al ((j : Int) + 1) = y at *
      obtain ⟨⟨ya, yb⟩, ym, yr⟩ := y
      simp only at x0 x1 M
      by_cases he : er = 0
      · subst he
        rw [if_pos rfl] at h
        have HM := Aside0.mk h
        clear h
        go_wp2_with (go_at_call 26; (with_reducible refine M.out.mono ?_); rintro e w5 ⟨rfl, hb, hs⟩; have HB5 := Aside0.mk hb; have BS5 := Aside0.mk hs; clear hb hs)
        go_roundw
        case rel => exact ⟨j + 1, s', by go_num, by omega, ⟨by rw [show m - (j + 1) = d by omega]; exact HM.out⟩, BS5, ⟨HLW.out _ HB5.out⟩, ⟨HLX.out _ HB5.out⟩, ⟨HW.out.trans (HB5.out.mono (by omega))⟩⟩
        case measure => simp [intOf]; omega
      · rw [if_neg he] at h
        obtain ⟨rfl, rfl⟩ := Prod.mk.inj (Option.some.inj h)
        have e1 : (er == 0) = false := beq_eq_false_iff_ne.mpr he
        clear h he
        go_wp2_with (go_at_call 26; (with_reducible refine M.out.mono ?_); rintro e w5 ⟨rfl, hb, hs⟩; have HB5 := Aside0.mk hb; have BS5 := Aside0.mk hs; clear hb hs)
        go_ret2
        exact ⟨rfl, by rw [hbx]; exact HBX.out _ (HW.out.trans (HB5.out.mono (by omega)))⟩
    · have e : j = m := by omega
      subst e
      have h := HM.out
      rw [Nat.sub_self] at h
      obtain ⟨⟨s', er⟩, hM, h⟩ := Option.bind_eq_some_iff.mp h
      simp only at h
      have M := Aside0.mk (HMO _ _ _ s' er hM)
      clear HMO hM HM hA
      have hltd : decide (j < j) = false := by simp
      have y0 : wr.cell? ⟨Bx, 0, none⟩ = some (.int .i64 a) := (blk_cell BX.out 0).trans rfl
      have y1 : wr.cell? ⟨Bx, 1, none⟩ = some (.int .i64 b) := (blk_cell BX.out 1).trans rfl
      by_cases he : er = 0
      · subst he
        rw [if_pos rfl] at h
        obtain ⟨rfl, rfl⟩ := Prod.mk.inj (Option.some.inj h)
        clear h
        go_wp2_with (go_at_call 26; (with_reducible refine M.out.mono ?_); rintro e w5 ⟨rfl, hb, hs⟩; have HB5 := Aside0.mk hb; have z0 := (blk_cell hs 0); clear hb hs)
        go_ret2
        exact ⟨rfl, by rw [hbx]; exact HBX.out _ (HW.out.trans (HB5.out.mono (by omega)))⟩
      · rw [if_neg he] at h
        obtain ⟨rfl, rfl⟩ := Prod.mk.inj (Option.some.inj h)
        have e1 : (er == 0) = false := beq_eq_false_iff_ne.mpr he
        clear h he
        go_wp2_with (go_at_call 26; (with_reducible refine M.out.mono ?_); rintro e w5 ⟨rfl, hb, hs⟩; have HB5 := Aside0.mk hb; have BS5 := Aside0.mk hs; clear hb hs)
        go_ret2
        exact ⟨rfl, by rw [hbx]; exact HBX.out _ (HW.out.trans (HB5.out.mono (by omega)))⟩
set_option maxHeartbeats 2000000 in
set_option maxRecDepth 100000 in
theorem tempo_Micros.calls (k : Nat) (A0 : Option Addr) (c0 : Nat) (l0 : List S36) (a b r1 r2 : Int) (w : World) (hr : Kd.C k36 w A0 l0.length l0) (hc : l0.length ≤ c0) (h : tempo_Micros.f k l0 a b = some (r1, r2)) :
    Calls Try.prog 15 #[.slice A0 l0.length c0, .agg #[.int .i64 a, .int .i64 b]] w fun e w' => e = .returned (.tuple #[.int .i64 r1, .int .i64 r2]) ∧ Below w.heap.size w w' := by
  unfold tempo_Micros.f at h
  split at h
  next hlen =>
    obtain ⟨e, hE, h⟩ := Option.bind_eq_some_iff.mp h
    by_cases he : e = 0
    · subst he
      rw [if_pos rfl] at h
      unfold microsI at h
      obtain ⟨n, hN, h⟩ := Option.bind_eq_some_iff.mp h
      split at h
      next hn =>
        obtain ⟨hn0, hn1, hl⟩ := hn
        exact Micros_any k A0 c0 l0 (tempsI l0) a b r1 r2 n w hr hc hlen hE rfl hN hn0 hn1 hl h
      next => cases h
    · rw [if_neg he] at h
      obtain ⟨rfl, rfl⟩ := Prod.mk.inj (Option.some.inj h)
      have e1 : (e == 0) = false := beq_eq_false_iff_ne.mpr he
      have HE := Aside0.mk (fun W (hb : Below w.heap.size w W) => tempo_asked.calls k A0 c0 l0 a b e W (Kd.C_below hr hb) hc hE)
      have HB := Aside0.mk (Below.refl w.heap.size w)
      have hu27 := Try.underlying27
      clear hr hE h he
      go_enter Try.func15, Try.ntmps15
      go_wp2_with (go_at_call 24; (with_reducible refine (HE.out _ ?hb1).mono ?_); (case hb1 => (repeat (first | exact HB.out | apply below_alloc))); rintro e w1 ⟨rfl, hb⟩; have HB1 := Aside0.mk ((by repeat (first | exact HB.out | apply below_alloc) : Below w.heap.size w _).trans (hb.mono (by simp))); clear hb)
      go_ret2
      exact ⟨rfl, HB1.out⟩
  next => cases h

/-! ### tempo_down: function 46 -/
def tempo_down.f (a0 : Int) (a1 : Int) : Option (Int) := if a1 = 0 then (none) else (if (wrap64 ((wrap64 (Int.tdiv a0 a1)) * a1)) > a0 then (some (wrap64 ((wrap64 (Int.tdiv a0 a1)) - 1))) else (some (wrap64 (Int.tdiv a0 a1))))
set_option maxHeartbeats 8000000 in
set_option maxRecDepth 100000 in
theorem tempo_down.calls (a0 : Int) (a1 : Int) (r : Int) (w : World) (h : tempo_down.f a0 a1 = some r) :
    Calls Try.prog 46 #[.int .i64 a0, .int .i64 a1] w fun e w' => e = .returned (.int .i64 r) ∧ Drawn0 w w' := by
  have H : (if a1 = 0 then (none) else (if (wrap64 ((wrap64 (Int.tdiv a0 a1)) * a1)) > a0 then (some (wrap64 ((wrap64 (Int.tdiv a0 a1)) - 1))) else (some (wrap64 (Int.tdiv a0 a1))))) = some r := h
  clear h
  by_cases c3 : a1 = 0
  · rw [if_pos c3] at H
    exact absurd H (by simp)
  · rw [if_neg c3] at H
    have c3b0 : (a1 == 0) = false := beq_eq_false_iff_ne.mpr c3
    have c3b1 : (a1 != 0) = true := bne_iff_ne.mpr c3
    by_cases c4 : (wrap64 ((wrap64 (Int.tdiv a0 a1)) * a1)) > a0
    · rw [if_pos c4] at H
      have c4b0 : decide (a0 < (wrap64 ((wrap64 (Int.tdiv a0 a1)) * a1))) = true := decide_eq_true c4
      clear c4
      obtain rfl := Option.some.inj H
      go_enter Try.func46, Try.ntmps46
      go_wp2
      go_ret
      exact ⟨by first | rfl | (simp; done) | (simp [*]; done), by repeat (first | exact Drawn0.refl _ | apply Drawn0.step)⟩
    · rw [if_neg c4] at H
      have c4b0 : decide (a0 < (wrap64 ((wrap64 (Int.tdiv a0 a1)) * a1))) = false := decide_eq_false c4
      clear c4
      obtain rfl := Option.some.inj H
      go_enter Try.func46, Try.ntmps46
      go_wp2
      go_ret
      exact ⟨by first | rfl | (simp; done) | (simp [*]; done), by repeat (first | exact Drawn0.refl _ | apply Drawn0.step)⟩

/-! ### tempo_leg_rate: function 30 -/
def tempo_leg_rate.f (a0_0 : Int) (a0_1 : Int) (a0_2 : Int) (a0_3 : Bool) (a0_4 : Int) (a0_5 : Int) (a0_6 : Int) (a0_7 : Int) (a0_8 : Int) : Option (Int) := (tempo_down.f (wrap64 (a0_8 * a0_6)) a0_7).bind fun t124 => (some (wrap64 (a0_2 + t124)))
set_option maxHeartbeats 8000000 in
set_option maxRecDepth 100000 in
theorem tempo_leg_rate.calls (a0_0 : Int) (a0_1 : Int) (a0_2 : Int) (a0_3 : Bool) (a0_4 : Int) (a0_5 : Int) (a0_6 : Int) (a0_7 : Int) (a0_8 : Int) (r : Int) (w : World) (h : tempo_leg_rate.f a0_0 a0_1 a0_2 a0_3 a0_4 a0_5 a0_6 a0_7 a0_8 = some r) :
    Calls Try.prog 30 #[.agg #[.int .i64 a0_0, .int .i64 a0_1, .int .i64 a0_2, .bool a0_3, .int .i64 a0_4, .int .i64 a0_5, .int .i64 a0_6, .int .i64 a0_7, .int .i64 a0_8]] w fun e w' => e = .returned (.int .i64 r) ∧ Below w.heap.size w w' := by
  have hu51 := Try.underlying51
  have HB := Aside0.mk (Below.refl w.heap.size w)
  have H : ((tempo_down.f (wrap64 (a0_8 * a0_6)) a0_7).bind fun t124 => (some (wrap64 (a0_2 + t124)))) = some r := h
  clear h
  replace H := Option.bind_eq_some_iff.mp H
  obtain ⟨t124, A20, H⟩ := H
  replace H : (some (wrap64 (a0_2 + t124))) = some r := H
  have A2 := Aside0.mk A20
  clear A20
  obtain rfl := Option.some.inj H
  go_enter Try.func30, Try.ntmps30
  go_wp2_with (first | ((with_reducible refine gate_dst (N := 1) rfl ?_); refine box_event ?hg (N := 1) ?hd (cs := #[.int .i64 a0_0, .int .i64 a0_1, .int .i64 a0_2, .bool a0_3, .int .i64 a0_4, .int .i64 a0_5, .int .i64 a0_6, .int .i64 a0_7, .int .i64 a0_8]) (t := 51) ?hr ?_; (case hd => rfl); (case hg => rfl); (case hr => first | (go_simp; done) | (go_simp; rfl)); intro gb123 hg w3 hbox hb; have n0_ := Aside0.mk (below_step (by repeat (first | (with_reducible first | exact HB.out | apply below_alloc | apply pw_below_drewN | apply below_drew1) | exact HB.out)) hb); have n1_ := Aside0.mk (hbox); have n2_ := Aside0.mk ((by rw [hg]; exact (below_size (by repeat (first | (with_reducible first | exact HB.out | apply below_alloc | apply pw_below_drewN | apply below_drew1) | exact HB.out))) : w.heap.size ≤ gb123)); have n3_ := Aside0.mk ((by rw [hg]; exact (below_size (by repeat (first | (with_reducible first | exact HB.out | apply below_alloc | apply pw_below_drewN | apply below_drew1) | exact HB.out))) : w.heap.size ≤ gb123)); clear HB; have HB := n0_; have BK123 := n1_; have GW123 := n2_; have GE123 := n3_; clear n0_ n1_ n2_ n3_; clear hb hbox hg; have hcz4_0 : w3.cell? ⟨gb123, 0, none⟩ = some (.int .i64 a0_0) := (blk_cell BK123.out 0).trans rfl; have hcz4_1 : w3.cell? ⟨gb123, 1, none⟩ = some (.int .i64 a0_1) := (blk_cell BK123.out 1).trans rfl; have hcz4_2 : w3.cell? ⟨gb123, 2, none⟩ = some (.int .i64 a0_2) := (blk_cell BK123.out 2).trans rfl; have hcz4_3 : w3.cell? ⟨gb123, 3, none⟩ = some (.bool a0_3) := (blk_cell BK123.out 3).trans rfl; have hcz4_4 : w3.cell? ⟨gb123, 4, none⟩ = some (.int .i64 a0_4) := (blk_cell BK123.out 4).trans rfl; have hcz4_5 : w3.cell? ⟨gb123, 5, none⟩ = some (.int .i64 a0_5) := (blk_cell BK123.out 5).trans rfl; have hcz4_6 : w3.cell? ⟨gb123, 6, none⟩ = some (.int .i64 a0_6) := (blk_cell BK123.out 6).trans rfl; have hcz4_7 : w3.cell? ⟨gb123, 7, none⟩ = some (.int .i64 a0_7) := (blk_cell BK123.out 7).trans rfl; have hcz4_8 : w3.cell? ⟨gb123, 8, none⟩ = some (.int .i64 a0_8) := (blk_cell BK123.out 8).trans rfl; have hfz4_0 := blk_frozen BK123.out 0; have hfz4_1 := blk_frozen BK123.out 1; have hfz4_2 := blk_frozen BK123.out 2; have hfz4_3 := blk_frozen BK123.out 3; have hfz4_4 := blk_frozen BK123.out 4; have hfz4_5 := blk_frozen BK123.out 5; have hfz4_6 := blk_frozen BK123.out 6; have hfz4_7 := blk_frozen BK123.out 7; have hfz4_8 := blk_frozen BK123.out 8) | (go_at_call 46; (with_reducible refine (tempo_down.calls (wrap64 (a0_8 * a0_6)) a0_7 t124 _ A2.out).mono ?_); rintro e w' ⟨rfl, ⟨nd, rfl⟩⟩; (try first | exact ⟨rfl, _, World.drewN_drewN _ _ _⟩ | exact ⟨rfl, _, Eq.trans (World.drewN_drewN _ _ _) (congrArg (World.drewN _) (Nat.add_assoc _ _ _))⟩)))
  repeat (go_quiet (first | ((with_reducible refine gate_dst (N := 1) rfl ?_); refine box_event ?hg (N := 1) ?hd (cs := #[.int .i64 a0_0, .int .i64 a0_1, .int .i64 a0_2, .bool a0_3, .int .i64 a0_4, .int .i64 a0_5, .int .i64 a0_6, .int .i64 a0_7, .int .i64 a0_8]) (t := 51) ?hr ?_; (case hd => rfl); (case hg => rfl); (case hr => first | (go_simp; done) | (go_simp; rfl)); intro gb123 hg w3 hbox hb; have n0_ := Aside0.mk (below_step (by repeat (first | (with_reducible first | exact HB.out | apply below_alloc | apply pw_below_drewN | apply below_drew1) | exact HB.out)) hb); have n1_ := Aside0.mk (hbox); have n2_ := Aside0.mk ((by rw [hg]; exact (below_size (by repeat (first | (with_reducible first | exact HB.out | apply below_alloc | apply pw_below_drewN | apply below_drew1) | exact HB.out))) : w.heap.size ≤ gb123)); have n3_ := Aside0.mk ((by rw [hg]; exact (below_size (by repeat (first | (with_reducible first | exact HB.out | apply below_alloc | apply pw_below_drewN | apply below_drew1) | exact HB.out))) : w.heap.size ≤ gb123)); clear HB; have HB := n0_; have BK123 := n1_; have GW123 := n2_; have GE123 := n3_; clear n0_ n1_ n2_ n3_; clear hb hbox hg; have hcz4_0 : w3.cell? ⟨gb123, 0, none⟩ = some (.int .i64 a0_0) := (blk_cell BK123.out 0).trans rfl; have hcz4_1 : w3.cell? ⟨gb123, 1, none⟩ = some (.int .i64 a0_1) := (blk_cell BK123.out 1).trans rfl; have hcz4_2 : w3.cell? ⟨gb123, 2, none⟩ = some (.int .i64 a0_2) := (blk_cell BK123.out 2).trans rfl; have hcz4_3 : w3.cell? ⟨gb123, 3, none⟩ = some (.bool a0_3) := (blk_cell BK123.out 3).trans rfl; have hcz4_4 : w3.cell? ⟨gb123, 4, none⟩ = some (.int .i64 a0_4) := (blk_cell BK123.out 4).trans rfl; have hcz4_5 : w3.cell? ⟨gb123, 5, none⟩ = some (.int .i64 a0_5) := (blk_cell BK123.out 5).trans rfl; have hcz4_6 : w3.cell? ⟨gb123, 6, none⟩ = some (.int .i64 a0_6) := (blk_cell BK123.out 6).trans rfl; have hcz4_7 : w3.cell? ⟨gb123, 7, none⟩ = some (.int .i64 a0_7) := (blk_cell BK123.out 7).trans rfl; have hcz4_8 : w3.cell? ⟨gb123, 8, none⟩ = some (.int .i64 a0_8) := (blk_cell BK123.out 8).trans rfl; have hfz4_0 := blk_frozen BK123.out 0; have hfz4_1 := blk_frozen BK123.out 1; have hfz4_2 := blk_frozen BK123.out 2; have hfz4_3 := blk_frozen BK123.out 3; have hfz4_4 := blk_frozen BK123.out 4; have hfz4_5 := blk_frozen BK123.out 5; have hfz4_6 := blk_frozen BK123.out 6; have hfz4_7 := blk_frozen BK123.out 7; have hfz4_8 := blk_frozen BK123.out 8) | (go_at_call 46; (with_reducible refine (tempo_down.calls (wrap64 (a0_8 * a0_6)) a0_7 t124 _ A2.out).mono ?_); rintro e w' ⟨rfl, ⟨nd, rfl⟩⟩; (try first | exact ⟨rfl, _, World.drewN_drewN _ _ _⟩ | exact ⟨rfl, _, Eq.trans (World.drewN_drewN _ _ _) (congrArg (World.drewN _) (Nat.add_assoc _ _ _))⟩))); try go_wp2_with (first | ((with_reducible refine gate_dst (N := 1) rfl ?_); refine box_event ?hg (N := 1) ?hd (cs := #[.int .i64 a0_0, .int .i64 a0_1, .int .i64 a0_2, .bool a0_3, .int .i64 a0_4, .int .i64 a0_5, .int .i64 a0_6, .int .i64 a0_7, .int .i64 a0_8]) (t := 51) ?hr ?_; (case hd => rfl); (case hg => rfl); (case hr => first | (go_simp; done) | (go_simp; rfl)); intro gb123 hg w3 hbox hb; have n0_ := Aside0.mk (below_step (by repeat (first | (with_reducible first | exact HB.out | apply below_alloc | apply pw_below_drewN | apply below_drew1) | exact HB.out)) hb); have n1_ := Aside0.mk (hbox); have n2_ := Aside0.mk ((by rw [hg]; exact (below_size (by repeat (first | (with_reducible first | exact HB.out | apply below_alloc | apply pw_below_drewN | apply below_drew1) | exact HB.out))) : w.heap.size ≤ gb123)); have n3_ := Aside0.mk ((by rw [hg]; exact (below_size (by repeat (first | (with_reducible first | exact HB.out | apply below_alloc | apply pw_below_drewN | apply below_drew1) | exact HB.out))) : w.heap.size ≤ gb123)); clear HB; have HB := n0_; have BK123 := n1_; have GW123 := n2_; have GE123 := n3_; clear n0_ n1_ n2_ n3_; clear hb hbox hg; have hcz4_0 : w3.cell? ⟨gb123, 0, none⟩ = some (.int .i64 a0_0) := (blk_cell BK123.out 0).trans rfl; have hcz4_1 : w3.cell? ⟨gb123, 1, none⟩ = some (.int .i64 a0_1) := (blk_cell BK123.out 1).trans rfl; have hcz4_2 : w3.cell? ⟨gb123, 2, none⟩ = some (.int .i64 a0_2) := (blk_cell BK123.out 2).trans rfl; have hcz4_3 : w3.cell? ⟨gb123, 3, none⟩ = some (.bool a0_3) := (blk_cell BK123.out 3).trans rfl; have hcz4_4 : w3.cell? ⟨gb123, 4, none⟩ = some (.int .i64 a0_4) := (blk_cell BK123.out 4).trans rfl; have hcz4_5 : w3.cell? ⟨gb123, 5, none⟩ = some (.int .i64 a0_5) := (blk_cell BK123.out 5).trans rfl; have hcz4_6 : w3.cell? ⟨gb123, 6, none⟩ = some (.int .i64 a0_6) := (blk_cell BK123.out 6).trans rfl; have hcz4_7 : w3.cell? ⟨gb123, 7, none⟩ = some (.int .i64 a0_7) := (blk_cell BK123.out 7).trans rfl; have hcz4_8 : w3.cell? ⟨gb123, 8, none⟩ = some (.int .i64 a0_8) := (blk_cell BK123.out 8).trans rfl; have hfz4_0 := blk_frozen BK123.out 0; have hfz4_1 := blk_frozen BK123.out 1; have hfz4_2 := blk_frozen BK123.out 2; have hfz4_3 := blk_frozen BK123.out 3; have hfz4_4 := blk_frozen BK123.out 4; have hfz4_5 := blk_frozen BK123.out 5; have hfz4_6 := blk_frozen BK123.out 6; have hfz4_7 := blk_frozen BK123.out 7; have hfz4_8 := blk_frozen BK123.out 8) | (go_at_call 46; (with_reducible refine (tempo_down.calls (wrap64 (a0_8 * a0_6)) a0_7 t124 _ A2.out).mono ?_); rintro e w' ⟨rfl, ⟨nd, rfl⟩⟩; (try first | exact ⟨rfl, _, World.drewN_drewN _ _ _⟩ | exact ⟨rfl, _, Eq.trans (World.drewN_drewN _ _ _) (congrArg (World.drewN _) (Nat.add_assoc _ _ _))⟩))))
  go_ret
  exact ⟨by first | rfl | (simp [errW_none, errW_some] <;> rfl) | (simp [*, errW_none, errW_some] <;> rfl), by repeat (first | (with_reducible first | exact HB.out | apply below_alloc | apply pw_below_drewN | apply below_drew1 | refine below_set ?_ GE123.out) | exact HB.out)⟩

/-! ### tempo_Rate: function 17 -/
theorem leg_put (w : World) (nb : Nat) (r1 r2 r3 : Int) (r4 : Bool) (r5 r6 r7 r8 r9 : Int) (h : w.heap[nb]? = some (.cells #[.int .i64 0, .int .i64 0, .int .i64 0, .bool false, .int .i64 0, .int .i64 0, .int .i64 0, .int .i64 0, .int .i64 0] 51 (0, 0))) : (((((((((w.setCell ⟨nb, 0, none⟩ (.int .i64 r1)).setCell ⟨nb, 1, none⟩ (.int .i64 r2)).setCell ⟨nb, 2, none⟩ (.int .i64 r3)).setCell ⟨nb, 3, none⟩ (.bool r4)).setCell ⟨nb, 4, none⟩ (.int .i64 r5)).setCell ⟨nb, 5, none⟩ (.int .i64 r6)).setCell ⟨nb, 6, none⟩ (.int .i64 r7)).setCell ⟨nb, 7, none⟩ (.int .i64 r8)).setCell ⟨nb, 8, none⟩ (.int .i64 r9)).heap[nb]? = some (.cells #[.int .i64 r1, .int .i64 r2, .int .i64 r3, .bool r4, .int .i64 r5, .int .i64 r6, .int .i64 r7, .int .i64 r8, .int .i64 r9] 51 (0, 0)) := by
  have H0 := blk_put (cs := #[.int .i64 0, .int .i64 0, .int .i64 0, .bool false, .int .i64 0, .int .i64 0, .int .i64 0, .int .i64 0, .int .i64 0]) (cs' := #[.int .i64 r1, .int .i64 0, .int .i64 0, .bool false, .int .i64 0, .int .i64 0, .int .i64 0, .int .i64 0, .int .i64 0]) h 0 (.int .i64 r1) rfl
  have H1 := blk_put (cs := #[.int .i64 r1, .int .i64 0, .int .i64 0, .bool false, .int .i64 0, .int .i64 0, .int .i64 0, .int .i64 0, .int .i64 0]) (cs' := #[.int .i64 r1, .int .i64 r2, .int .i64 0, .bool false, .int .i64 0, .int .i64 0, .int .i64 0, .int .i64 0, .int .i64 0]) H0 1 (.int .i64 r2) rfl
  have H2 := blk_put (cs := #[.int .i64 r1, .int .i64 r2, .int .i64 0, .bool false, .int .i64 0, .int .i64 0, .int .i64 0, .int .i64 0, .int .i64 0]) (cs' := #[.int .i64 r1, .int .i64 r2, .int .i64 r3, .bool false, .int .i64 0, .int .i64 0, .int .i64 0, .int .i64 0, .int .i64 0]) H1 2 (.int .i64 r3) rfl
  have H3 := blk_put (cs := #[.int .i64 r1, .int .i64 r2, .int .i64 r3, .bool false, .int .i64 0, .int .i64 0, .int .i64 0, .int .i64 0, .int .i64 0]) (cs' := #[.int .i64 r1, .int .i64 r2, .int .i64 r3, .bool r4, .int .i64 0, .int .i64 0, .int .i64 0, .int .i64 0, .int .i64 0]) H2 3 (.bool r4) rfl
  have H4 := blk_put (cs := #[.int .i64 r1, .int .i64 r2, .int .i64 r3, .bool r4, .int .i64 0, .int .i64 0, .int .i64 0, .int .i64 0, .int .i64 0]) (cs' := #[.int .i64 r1, .int .i64 r2, .int .i64 r3, .bool r4, .int .i64 r5, .int .i64 0, .int .i64 0, .int .i64 0, .int .i64 0]) H3 4 (.int .i64 r5) rfl
  have H5 := blk_put (cs := #[.int .i64 r1, .int .i64 r2, .int .i64 r3, .bool r4, .int .i64 r5, .int .i64 0, .int .i64 0, .int .i64 0, .int .i64 0]) (cs' := #[.int .i64 r1, .int .i64 r2, .int .i64 r3, .bool r4, .int .i64 r5, .int .i64 r6, .int .i64 0, .int .i64 0, .int .i64 0]) H4 5 (.int .i64 r6) rfl
  have H6 := blk_put (cs := #[.int .i64 r1, .int .i64 r2, .int .i64 r3, .bool r4, .int .i64 r5, .int .i64 r6, .int .i64 0, .int .i64 0, .int .i64 0]) (cs' := #[.int .i64 r1, .int .i64 r2, .int .i64 r3, .bool r4, .int .i64 r5, .int .i64 r6, .int .i64 r7, .int .i64 0, .int .i64 0]) H5 6 (.int .i64 r7) rfl
  have H7 := blk_put (cs := #[.int .i64 r1, .int .i64 r2, .int .i64 r3, .bool r4, .int .i64 r5, .int .i64 r6, .int .i64 r7, .int .i64 0, .int .i64 0]) (cs' := #[.int .i64 r1, .int .i64 r2, .int .i64 r3, .bool r4, .int .i64 r5, .int .i64 r6, .int .i64 r7, .int .i64 r8, .int .i64 0]) H6 7 (.int .i64 r8) rfl
  have H8 := blk_put (cs := #[.int .i64 r1, .int .i64 r2, .int .i64 r3, .bool r4, .int .i64 r5, .int .i64 r6, .int .i64 r7, .int .i64 r8, .int .i64 0]) (cs' := #[.int .i64 r1, .int .i64 r2, .int .i64 r3, .bool r4, .int .i64 r5, .int .i64 r6, .int .i64 r7, .int .i64 r8, .int .i64 r9]) H7 8 (.int .i64 r9) rfl
  exact H8
theorem leg_below {n : Nat} {w0 w : World} {nb : Nat} (r1 r2 r3 : Int) (r4 : Bool) (r5 r6 r7 r8 r9 : Int) (h : Below n w0 w) (hn : n ≤ nb) : Below n w0 (((((((((w.setCell ⟨nb, 0, none⟩ (.int .i64 r1)).setCell ⟨nb, 1, none⟩ (.int .i64 r2)).setCell ⟨nb, 2, none⟩ (.int .i64 r3)).setCell ⟨nb, 3, none⟩ (.bool r4)).setCell ⟨nb, 4, none⟩ (.int .i64 r5)).setCell ⟨nb, 5, none⟩ (.int .i64 r6)).setCell ⟨nb, 6, none⟩ (.int .i64 r7)).setCell ⟨nb, 7, none⟩ (.int .i64 r8)).setCell ⟨nb, 8, none⟩ (.int .i64 r9)) :=
  ((((((((h.setCell (p := ⟨nb, 0, none⟩) hn _).setCell (p := ⟨nb, 1, none⟩) hn _).setCell (p := ⟨nb, 2, none⟩) hn _).setCell (p := ⟨nb, 3, none⟩) hn _).setCell (p := ⟨nb, 4, none⟩) hn _).setCell (p := ⟨nb, 5, none⟩) hn _).setCell (p := ⟨nb, 6, none⟩) hn _).setCell (p := ⟨nb, 7, none⟩) hn _).setCell (p := ⟨nb, 8, none⟩) hn _
def rateI (l : List S36) (a b : Int) : Option (Int × Int) :=
  (tempo_last.f 0 l a b).bind fun n => (tempo_reach.f 0 l n a b).bind fun r => if r.2.2.2.2.2.2.2.2.2 = 0 then
    (tempo_leg_rate.f r.1 r.2.1 r.2.2.1 r.2.2.2.1 r.2.2.2.2.1 r.2.2.2.2.2.1 r.2.2.2.2.2.2.1 r.2.2.2.2.2.2.2.1 r.2.2.2.2.2.2.2.2.1).bind fun t => some (t, 0)
    else some (0, r.2.2.2.2.2.2.2.2.2)
def tempo_Rate.f (k : Nat) (l : List S36) (a b : Int) : Option (Int × Int) :=
  if l.length ≤ 999 then (tempo_asked.f k l a b).bind fun e => if e = 0 then rateI (tempsI l) a b else some (0, e) else none
theorem tempo_Rate.mono : ∀ l a b k, LeO (tempo_Rate.f k l a b) (tempo_Rate.f (k + 1) l a b) := by
  intro l a b k
  unfold tempo_Rate.f
  refine LeO.ite (LeO.bind (tempo_asked.mono _ _ _ _) (fun _ => LeO.refl _)) (LeO.refl _)
set_option maxHeartbeats 4000000 in
set_option maxRecDepth 100000 in
theorem Rate_any (k : Nat) (A0 : Option Addr) (c0 : Nat) (l0 al : List S36) (a b n : Int) (r1 r2 r3 : Int) (r4 : Bool) (r5 r6 r7 r8 r9 er q1 q2 : Int) (w : World) (hr : Kd.C k36 w A0 l0.length l0) (hc : l0.length ≤ c0) (hlen : l0.length ≤ 999)
    (hE : tempo_asked.f k l0 a b = some 0) (hal : tempsI l0 = al) (hN : tempo_last.f 0 al a b = some n) (hRe : tempo_reach.f 0 al n a b = some (r1, r2, r3, r4, r5, r6, r7, r8, r9, er))
    (h : (if er = 0 then (tempo_leg_rate.f r1 r2 r3 r4 r5 r6 r7 r8 r9).bind fun t => some (t, 0) else some (0, er)) = some (q1, q2)) :
    Calls Try.prog 17 #[.slice A0 l0.length c0, .agg #[.int .i64 a, .int .i64 b]] w fun e w' => e = .returned (.tuple #[.int .i64 q1, .int .i64 q2]) ∧ Below w.heap.size w w' := by
  have HE := Aside0.mk (fun W (hb : Below w.heap.size w W) => tempo_asked.calls k A0 c0 l0 a b 0 W (Kd.C_below hr hb) hc hE)
  have HT := Aside0.mk (fun W (hb : Below w.heap.size w W) => tempos_any A0 c0 l0 al W (Kd.C_below hr hb) hc (by omega) hal)
  have HB := Aside0.mk (Below.refl w.heap.size w)
  have HM := Aside0.mk h
  have HN := Aside0.mk hN
  have HRE := Aside0.mk hRe
  have hu27 := Try.underlying27
  have hu36 := Try.underlying36
  have hu51 := Try.underlying51
  clear hr hE hal hlen h hN hRe
  have hbx := blk_new w (.cells #[.int .i64 a, .int .i64 b] 27)
  have BX := Aside0.mk hbx
  clear hbx
  go_enter Try.func17, Try.ntmps17
  go_wp2_with (fail)
  go_at_call 24
  (with_reducible refine (HE.out _ ?hb1).mono ?_)
  case hb1 => (repeat (first | exact HB.out | apply below_alloc))
  rintro e w1 ⟨rfl, hb⟩
  have BX1 := Aside0.mk (blk_below BX.out hb)
  have HB1 := Aside0.mk ((by repeat (first | exact HB.out | apply below_alloc) : Below w.heap.size w _).trans (hb.mono (by simp)))
  clear hb BX
  go_wp2_with (fail)
  go_at_call 25
  (with_reducible refine (HT.out _ HB1.out).mono ?_)
  rintro e w2 ⟨A1, c1, rfl, hc1, hA1, hb⟩
  have BX2 := Aside0.mk (blk_below BX1.out hb)
  have HB2 := Aside0.mk (HB1.out.trans (hb.mono HB1.out.size))
  have HLA := Aside0.mk (fun W (hb : Below w2.heap.size w2 W) => tempo_last.calls 0 A1 c1 al a b n W (Kd.C_below hA1 hb) hc1 HN.out)
  have HRC := Aside0.mk (fun W (hb : Below w2.heap.size w2 W) => tempo_reach.calls 0 A1 c1 al n a b r1 r2 r3 r4 r5 r6 r7 r8 r9 er W (Kd.C_below hA1 hb) hc1 HRE.out)
  clear hb BX1 hA1 hc1 HE HT HB HB1 HN HRE
  have l1 := HB2.out.size
  have l0_ := blk_lt BX2.out
  have x0 : w2.cell? ⟨w.heap.size, 0, none⟩ = some (.int .i64 a) := (blk_cell BX2.out 0).trans rfl
  have x1 : w2.cell? ⟨w.heap.size, 1, none⟩ = some (.int .i64 b) := (blk_cell BX2.out 1).trans rfl
  have HBX := Aside0.mk (fun W (hb : Below w2.heap.size w2 W) => HB2.out.trans (hb.mono HB2.out.size))
  clear HB2 BX2
  go_upto_region 5 with (fail)
  generalize hbx : w.heap.size = Bx at *
  have n0_ := World.new_ne w2 _ x0
  have n1_ := World.new_ne w2 _ x1
  have HR2 := Below.refl w2.heap.size w2
  have HW4 : Below w2.heap.size w2 w2.drew := below_drew1 HR2
  have HW5 : Below w2.heap.size w2 ((w2.alloc (.cells #[.int .i64 0, .int .i64 0, .int .i64 0, .bool false, .int .i64 0, .int .i64 0, .int .i64 0, .int .i64 0, .int .i64 0] 51)).drew) := below_drew1 (below_alloc HR2 _)
  have b0_ := (HW4.cell (p := ⟨Bx, 0, none⟩) l0_).trans x0
  have b1_ := (HW4.cell (p := ⟨Bx, 1, none⟩) l0_).trans x1
  have a0_ := (HW5.cell (p := ⟨Bx, 0, none⟩) l0_).trans x0
  have a1_ := (HW5.cell (p := ⟨Bx, 1, none⟩) l0_).trans x1
  have BN0 := Aside0.mk (blk_drew (blk_new w2 (.cells #[.int .i64 0, .int .i64 0, .int .i64 0, .bool false, .int .i64 0, .int .i64 0, .int .i64 0, .int .i64 0, .int .i64 0] 51)))
  replace HR2 := Aside0.mk HR2
  replace HW4 := Aside0.mk HW4
  replace HW5 := Aside0.mk HW5
  go_cut [8, 9] from 18 to 26 (fun v8 v9 wc => ∃ nb : Nat, v8 = .pointer (some ⟨nb, 0, none⟩) ∧ v9 = .int .i64 er ∧ Aside0 (wc.heap[nb]? = some (.cells #[.int .i64 r1, .int .i64 r2, .int .i64 r3, .bool r4, .int .i64 r5, .int .i64 r6, .int .i64 r7, .int .i64 r8, .int .i64 r9] 51 (0, 0))) ∧ Aside0 (Below w2.heap.size w2 wc))
  case first =>
    go_region_held3 (fun w' => w'.cell? ⟨Bx, 0, none⟩ = some (.int .i64 a) ∧ w'.cell? ⟨Bx, 1, none⟩ = some (.int .i64 b)) (first | go_keep | (go_split_ands <;> assumption)) ((first | (go_at_call 29; (with_reducible refine (HLA.out _ ?hbl).mono ?_); (case hbl => first | exact HW4.out | exact HW5.out | exact HR2.out); rintro e w4 ⟨rfl, hb4⟩; have HB4 := Aside0.mk ((by first | exact HW4.out | exact HW5.out : Below w2.heap.size w2 _).trans (hb4.mono (by simp <;> omega))); have z0 := (HB4.out.cell (p := ⟨Bx, 0, none⟩) l0_).trans x0; have z1 := (HB4.out.cell (p := ⟨Bx, 1, none⟩) l0_).trans x1; have o0_ := World.new_ne w4 _ z0; have o1_ := World.new_ne w4 _ z1; (try (have BN := blk_below BN0.out hb4; have u0 : w4.cell? ⟨w2.heap.size, 0, none⟩ = some (.int .i64 0) := (blk_cell BN 0).trans rfl; have v0 := blk_frozen BN 0; have u1 : w4.cell? ⟨w2.heap.size, 1, none⟩ = some (.int .i64 0) := (blk_cell BN 1).trans rfl; have v1 := blk_frozen BN 1; have u2 : w4.cell? ⟨w2.heap.size, 2, none⟩ = some (.int .i64 0) := (blk_cell BN 2).trans rfl; have v2 := blk_frozen BN 2; have u3 : w4.cell? ⟨w2.heap.size, 3, none⟩ = some (.bool false) := (blk_cell BN 3).trans rfl; have v3 := blk_frozen BN 3; have u4 : w4.cell? ⟨w2.heap.size, 4, none⟩ = some (.int .i64 0) := (blk_cell BN 4).trans rfl; have v4 := blk_frozen BN 4; have u5 : w4.cell? ⟨w2.heap.size, 5, none⟩ = some (.int .i64 0) := (blk_cell BN 5).trans rfl; have v5 := blk_frozen BN 5; have u6 : w4.cell? ⟨w2.heap.size, 6, none⟩ = some (.int .i64 0) := (blk_cell BN 6).trans rfl; have v6 := blk_frozen BN 6; have u7 : w4.cell? ⟨w2.heap.size, 7, none⟩ = some (.int .i64 0) := (blk_cell BN 7).trans rfl; have v7 := blk_frozen BN 7; have u8 : w4.cell? ⟨w2.heap.size, 8, none⟩ = some (.int .i64 0) := (blk_cell BN 8).trans rfl; have v8 := blk_frozen BN 8; replace BN := Aside0.mk BN)); clear hb4) | (go_at_call 27; (with_reducible refine (HRC.out _ ?hbl).mono ?_); (case hbl => first | exact HB4.out | exact below_alloc HB4.out _); rintro e w5 ⟨rfl, hb5⟩; have HB5 := Aside0.mk ((by first | exact HB4.out | exact below_alloc HB4.out _ : Below w2.heap.size w2 _).trans (hb5.mono (by have := HB4.out.size; simp <;> omega))); have z2 := (HB5.out.cell (p := ⟨Bx, 0, none⟩) l0_).trans x0; have z3 := (HB5.out.cell (p := ⟨Bx, 1, none⟩) l0_).trans x1; have o2_ := World.new_ne w5 _ z2; have o3_ := World.new_ne w5 _ z3; (first | (have BM := blk_below BN.out hb5; have s0 : w5.cell? ⟨w2.heap.size, 0, none⟩ = some (.int .i64 0) := (blk_cell BM 0).trans rfl; have t0 := blk_frozen BM 0; have s1 : w5.cell? ⟨w2.heap.size, 1, none⟩ = some (.int .i64 0) := (blk_cell BM 1).trans rfl; have t1 := blk_frozen BM 1; have s2 : w5.cell? ⟨w2.heap.size, 2, none⟩ = some (.int .i64 0) := (blk_cell BM 2).trans rfl; have t2 := blk_frozen BM 2; have s3 : w5.cell? ⟨w2.heap.size, 3, none⟩ = some (.bool false) := (blk_cell BM 3).trans rfl; have t3 := blk_frozen BM 3; have s4 : w5.cell? ⟨w2.heap.size, 4, none⟩ = some (.int .i64 0) := (blk_cell BM 4).trans rfl; have t4 := blk_frozen BM 4; have s5 : w5.cell? ⟨w2.heap.size, 5, none⟩ = some (.int .i64 0) := (blk_cell BM 5).trans rfl; have t5 := blk_frozen BM 5; have s6 : w5.cell? ⟨w2.heap.size, 6, none⟩ = some (.int .i64 0) := (blk_cell BM 6).trans rfl; have t6 := blk_frozen BM 6; have s7 : w5.cell? ⟨w2.heap.size, 7, none⟩ = some (.int .i64 0) := (blk_cell BM 7).trans rfl; have t7 := blk_frozen BM 7; have s8 : w5.cell? ⟨w2.heap.size, 8, none⟩ = some (.int .i64 0) := (blk_cell BM 8).trans rfl; have t8 := blk_frozen BM 8; replace BM := Aside0.mk BM) | (have BM := blk_below (blk_new w4 (.cells #[.int .i64 0, .int .i64 0, .int .i64 0, .bool false, .int .i64 0, .int .i64 0, .int .i64 0, .int .i64 0, .int .i64 0] 51)) hb5; have s0 : w5.cell? ⟨w4.heap.size, 0, none⟩ = some (.int .i64 0) := (blk_cell BM 0).trans rfl; have t0 := blk_frozen BM 0; have s1 : w5.cell? ⟨w4.heap.size, 1, none⟩ = some (.int .i64 0) := (blk_cell BM 1).trans rfl; have t1 := blk_frozen BM 1; have s2 : w5.cell? ⟨w4.heap.size, 2, none⟩ = some (.int .i64 0) := (blk_cell BM 2).trans rfl; have t2 := blk_frozen BM 2; have s3 : w5.cell? ⟨w4.heap.size, 3, none⟩ = some (.bool false) := (blk_cell BM 3).trans rfl; have t3 := blk_frozen BM 3; have s4 : w5.cell? ⟨w4.heap.size, 4, none⟩ = some (.int .i64 0) := (blk_cell BM 4).trans rfl; have t4 := blk_frozen BM 4; have s5 : w5.cell? ⟨w4.heap.size, 5, none⟩ = some (.int .i64 0) := (blk_cell BM 5).trans rfl; have t5 := blk_frozen BM 5; have s6 : w5.cell? ⟨w4.heap.size, 6, none⟩ = some (.int .i64 0) := (blk_cell BM 6).trans rfl; have t6 := blk_frozen BM 6; have s7 : w5.cell? ⟨w4.heap.size, 7, none⟩ = some (.int .i64 0) := (blk_cell BM 7).trans rfl; have t7 := blk_frozen BM 7; have s8 : w5.cell? ⟨w4.heap.size, 8, none⟩ = some (.int .i64 0) := (blk_cell BM 8).trans rfl; have t8 := blk_frozen BM 8; replace BM := Aside0.mk BM) | skip); clear hb5)))
    all_goals go_wp2
    all_goals (try go_meet)
    all_goals have ls_ := HB4.out.size
    all_goals first
      | (refine ⟨w5.heap.size, by with_reducible rfl, by with_reducible rfl, ?_, ?_⟩; exact ⟨blk_new w5 _⟩; exact ⟨below_alloc HB5.out _⟩)
      | (refine ⟨w4.heap.size, by with_reducible rfl, by with_reducible rfl, ?_, ?_⟩; exact ⟨leg_put _ _ r1 r2 r3 r4 r5 r6 r7 r8 r9 BM.out⟩; exact ⟨leg_below r1 r2 r3 r4 r5 r6 r7 r8 r9 HB5.out (by omega)⟩)
      | (refine ⟨w2.heap.size, by with_reducible rfl, by with_reducible rfl, ?_, ?_⟩; exact ⟨leg_put _ _ r1 r2 r3 r4 r5 r6 r7 r8 r9 BM.out⟩; exact ⟨leg_below r1 r2 r3 r4 r5 r6 r7 r8 r9 HB5.out (by omega)⟩)
  case rest =>
    obtain ⟨nb, rfl, rfl, BL, HC⟩ := hcut
    clear BN0 HW4 HW5 HR2 a0_ a1_ b0_ b1_ n0_ n1_ x0 x1
    have c0 : wc.cell? ⟨nb, 0, none⟩ = some (.int .i64 r1) := (blk_cell BL.out 0).trans rfl
    have c1 : wc.cell? ⟨nb, 1, none⟩ = some (.int .i64 r2) := (blk_cell BL.out 1).trans rfl
    have c2 : wc.cell? ⟨nb, 2, none⟩ = some (.int .i64 r3) := (blk_cell BL.out 2).trans rfl
    have c3 : wc.cell? ⟨nb, 3, none⟩ = some (.bool r4) := (blk_cell BL.out 3).trans rfl
    have c4 : wc.cell? ⟨nb, 4, none⟩ = some (.int .i64 r5) := (blk_cell BL.out 4).trans rfl
    have c5 : wc.cell? ⟨nb, 5, none⟩ = some (.int .i64 r6) := (blk_cell BL.out 5).trans rfl
    have c6 : wc.cell? ⟨nb, 6, none⟩ = some (.int .i64 r7) := (blk_cell BL.out 6).trans rfl
    have c7 : wc.cell? ⟨nb, 7, none⟩ = some (.int .i64 r8) := (blk_cell BL.out 7).trans rfl
    have c8 : wc.cell? ⟨nb, 8, none⟩ = some (.int .i64 r9) := (blk_cell BL.out 8).trans rfl
    have hq := HM.out
    clear HM HRC HLA
    by_cases he : er = 0
    · subst he
      rw [if_pos rfl] at hq
      obtain ⟨t, hT, hq⟩ := Option.bind_eq_some_iff.mp hq
      obtain ⟨rfl, rfl⟩ := Prod.mk.inj (Option.some.inj hq)
      have HT := Aside0.mk (fun W => tempo_leg_rate.calls r1 r2 r3 r4 r5 r6 r7 r8 r9 t W hT)
      clear hT hq
      go_wp2_with (go_at_call 30; (with_reducible refine (HT.out _).mono ?_); rintro e w7 ⟨rfl, hb⟩; have HB7 := Aside0.mk (HC.out.trans (hb.mono HC.out.size)); clear hb)
      go_ret2
      exact ⟨rfl, by rw [hbx]; exact HBX.out _ HB7.out⟩
    · rw [if_neg he] at hq
      obtain ⟨rfl, rfl⟩ := Prod.mk.inj (Option.some.inj hq)
      have e1 : (er == 0) = false := beq_eq_false_iff_ne.mpr he
      clear hq he
      go_wp2
      go_ret2
      exact ⟨rfl, by rw [hbx]; exact HBX.out _ HC.out⟩
set_option maxHeartbeats 2000000 in
set_option maxRecDepth 100000 in
theorem tempo_Rate.calls (k : Nat) (A0 : Option Addr) (c0 : Nat) (l0 : List S36) (a b r1 r2 : Int) (w : World) (hr : Kd.C k36 w A0 l0.length l0) (hc : l0.length ≤ c0) (h : tempo_Rate.f k l0 a b = some (r1, r2)) :
    Calls Try.prog 17 #[.slice A0 l0.length c0, .agg #[.int .i64 a, .int .i64 b]] w fun e w' => e = .returned (.tuple #[.int .i64 r1, .int .i64 r2]) ∧ Below w.heap.size w w' := by
  unfold tempo_Rate.f at h
  split at h
  next hlen =>
    obtain ⟨e, hE, h⟩ := Option.bind_eq_some_iff.mp h
    by_cases he : e = 0
    · subst he
      rw [if_pos rfl] at h
      unfold rateI at h
      obtain ⟨n, hN, h⟩ := Option.bind_eq_some_iff.mp h
      obtain ⟨⟨r1_, r2_, r3_, r4_, r5_, r6_, r7_, r8_, r9_, er_⟩, hR, h⟩ := Option.bind_eq_some_iff.mp h
      exact Rate_any k A0 c0 l0 (tempsI l0) a b n _ _ _ _ _ _ _ _ _ _ r1 r2 w hr hc hlen hE rfl hN hR h
    · rw [if_neg he] at h
      obtain ⟨rfl, rfl⟩ := Prod.mk.inj (Option.some.inj h)
      have e1 : (e == 0) = false := beq_eq_false_iff_ne.mpr he
      have HE := Aside0.mk (fun W (hb : Below w.heap.size w W) => tempo_asked.calls k A0 c0 l0 a b e W (Kd.C_below hr hb) hc hE)
      have HB := Aside0.mk (Below.refl w.heap.size w)
      have hu27 := Try.underlying27
      clear hr hE h he
      go_enter Try.func17, Try.ntmps17
      go_wp2_with (go_at_call 24; (with_reducible refine (HE.out _ ?hb1).mono ?_); (case hb1 => (repeat (first | exact HB.out | apply below_alloc))); rintro e w1 ⟨rfl, hb⟩; have HB1 := Aside0.mk ((by repeat (first | exact HB.out | apply below_alloc) : Below w.heap.size w _).trans (hb.mono (by simp))); clear hb)
      go_ret2
      exact ⟨rfl, HB1.out⟩
  next => cases h

-- NOT PRINTED: function 31 (api_Tempo_31)

-- NOT PRINTED: function 49 (sort_Search)

-- NOT PRINTED: function 35 (tempo_search_first)

end Go.Proofs.Ytchjlkokfgmjaaa.Q
