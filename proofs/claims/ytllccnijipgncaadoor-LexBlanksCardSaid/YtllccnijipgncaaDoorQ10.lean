-- Written by a program of this session (myprint.py), function by function.
import Derived.Test.YtllccnijipgncaaDoorQ0
import Derived.Test.YtllccnijipgncaaDoorQ8
import Derived.Test.YtllccnijipgncaaDoorQ9
namespace Go.Proofs.YtllccnijipgncaaDoor.Q
open Go.RowKit Go.Proofs.YtllccnijipgncaaDoorW.PrintWords Go.Proofs.YtllccnijipgncaaDoorW.PrintLast Go.Proofs.YtllccnijipgncaaDoorW.PrintMore
attribute [local go_sem] max2_int min2_int max_two min_two max_three min_three max_four min_four   -- for this text's walks alone
set_option linter.unusedVariables false
set_option linter.unusedSimpArgs false

/-! ### partitaref18_piece: function 26 -/
mutual
def partitaref18_piece.l0 : Nat → ByteArray → Int → Int → Option (Int × ByteArray × Int × Int)
 | 0, _, _, _ => none
 | k + 1, x0, x1, x9 => if x9 < (x0.size : Int) then (if 0 ≤ x1 then (if x1 ≤ (wrap64 (x9 + 1)) then (if (wrap64 (x9 + 1)) ≤ (x0.size : Int) then ((partitaref18_word.f k (x0.extract (x1 : Int).toNat ((wrap64 (x9 + 1)) : Int).toNat)).bind fun t167 => (if t167 = true then (partitaref18_piece.l0 k x0 x1 (wrap64 (x9 + 1))) else (if x1 ≤ x9 then (if x9 ≤ (x0.size : Int) then (some (1, x0.extract (x1 : Int).toNat (x9 : Int).toNat, x1, x9)) else (none)) else (none)))) else (none)) else (none)) else (none)) else (if 0 ≤ x1 then (if x1 ≤ x9 then (if x9 ≤ (x0.size : Int) then (some (1, x0.extract (x1 : Int).toNat (x9 : Int).toNat, x1, x9)) else (none)) else (none)) else (none))
def partitaref18_piece.j1 : Nat → ByteArray → Int → Int → Int → Option (Int × ByteArray × Int × Int)
 | 0, _, _, _, _ => none
 | k + 1, x0, x1, x6, x10 => if x10 > x1 then (if x6 = 45 then (partitaref18_piece.j2 k x0 x1 x6 x10 (decide (x10 > (wrap64 (x1 + 1))))) else (partitaref18_piece.j2 k x0 x1 x6 x10 true)) else (partitaref18_piece.j2 k x0 x1 x6 x10 false)
def partitaref18_piece.j2 : Nat → ByteArray → Int → Int → Int → Bool → Option (Int × ByteArray × Int × Int)
 | 0, _, _, _, _, _ => none
 | k + 1, x0, x1, x6, x10, x72 => if x72 = true then (if 0 ≤ x1 then (if x1 ≤ x10 then (if x10 ≤ (x0.size : Int) then ((partitaref18_number.f k (x0.extract (x1 : Int).toNat (x10 : Int).toNat)).bind fun t170 => (if t170 = true then (some (2, x0.extract (x1 : Int).toNat (x10 : Int).toNat, x1, x10)) else (some (0, (⟨#[]⟩ : ByteArray), 0, 0)))) else (none)) else (none)) else (none)) else (if x6 = 10 then (some (5, (⟨#[10]⟩ : ByteArray), x1, wrap64 (x1 + 1))) else ((partitaref18_sign.f x6).bind fun t171 => (if t171 = true then (if 0 ≤ x1 then (if x1 ≤ (wrap64 (x1 + 1)) then (if (wrap64 (x1 + 1)) ≤ (x0.size : Int) then (some (4, x0.extract (x1 : Int).toNat ((wrap64 (x1 + 1)) : Int).toNat, x1, wrap64 (x1 + 1))) else (none)) else (none)) else (none)) else (some (0, (⟨#[]⟩ : ByteArray), 0, 0)))))
end
def partitaref18_piece.f (k : Nat) (a0 : ByteArray) (a1 : Int) : Option (Int × ByteArray × Int × Int) := if 0 ≤ a1 then (if a1 < (a0.size : Int) then (if (bt a0 a1) = 34 then ((partitaref18_quoted.f k a0 a1).bind fun bt164 => (some (3, bt164.1, a1, bt164.2))) else ((partitaref18_Letter.f (bt a0 a1)).bind fun t166 => (if t166 = true then (partitaref18_piece.l0 k a0 a1 (wrap64 (a1 + 1))) else ((partitaref18_digits.f k a0 a1).bind fun t168 => (if (bt a0 a1) = 45 then ((partitaref18_digits.f k a0 (wrap64 (a1 + 1))).bind fun t169 => (partitaref18_piece.j1 k a0 a1 (bt a0 a1) t169)) else (partitaref18_piece.j1 k a0 a1 (bt a0 a1) t168)))))) else (none)) else (none)
theorem partitaref18_piece.mono_l : ∀ k, (∀ y0 y1 y2, LeO (partitaref18_piece.l0 k y0 y1 y2) (partitaref18_piece.l0 (k + 1) y0 y1 y2)) ∧ (∀ y0 y1 y2 y3, LeO (partitaref18_piece.j1 k y0 y1 y2 y3) (partitaref18_piece.j1 (k + 1) y0 y1 y2 y3)) ∧ (∀ y0 y1 y2 y3 y4, LeO (partitaref18_piece.j2 k y0 y1 y2 y3 y4) (partitaref18_piece.j2 (k + 1) y0 y1 y2 y3 y4))
 | 0 => ⟨fun _ _ _ r h => by simp [partitaref18_piece.l0] at h, fun _ _ _ _ r h => by simp [partitaref18_piece.j1] at h, fun _ _ _ _ _ r h => by simp [partitaref18_piece.j2] at h⟩
 | k + 1 => by
  obtain ⟨ih0, ih1, ih2⟩ := partitaref18_piece.mono_l k
  refine ⟨?_, ?_, ?_⟩
  · intro y0 y1 y2
    unfold partitaref18_piece.l0
    repeat' first
    | (with_reducible exact ih0 _ _ _)
    | (with_reducible exact ih1 _ _ _ _)
    | (with_reducible exact ih2 _ _ _ _ _)
    | (with_reducible exact partitaref18_digits.mono _ _ _)
    | (with_reducible exact partitaref18_number.mono _ _)
    | (with_reducible exact partitaref18_quoted.mono _ _ _)
    | (with_reducible exact partitaref18_word.mono _ _)
    | (with_reducible exact LeO.refl _)
    | (with_reducible exact LeO.none _)
    | (with_reducible refine LeO.ite ?_ ?_)
    | (with_reducible refine LeO.bind ?_ (fun _ => ?_))
    | exact ih0 _ _ _
    | exact ih1 _ _ _ _
    | exact ih2 _ _ _ _ _
    | exact partitaref18_digits.mono _ _ _
    | exact partitaref18_number.mono _ _
    | exact partitaref18_quoted.mono _ _ _
    | exact partitaref18_word.mono _ _
    | exact LeO.none _
    | refine LeO.ite ?_ ?_
    | refine LeO.bind ?_ (fun _ => ?_)
  · intro y0 y1 y2 y3
    unfold partitaref18_piece.j1
    repeat' first
    | (with_reducible exact ih0 _ _ _)
    | (with_reducible exact ih1 _ _ _ _)
    | (with_reducible exact ih2 _ _ _ _ _)
    | (with_reducible exact partitaref18_digits.mono _ _ _)
    | (with_reducible exact partitaref18_number.mono _ _)
    | (with_reducible exact partitaref18_quoted.mono _ _ _)
    | (with_reducible exact partitaref18_word.mono _ _)
    | (with_reducible exact LeO.refl _)
    | (with_reducible exact LeO.none _)
    | (with_reducible refine LeO.ite ?_ ?_)
    | (with_reducible refine LeO.bind ?_ (fun _ => ?_))
    | exact ih0 _ _ _
    | exact ih1 _ _ _ _
    | exact ih2 _ _ _ _ _
    | exact partitaref18_digits.mono _ _ _
    | exact partitaref18_number.mono _ _
    | exact partitaref18_quoted.mono _ _ _
    | exact partitaref18_word.mono _ _
    | exact LeO.none _
    | refine LeO.ite ?_ ?_
    | refine LeO.bind ?_ (fun _ => ?_)
  · intro y0 y1 y2 y3 y4
    unfold partitaref18_piece.j2
    repeat' first
    | (with_reducible exact ih0 _ _ _)
    | (with_reducible exact ih1 _ _ _ _)
    | (with_reducible exact ih2 _ _ _ _ _)
    | (with_reducible exact partitaref18_digits.mono _ _ _)
    | (with_reducible exact partitaref18_number.mono _ _)
    | (with_reducible exact partitaref18_quoted.mono _ _ _)
    | (with_reducible exact partitaref18_word.mono _ _)
    | (with_reducible exact LeO.refl _)
    | (with_reducible exact LeO.none _)
    | (with_reducible refine LeO.ite ?_ ?_)
    | (with_reducible refine LeO.bind ?_ (fun _ => ?_))
    | exact ih0 _ _ _
    | exact ih1 _ _ _ _
    | exact ih2 _ _ _ _ _
    | exact partitaref18_digits.mono _ _ _
    | exact partitaref18_number.mono _ _
    | exact partitaref18_quoted.mono _ _ _
    | exact partitaref18_word.mono _ _
    | exact LeO.none _
    | refine LeO.ite ?_ ?_
    | refine LeO.bind ?_ (fun _ => ?_)
theorem partitaref18_piece.mono : ∀ a0 a1 k, LeO (partitaref18_piece.f k a0 a1) (partitaref18_piece.f (k + 1) a0 a1) := by
 intro a0 a1 k
 obtain ⟨ih0, ih1, ih2⟩ := partitaref18_piece.mono_l k
 unfold partitaref18_piece.f
 repeat' first
  | (with_reducible exact ih0 _ _ _)
  | (with_reducible exact ih1 _ _ _ _)
  | (with_reducible exact ih2 _ _ _ _ _)
  | (with_reducible exact partitaref18_digits.mono _ _ _)
  | (with_reducible exact partitaref18_number.mono _ _)
  | (with_reducible exact partitaref18_quoted.mono _ _ _)
  | (with_reducible exact partitaref18_word.mono _ _)
  | (with_reducible exact LeO.refl _)
  | (with_reducible exact LeO.none _)
  | (with_reducible refine LeO.ite ?_ ?_)
  | (with_reducible refine LeO.bind ?_ (fun _ => ?_))
  | exact ih0 _ _ _
  | exact ih1 _ _ _ _
  | exact ih2 _ _ _ _ _
  | exact partitaref18_digits.mono _ _ _
  | exact partitaref18_number.mono _ _
  | exact partitaref18_quoted.mono _ _ _
  | exact partitaref18_word.mono _ _
  | exact LeO.none _
  | refine LeO.ite ?_ ?_
  | refine LeO.bind ?_ (fun _ => ?_)
set_option maxHeartbeats 8000000 in
set_option maxRecDepth 100000 in
theorem partitaref18_piece.calls (k : Nat) (a0 : ByteArray) (a1 : Int) (r1 : Int) (r2 : ByteArray) (r3 : Int) (r4 : Int) (w : World) (h : partitaref18_piece.f k a0 a1 = some (r1, r2, r3, r4)) :
 Calls Tryd.prog 26 #[.string a0, .int .i64 a1] w fun e w' => e = .returned (.tuple #[.agg #[.int .i64 r1, .string r2, .int .i64 r3], .int .i64 r4]) ∧ Below w.heap.size w w' := by
 have hu35 := Tryd.underlying35
 have HB := Aside0.mk (Below.refl w.heap.size w)
 have H : (if 0 ≤ a1 then (if a1 < (a0.size : Int) then (if (bt a0 a1) = 34 then ((partitaref18_quoted.f k a0 a1).bind fun bt164 => (some (3, bt164.1, a1, bt164.2))) else ((partitaref18_Letter.f (bt a0 a1)).bind fun t166 => (if t166 = true then (partitaref18_piece.l0 k a0 a1 (wrap64 (a1 + 1))) else ((partitaref18_digits.f k a0 a1).bind fun t168 => (if (bt a0 a1) = 45 then ((partitaref18_digits.f k a0 (wrap64 (a1 + 1))).bind fun t169 => (partitaref18_piece.j1 k a0 a1 (bt a0 a1) t169)) else (partitaref18_piece.j1 k a0 a1 (bt a0 a1) t168)))))) else (none)) else (none)) = some (r1, r2, r3, r4) := h
 clear h
 by_cases c3 : 0 ≤ a1
 · rw [if_pos c3] at H
   have c3b0 : decide (0 ≤ a1) = true := decide_eq_true c3
   clear c3
   by_cases c4 : a1 < (a0.size : Int)
   · rw [if_pos c4] at H
     have c4b0 : decide (a1 < (a0.size : Int)) = true := decide_eq_true c4
     clear c4
     by_cases c6 : (bt a0 a1) = 34
     · rw [if_pos c6] at H
       have c6b0 : ((bt a0 a1) == 34) = true := beq_iff_eq.mpr c6
       have c6b1 : ((bt a0 a1) != 34) = false := bne_eq_false_iff_eq.mpr c6
       clear c6
       replace H := Option.bind_eq_some_iff.mp H
       obtain ⟨⟨t164, t165⟩, A70, H⟩ := H
       replace H : (some (3, t164, a1, t165)) = some (r1, r2, r3, r4) := H
       have A7 := Aside0.mk A70
       clear A70
       simp only [Option.some.injEq, Prod.mk.injEq] at H
       obtain ⟨rfl, rfl, rfl, rfl⟩ := H
       go_enter Tryd.func26, Tryd.ntmps26
       go_wp2_with (first | ((with_reducible refine gate_dst (N := 4) rfl ?_); refine box_event ?hg (N := 4) ?hd (cs := #[.int .i64 0, .string (⟨#[]⟩ : ByteArray), .int .i64 0]) (t := 35) ?hr ?_; (case hd => rfl); (case hg => rfl); (case hr => first | (go_simp; done) | (go_simp; rfl)); intro gb163 hg w8 hbox hb; have n0_ := Aside0.mk (below_step (by repeat (first | (with_reducible first | exact HB.out | apply below_alloc | apply pw_below_drewN | apply below_drew1) | exact HB.out)) hb); have n1_ := Aside0.mk (hbox); have n2_ := Aside0.mk ((by rw [hg]; exact (below_size (by repeat (first | (with_reducible first | exact HB.out | apply below_alloc | apply pw_below_drewN | apply below_drew1) | exact HB.out))) : w.heap.size ≤ gb163)); have n3_ := Aside0.mk ((by rw [hg]; exact (below_size (by repeat (first | (with_reducible first | exact HB.out | apply below_alloc | apply pw_below_drewN | apply below_drew1) | exact HB.out))) : w.heap.size ≤ gb163)); clear HB; have HB := n0_; have BK163 := n1_; have GW163 := n2_; have GE163 := n3_; clear n0_ n1_ n2_ n3_; clear hb hbox hg; have p5 : 0 ≤ (a1 : Int) := of_decide_eq_true (by first | (with_reducible assumption) | assumption); have q5 : a1 < (a0.size : Int) := of_decide_eq_true (by first | (with_reducible assumption) | assumption); have hx5 := bt_at a0 a1; replace p5 := eq_true p5; replace q5 := eq_true q5) | ((with_reducible refine gate_callee (f := 40) rfl ?_); refine goesL_ (some 19) rfl rfl Tryd.func40 (by kernel_rfl) rfl #[.string a0, .int .i64 a1] rfl (by (try simp only [List.map_toArray, List.map_cons, List.map_nil]); first | done | rfl | (simp only [List.length_drop, List.length_take]; rfl)) ?_; (with_reducible refine (partitaref18_quoted.calls k a0 a1 t164 t165 _ A7.out).mono ?_); rintro e w9 ⟨rfl, hb⟩; refine ⟨_, rfl, ?_⟩; have n0_ := Aside0.mk (blk_below (g := gb163) (o := .cells #[.int .i64 0, .string (⟨#[]⟩ : ByteArray), .int .i64 0] 35 (0, 0)) (qB BK163.out) hb); have n1_ := Aside0.mk (below_step (by repeat (first | (with_reducible first | exact HB.out | apply below_alloc | apply pw_below_drewN | apply below_drew1 | refine below_set ?_ GE163.out) | exact HB.out)) hb); clear BK163; clear HB; have BK163 := n0_; have HB := n1_; clear n0_ n1_; (try clear hb); (try clear hb2); (try clear hk); (try clear hi); have hcz10_0 : w9.cell? ⟨gb163, 0, none⟩ = some (.int .i64 0) := (blk_cell BK163.out 0).trans rfl; have hcz10_1 : w9.cell? ⟨gb163, 1, none⟩ = some (.string (⟨#[]⟩ : ByteArray)) := (blk_cell BK163.out 1).trans rfl; have hcz10_2 : w9.cell? ⟨gb163, 2, none⟩ = some (.int .i64 0) := (blk_cell BK163.out 2).trans rfl; have hfz10_0 := blk_frozen BK163.out 0; have hfz10_1 := blk_frozen BK163.out 1; have hfz10_2 := blk_frozen BK163.out 2))
       refine bodyPost_ret (results_ct rfl _ _ gb163 35 #[.int .i64 3, .string t164, .int .i64 a1] (0, 0) _ rfl (by (with_reducible repeat (first | refine blk_drewN ?_ _ | refine blk_drew ?_ | refine blk_alloc ?_ _)); refine blk_put (cs := #[.int .i64 3, .string t164, .int .i64 0]) ?_ 2 _ rfl; (with_reducible repeat (first | refine blk_drewN ?_ _ | refine blk_drew ?_ | refine blk_alloc ?_ _)); refine blk_put (cs := #[.int .i64 3, .string (⟨#[]⟩ : ByteArray), .int .i64 0]) ?_ 1 _ rfl; (with_reducible repeat (first | refine blk_drewN ?_ _ | refine blk_drew ?_ | refine blk_alloc ?_ _)); refine blk_put (cs := #[.int .i64 0, .string (⟨#[]⟩ : ByteArray), .int .i64 0]) ?_ 0 _ rfl; (with_reducible repeat (first | refine blk_drewN ?_ _ | refine blk_drew ?_ | refine blk_alloc ?_ _)); exact BK163.out) Tryd.underlying35 rfl (by kernel_rfl)) rfl ?_
       exact ⟨by first | rfl | (simp [errW_none, errW_some] <;> rfl) | (simp [*, errW_none, errW_some] <;> rfl), by repeat (first | (with_reducible first | exact HB.out | apply below_alloc | apply pw_below_drewN | apply below_drew1 | refine below_set ?_ GE163.out) | exact HB.out)⟩
     · rw [if_neg c6] at H
       have c6b0 : ((bt a0 a1) == 34) = false := beq_eq_false_iff_ne.mpr c6
       have c6b1 : ((bt a0 a1) != 34) = true := bne_iff_ne.mpr c6
       replace H := Option.bind_eq_some_iff.mp H
       obtain ⟨t166, A110, H⟩ := H
       replace H : (if t166 = true then (partitaref18_piece.l0 k a0 a1 (wrap64 (a1 + 1))) else ((partitaref18_digits.f k a0 a1).bind fun t168 => (if (bt a0 a1) = 45 then ((partitaref18_digits.f k a0 (wrap64 (a1 + 1))).bind fun t169 => (partitaref18_piece.j1 k a0 a1 (bt a0 a1) t169)) else (partitaref18_piece.j1 k a0 a1 (bt a0 a1) t168)))) = some (r1, r2, r3, r4) := H
       have A11 := Aside0.mk A110
       clear A110
       by_cases c12 : t166 = true
       · subst c12
         have H1 : (partitaref18_piece.l0 k a0 a1 (wrap64 (a1 + 1))) = some (r1, r2, r3, r4) := by rw [if_pos rfl] at H; exact H
         clear H
         have H := H1
         clear H1
         have H' := Aside0.mk H
         clear H
         go_enter Tryd.func26, Tryd.ntmps26
         go_wp2_with (first | ((with_reducible refine gate_dst (N := 4) rfl ?_); refine box_event ?hg (N := 4) ?hd (cs := #[.int .i64 0, .string (⟨#[]⟩ : ByteArray), .int .i64 0]) (t := 35) ?hr ?_; (case hd => rfl); (case hg => rfl); (case hr => first | (go_simp; done) | (go_simp; rfl)); intro gb163 hg w13 hbox hb; have n0_ := Aside0.mk (below_step (by repeat (first | (with_reducible first | exact HB.out | apply below_alloc | apply pw_below_drewN | apply below_drew1) | exact HB.out)) hb); have n1_ := Aside0.mk (hbox); have n2_ := Aside0.mk ((by rw [hg]; exact (below_size (by repeat (first | (with_reducible first | exact HB.out | apply below_alloc | apply pw_below_drewN | apply below_drew1) | exact HB.out))) : w.heap.size ≤ gb163)); have n3_ := Aside0.mk ((by rw [hg]; exact (below_size (by repeat (first | (with_reducible first | exact HB.out | apply below_alloc | apply pw_below_drewN | apply below_drew1) | exact HB.out))) : w.heap.size ≤ gb163)); clear HB; have HB := n0_; have BK163 := n1_; have GW163 := n2_; have GE163 := n3_; clear n0_ n1_ n2_ n3_; clear hb hbox hg; have p5 : 0 ≤ (a1 : Int) := of_decide_eq_true (by first | (with_reducible assumption) | assumption); have q5 : a1 < (a0.size : Int) := of_decide_eq_true (by first | (with_reducible assumption) | assumption); have hx5 := bt_at a0 a1; replace p5 := eq_true p5; replace q5 := eq_true q5) | ((with_reducible refine gate_callee (f := 41) rfl ?_); refine goesL_ (some 27) rfl rfl Tryd.func41 (by kernel_rfl) rfl #[.int .u8 (bt a0 a1)] rfl (by (try simp only [List.map_toArray, List.map_cons, List.map_nil]); first | done | rfl | (simp only [List.length_drop, List.length_take]; rfl)) ?_; (with_reducible refine (partitaref18_Letter.calls (bt a0 a1) true _ A11.out).mono ?_); rintro e w' ⟨rfl, ⟨nd, rfl⟩⟩; refine ⟨_, rfl, ?_⟩))
         go_loopg [9] k (fun kq v9 w' => ∃ (x9_1 : Int), v9 = .int .i64 x9_1 ∧ Aside0 (partitaref18_piece.l0 kq a0 a1 x9_1 = some (r1, r2, r3, r4)) ∧ Aside0 (kq ≤ k) ∧ Aside0 (w'.heap[gb163]? = some (.cells #[.int .i64 0, .string (⟨#[]⟩ : ByteArray), .int .i64 0] 35 (0, 0))) ∧ Aside0 (Below w.heap.size w w'))
         case atStart => exact ⟨(wrap64 (a1 + 1)), (by first | rfl | (simp; done) | (simp [*]; done) | (simp [wrap64]; done)), H', ⟨Nat.le_refl _⟩, ⟨by (with_reducible repeat (first | refine blk_drewN ?_ _ | refine blk_drew ?_ | refine blk_alloc ?_ _)); exact BK163.out⟩, ⟨by repeat (first | (with_reducible first | exact HB.out | apply below_alloc | apply pw_below_drewN | apply below_drew1 | refine below_set ?_ GE163.out) | exact HB.out)⟩⟩
         case round =>
          clear H'
          try clear c1
          try clear c2
          try clear p2
          try clear c3
          try clear c3b0
          try clear c4
          try clear c4b0
          try clear p5
          try clear q5
          try clear hx5
          try clear c6
          try clear c6b0
          try clear c6b1
          try clear p6
          try clear c12
          try clear hcz10_0
          try clear hcz10_1
          try clear hcz10_2
          try clear hfz10_0
          try clear hfz10_1
          try clear hfz10_2
          try clear p5
          try clear q5
          obtain ⟨x9_1, rfl, HA, HK1, BK163, HB⟩ := hrel
          cases gk with
          | zero => exact absurd HA.out (by simp [partitaref18_piece.l0])
          | succ k1 =>
           have H := HA.out
           clear HA
           simp only [partitaref18_piece.l0] at H
           by_cases c14 : x9_1 < (a0.size : Int)
           · rw [if_pos c14] at H
             have c14b0 : decide (x9_1 < (a0.size : Int)) = true := decide_eq_true c14
             clear c14
             by_cases c15 : 0 ≤ a1
             · rw [if_pos c15] at H
               have c15b0 := eq_true c15
               have c15b1 : decide (0 ≤ a1) = true := decide_eq_true c15
               clear c15
               by_cases c16 : a1 ≤ (wrap64 (x9_1 + 1))
               · rw [if_pos c16] at H
                 have c16b0 := eq_true c16
                 have c16b1 : decide (a1 ≤ (wrap64 (x9_1 + 1))) = true := decide_eq_true c16
                 by_cases c17 : (wrap64 (x9_1 + 1)) ≤ (a0.size : Int)
                 · rw [if_pos c17] at H
                   have c17b0 := eq_true c17
                   have c17b1 : decide ((wrap64 (x9_1 + 1)) ≤ (a0.size : Int)) = true := decide_eq_true c17
                   replace H := Option.bind_eq_some_iff.mp H
                   obtain ⟨t167, A180, H⟩ := H
                   replace H : (if t167 = true then (partitaref18_piece.l0 k1 a0 a1 (wrap64 (x9_1 + 1))) else (if a1 ≤ x9_1 then (if x9_1 ≤ (a0.size : Int) then (some (1, a0.extract (a1 : Int).toNat (x9_1 : Int).toNat, a1, x9_1)) else (none)) else (none))) = some (r1, r2, r3, r4) := H
                   have A18 := Aside0.mk A180
                   clear A180
                   by_cases c19 : t167 = true
                   · subst c19
                     have H1 : (partitaref18_piece.l0 k1 a0 a1 (wrap64 (x9_1 + 1))) = some (r1, r2, r3, r4) := by rw [if_pos rfl] at H; exact H
                     clear H
                     have H := H1
                     clear H1
                     have H' := Aside0.mk H
                     clear H
                     go_wp2_with (first | (go_at_call 42; (with_reducible refine (partitaref18_word.calls k1 (a0.extract (a1 : Int).toNat ((wrap64 (x9_1 + 1)) : Int).toNat) true _ A18.out).mono ?_); rintro e w' ⟨rfl, ⟨nd, rfl⟩⟩))
                     go_roundg k1
                     case measure => have := HK1.out; omega
                     case rel => exact ⟨(wrap64 (x9_1 + 1)), (by first | rfl | (simp; done) | (simp [*]; done) | (simp [wrap64]; done)), H', ⟨by have := HK1.out; omega⟩, ⟨by (with_reducible repeat (first | refine blk_drewN ?_ _ | refine blk_drew ?_ | refine blk_alloc ?_ _)); exact BK163.out⟩, ⟨by repeat (first | (with_reducible first | exact HB.out | apply below_alloc | apply pw_below_drewN | apply below_drew1 | refine below_set ?_ GE163.out) | exact HB.out)⟩⟩
                   · replace c19 := Bool.eq_false_iff.mpr c19
                     subst c19
                     have H1 : (if a1 ≤ x9_1 then (if x9_1 ≤ (a0.size : Int) then (some (1, a0.extract (a1 : Int).toNat (x9_1 : Int).toNat, a1, x9_1)) else (none)) else (none)) = some (r1, r2, r3, r4) := by rw [if_neg (show ¬ (false = true) by decide)] at H; exact H
                     clear H
                     have H := H1
                     clear H1
                     have c20b0 := eq_true (of_decide_eq_true (by first | (with_reducible assumption) | assumption) : 0 ≤ a1)
                     by_cases c21 : a1 ≤ x9_1
                     · rw [if_pos c21] at H
                       have c21b0 := eq_true c21
                       have c21b1 : decide (a1 ≤ x9_1) = true := decide_eq_true c21
                       clear c21
                       by_cases c22 : x9_1 ≤ (a0.size : Int)
                       · rw [if_pos c22] at H
                         have c22b0 := eq_true c22
                         have c22b1 : decide (x9_1 ≤ (a0.size : Int)) = true := decide_eq_true c22
                         clear c22
                         simp only [Option.some.injEq, Prod.mk.injEq] at H
                         obtain ⟨rfl, rfl, rfl, rfl⟩ := H
                         go_wp2_with (first | (go_at_call 42; (with_reducible refine (partitaref18_word.calls k1 (a0.extract (a1 : Int).toNat ((wrap64 (x9_1 + 1)) : Int).toNat) false _ A18.out).mono ?_); rintro e w' ⟨rfl, ⟨nd, rfl⟩⟩; (try (rw [drewN_self wr]; generalize hq_ : World.drewN wr _ = wr; have n0_ : Aside0 (wr.heap[gb163]? = some (.cells #[.int .i64 0, .string (⟨#[]⟩ : ByteArray), .int .i64 0] 35 (0, 0))) := ⟨by rw [← hq_]; exact (qB BK163.out)⟩; have n1_ : Aside0 (Below w.heap.size w wr) := ⟨by rw [← hq_]; exact (by repeat (first | (with_reducible first | exact HB.out | apply below_alloc | apply pw_below_drewN | apply below_drew1 | refine below_set ?_ GE163.out) | exact HB.out))⟩; clear BK163 HB hq_; have BK163 := n0_; have HB := n1_; clear n0_ n1_)); have hcz23_0 : wr.cell? ⟨gb163, 0, none⟩ = some (.int .i64 0) := (blk_cell BK163.out 0).trans rfl; have hcz23_1 : wr.cell? ⟨gb163, 1, none⟩ = some (.string (⟨#[]⟩ : ByteArray)) := (blk_cell BK163.out 1).trans rfl; have hcz23_2 : wr.cell? ⟨gb163, 2, none⟩ = some (.int .i64 0) := (blk_cell BK163.out 2).trans rfl; have hfz23_0 := blk_frozen BK163.out 0; have hfz23_1 := blk_frozen BK163.out 1; have hfz23_2 := blk_frozen BK163.out 2))
                         refine bodyPost_ret (results_ct rfl _ _ gb163 35 #[.int .i64 1, .string (a0.extract (a1 : Int).toNat (x9_1 : Int).toNat), .int .i64 a1] (0, 0) _ rfl (by (with_reducible repeat (first | refine blk_drewN ?_ _ | refine blk_drew ?_ | refine blk_alloc ?_ _)); refine blk_put (cs := #[.int .i64 1, .string (a0.extract (a1 : Int).toNat (x9_1 : Int).toNat), .int .i64 0]) ?_ 2 _ rfl; (with_reducible repeat (first | refine blk_drewN ?_ _ | refine blk_drew ?_ | refine blk_alloc ?_ _)); refine blk_put (cs := #[.int .i64 1, .string (⟨#[]⟩ : ByteArray), .int .i64 0]) ?_ 1 _ rfl; (with_reducible repeat (first | refine blk_drewN ?_ _ | refine blk_drew ?_ | refine blk_alloc ?_ _)); refine blk_put (cs := #[.int .i64 0, .string (⟨#[]⟩ : ByteArray), .int .i64 0]) ?_ 0 _ rfl; (with_reducible repeat (first | refine blk_drewN ?_ _ | refine blk_drew ?_ | refine blk_alloc ?_ _)); exact BK163.out) Tryd.underlying35 rfl (by kernel_rfl)) rfl ?_
                         exact ⟨by first | rfl | (simp [errW_none, errW_some] <;> rfl) | (simp [*, errW_none, errW_some] <;> rfl), by repeat (first | (with_reducible first | exact HB.out | apply below_alloc | apply pw_below_drewN | apply below_drew1 | refine below_set ?_ GE163.out) | exact HB.out)⟩
                       · rw [if_neg c22] at H
                         exact absurd H (by simp)
                     · rw [if_neg c21] at H
                       exact absurd H (by simp)
                 · rw [if_neg c17] at H
                   exact absurd H (by simp)
               · rw [if_neg c16] at H
                 exact absurd H (by simp)
             · rw [if_neg c15] at H
               exact absurd H (by simp)
           · rw [if_neg c14] at H
             have c14b0 : decide (x9_1 < (a0.size : Int)) = false := decide_eq_false c14
             clear c14
             by_cases c24 : 0 ≤ a1
             · rw [if_pos c24] at H
               have c24b0 := eq_true c24
               have c24b1 : decide (0 ≤ a1) = true := decide_eq_true c24
               clear c24
               by_cases c25 : a1 ≤ x9_1
               · rw [if_pos c25] at H
                 have c25b0 := eq_true c25
                 have c25b1 : decide (a1 ≤ x9_1) = true := decide_eq_true c25
                 clear c25
                 by_cases c26 : x9_1 ≤ (a0.size : Int)
                 · rw [if_pos c26] at H
                   have c26b0 := eq_true c26
                   have c26b1 : decide (x9_1 ≤ (a0.size : Int)) = true := decide_eq_true c26
                   clear c26
                   simp only [Option.some.injEq, Prod.mk.injEq] at H
                   obtain ⟨rfl, rfl, rfl, rfl⟩ := H
                   have hcz27_0 : wr.cell? ⟨gb163, 0, none⟩ = some (.int .i64 0) := (blk_cell BK163.out 0).trans rfl
                   have hcz27_1 : wr.cell? ⟨gb163, 1, none⟩ = some (.string (⟨#[]⟩ : ByteArray)) := (blk_cell BK163.out 1).trans rfl
                   have hcz27_2 : wr.cell? ⟨gb163, 2, none⟩ = some (.int .i64 0) := (blk_cell BK163.out 2).trans rfl
                   have hfz27_0 := blk_frozen BK163.out 0
                   have hfz27_1 := blk_frozen BK163.out 1
                   have hfz27_2 := blk_frozen BK163.out 2
                   go_wp2
                   refine bodyPost_ret (results_ct rfl _ _ gb163 35 #[.int .i64 1, .string (a0.extract (a1 : Int).toNat (x9_1 : Int).toNat), .int .i64 a1] (0, 0) _ rfl (by (with_reducible repeat (first | refine blk_drewN ?_ _ | refine blk_drew ?_ | refine blk_alloc ?_ _)); refine blk_put (cs := #[.int .i64 1, .string (a0.extract (a1 : Int).toNat (x9_1 : Int).toNat), .int .i64 0]) ?_ 2 _ rfl; (with_reducible repeat (first | refine blk_drewN ?_ _ | refine blk_drew ?_ | refine blk_alloc ?_ _)); refine blk_put (cs := #[.int .i64 1, .string (⟨#[]⟩ : ByteArray), .int .i64 0]) ?_ 1 _ rfl; (with_reducible repeat (first | refine blk_drewN ?_ _ | refine blk_drew ?_ | refine blk_alloc ?_ _)); refine blk_put (cs := #[.int .i64 0, .string (⟨#[]⟩ : ByteArray), .int .i64 0]) ?_ 0 _ rfl; (with_reducible repeat (first | refine blk_drewN ?_ _ | refine blk_drew ?_ | refine blk_alloc ?_ _)); exact BK163.out) Tryd.underlying35 rfl (by kernel_rfl)) rfl ?_
                   exact ⟨by first | rfl | (simp [errW_none, errW_some] <;> rfl) | (simp [*, errW_none, errW_some] <;> rfl), by repeat (first | (with_reducible first | exact HB.out | apply below_alloc | apply pw_below_drewN | apply below_drew1 | refine below_set ?_ GE163.out) | exact HB.out)⟩
                 · rw [if_neg c26] at H
                   exact absurd H (by simp)
               · rw [if_neg c25] at H
                 exact absurd H (by simp)
             · rw [if_neg c24] at H
               exact absurd H (by simp)
       · replace c12 := Bool.eq_false_iff.mpr c12
         subst c12
         have H1 : ((partitaref18_digits.f k a0 a1).bind fun t168 => (if (bt a0 a1) = 45 then ((partitaref18_digits.f k a0 (wrap64 (a1 + 1))).bind fun t169 => (partitaref18_piece.j1 k a0 a1 (bt a0 a1) t169)) else (partitaref18_piece.j1 k a0 a1 (bt a0 a1) t168))) = some (r1, r2, r3, r4) := by rw [if_neg (show ¬ (false = true) by decide)] at H; exact H
         clear H
         have H := H1
         clear H1
         replace H := Option.bind_eq_some_iff.mp H
         obtain ⟨t168, A280, H⟩ := H
         replace H : (if (bt a0 a1) = 45 then ((partitaref18_digits.f k a0 (wrap64 (a1 + 1))).bind fun t169 => (partitaref18_piece.j1 k a0 a1 (bt a0 a1) t169)) else (partitaref18_piece.j1 k a0 a1 (bt a0 a1) t168)) = some (r1, r2, r3, r4) := H
         have A28 := Aside0.mk A280
         clear A280
         have HC29 := Aside0.mk H
         clear H
         go_enter Tryd.func26, Tryd.ntmps26
         go_upto_if 55 with (first | ((with_reducible refine gate_dst (N := 4) rfl ?_); refine box_event ?hg (N := 4) ?hd (cs := #[.int .i64 0, .string (⟨#[]⟩ : ByteArray), .int .i64 0]) (t := 35) ?hr ?_; (case hd => rfl); (case hg => rfl); (case hr => first | (go_simp; done) | (go_simp; rfl)); intro gb163 hg w30 hbox hb; have n0_ := Aside0.mk (below_step (by repeat (first | (with_reducible first | exact HB.out | apply below_alloc | apply pw_below_drewN | apply below_drew1) | exact HB.out)) hb); have n1_ := Aside0.mk (hbox); have n2_ := Aside0.mk ((by rw [hg]; exact (below_size (by repeat (first | (with_reducible first | exact HB.out | apply below_alloc | apply pw_below_drewN | apply below_drew1) | exact HB.out))) : w.heap.size ≤ gb163)); have n3_ := Aside0.mk ((by rw [hg]; exact (below_size (by repeat (first | (with_reducible first | exact HB.out | apply below_alloc | apply pw_below_drewN | apply below_drew1) | exact HB.out))) : w.heap.size ≤ gb163)); clear HB; have HB := n0_; have BK163 := n1_; have GW163 := n2_; have GE163 := n3_; clear n0_ n1_ n2_ n3_; clear hb hbox hg; have p5 : 0 ≤ (a1 : Int) := of_decide_eq_true (by first | (with_reducible assumption) | assumption); have q5 : a1 < (a0.size : Int) := of_decide_eq_true (by first | (with_reducible assumption) | assumption); have hx5 := bt_at a0 a1; replace p5 := eq_true p5; replace q5 := eq_true q5) | ((with_reducible refine gate_callee (f := 41) rfl ?_); refine goesL_ (some 27) rfl rfl Tryd.func41 (by kernel_rfl) rfl #[.int .u8 (bt a0 a1)] rfl (by (try simp only [List.map_toArray, List.map_cons, List.map_nil]); first | done | rfl | (simp only [List.length_drop, List.length_take]; rfl)) ?_; (with_reducible refine (partitaref18_Letter.calls (bt a0 a1) false _ A11.out).mono ?_); rintro e w' ⟨rfl, ⟨nd, rfl⟩⟩; refine ⟨_, rfl, ?_⟩) | ((with_reducible refine gate_callee (f := 43) rfl ?_); refine goesL_ (some 53) rfl rfl Tryd.func43 (by kernel_rfl) rfl #[.string a0, .int .i64 a1] rfl (by (try simp only [List.map_toArray, List.map_cons, List.map_nil]); first | done | rfl | (simp only [List.length_drop, List.length_take]; rfl)) ?_; (with_reducible refine (partitaref18_digits.calls k a0 a1 t168 _ A28.out).mono ?_); rintro e w' ⟨rfl, ⟨nd, rfl⟩⟩; refine ⟨_, rfl, ?_⟩))
         (try simp only [Act.put, qa_, qz_, qs_])
         go_cut [10] (fun v10 wc => ∃ (kq : Nat) (x10_28 : Int), v10 = .int .i64 x10_28 ∧ Aside0 (partitaref18_piece.j1 kq a0 a1 (bt a0 a1) x10_28 = some (r1, r2, r3, r4)) ∧ Aside0 (kq ≤ k) ∧ Aside0 (wc.heap[gb163]? = some (.cells #[.int .i64 0, .string (⟨#[]⟩ : ByteArray), .int .i64 0] 35 (0, 0))) ∧ Aside0 (Below w.heap.size w wc))
         case first =>
          have H := HC29.out
          clear HC29
          by_cases c31 : (bt a0 a1) = 45
          · rw [if_pos c31] at H
            have c31b0 : ((bt a0 a1) == 45) = true := beq_iff_eq.mpr c31
            have c31b1 : ((bt a0 a1) != 45) = false := bne_eq_false_iff_eq.mpr c31
            clear c31
            (first | rw [c31b0] | (simp only [i64_w, i32_w]; rw [c31b0]) | skip)
            replace H := Option.bind_eq_some_iff.mp H
            obtain ⟨t169, A320, H⟩ := H
            replace H : (partitaref18_piece.j1 k a0 a1 (bt a0 a1) t169) = some (r1, r2, r3, r4) := H
            have A32 := Aside0.mk A320
            clear A320
            have H' := Aside0.mk H
            clear H
            go_wp2_with (first | ((with_reducible refine gate_callee (f := 43) rfl ?_); refine goesL_ (some 59) rfl rfl Tryd.func43 (by kernel_rfl) rfl #[.string a0, .int .i64 (wrap64 (a1 + 1))] rfl (by (try simp only [List.map_toArray, List.map_cons, List.map_nil]); first | done | rfl | (simp only [List.length_drop, List.length_take]; rfl)) ?_; (with_reducible refine (partitaref18_digits.calls k a0 (wrap64 (a1 + 1)) t169 _ A32.out).mono ?_); rintro e w' ⟨rfl, ⟨nd, rfl⟩⟩; refine ⟨_, rfl, ?_⟩))
            go_meet
            case rel => exact ⟨_, (t169), (by first | rfl | (simp; done) | (simp [*]; done) | (simp [wrap64]; done)), H', ⟨by first | omega | exact Nat.le_refl _⟩, ⟨by (with_reducible repeat (first | refine blk_drewN ?_ _ | refine blk_drew ?_ | refine blk_alloc ?_ _)); exact BK163.out⟩, ⟨by repeat (first | (with_reducible first | exact HB.out | apply below_alloc | apply pw_below_drewN | apply below_drew1 | refine below_set ?_ GE163.out) | exact HB.out)⟩⟩
          · rw [if_neg c31] at H
            have c31b0 : ((bt a0 a1) == 45) = false := beq_eq_false_iff_ne.mpr c31
            have c31b1 : ((bt a0 a1) != 45) = true := bne_iff_ne.mpr c31
            (first | rw [c31b0] | (simp only [i64_w, i32_w]; rw [c31b0]) | skip)
            have H' := Aside0.mk H
            clear H
            go_wp2
            go_meet
            case rel => exact ⟨_, (t168), (by first | rfl | (simp; done) | (simp [*]; done) | (simp [wrap64]; done)), H', ⟨by first | omega | exact Nat.le_refl _⟩, ⟨by (with_reducible repeat (first | refine blk_drewN ?_ _ | refine blk_drew ?_ | refine blk_alloc ?_ _)); exact BK163.out⟩, ⟨by repeat (first | (with_reducible first | exact HB.out | apply below_alloc | apply pw_below_drewN | apply below_drew1 | refine below_set ?_ GE163.out) | exact HB.out)⟩⟩
         case rest =>
          clear HC29
          try clear c1
          try clear c2
          try clear p2
          try clear c3
          try clear c3b0
          try clear c4
          try clear c4b0
          try clear p5
          try clear q5
          try clear hx5
          try clear c6
          try clear c6b0
          try clear c6b1
          try clear p6
          try clear c12
          try clear c14
          try clear c14b0
          try clear c15
          try clear c15b0
          try clear c15b1
          try clear c16
          try clear c16b0
          try clear c16b1
          try clear c17
          try clear c17b0
          try clear c17b1
          try clear c19
          try clear c20
          try clear c20b0
          try clear c21
          try clear c21b0
          try clear c21b1
          try clear c22
          try clear c22b0
          try clear c22b1
          try clear c24
          try clear c24b0
          try clear c24b1
          try clear c25
          try clear c25b0
          try clear c25b1
          try clear c26
          try clear c26b0
          try clear c26b1
          try clear c31
          try clear c31b0
          try clear c31b1
          try clear hcz10_0
          try clear hcz10_1
          try clear hcz10_2
          try clear hcz23_0
          try clear hcz23_1
          try clear hcz23_2
          try clear hcz27_0
          try clear hcz27_1
          try clear hcz27_2
          try clear hfz10_0
          try clear hfz10_1
          try clear hfz10_2
          try clear hfz23_0
          try clear hfz23_1
          try clear hfz23_2
          try clear hfz27_0
          try clear hfz27_1
          try clear hfz27_2
          try clear p2
          try clear p5
          try clear p6
          try clear q5
          obtain ⟨kq, x10_28, rfl, HA, HJ28, BK163, HB⟩ := hcut
          cases kq with
          | zero => exact absurd HA.out (by simp [partitaref18_piece.j1])
          | succ kj28 =>
           have H := HA.out
           clear HA
           simp only [partitaref18_piece.j1] at H
           have HC33 := Aside0.mk H
           clear H
           go_upto_region 13 with (fail)
           go_cut [72] (fun v72 wc => ∃ (kq : Nat) (x72_32 : Bool), v72 = .bool x72_32 ∧ Aside0 (partitaref18_piece.j2 kq a0 a1 (bt a0 a1) x10_28 x72_32 = some (r1, r2, r3, r4)) ∧ Aside0 (kq ≤ kj28) ∧ Aside0 (wc.heap[gb163]? = some (.cells #[.int .i64 0, .string (⟨#[]⟩ : ByteArray), .int .i64 0] 35 (0, 0))) ∧ Aside0 (Below w.heap.size w wc))
           case first =>
            have H := HC33.out
            clear HC33
            by_cases c34 : x10_28 > a1
            · rw [if_pos c34] at H
              have c34b0 : decide (a1 < x10_28) = true := decide_eq_true c34
              clear c34
              (first | rw [c34b0] | (simp only [i64_w, i32_w]; rw [c34b0]) | skip)
              by_cases c35 : (bt a0 a1) = 45
              · rw [if_pos c35] at H
                have c35b0 : ((bt a0 a1) == 45) = true := beq_iff_eq.mpr c35
                have c35b1 : ((bt a0 a1) != 45) = false := bne_eq_false_iff_eq.mpr c35
                clear c35
                have H' := Aside0.mk H
                clear H
                go_wp2
                go_meet
                case rel => exact ⟨_, (decide (x10_28 > (wrap64 (a1 + 1)))), (by first | rfl | (simp; done) | (simp [*]; done) | (simp [wrap64]; done)), H', ⟨by have := HJ28.out; first | omega | exact Nat.le_refl _⟩, ⟨by (with_reducible repeat (first | refine blk_drewN ?_ _ | refine blk_drew ?_ | refine blk_alloc ?_ _)); exact BK163.out⟩, ⟨by repeat (first | (with_reducible first | exact HB.out | apply below_alloc | apply pw_below_drewN | apply below_drew1 | refine below_set ?_ GE163.out) | exact HB.out)⟩⟩
              · rw [if_neg c35] at H
                have c35b0 : ((bt a0 a1) == 45) = false := beq_eq_false_iff_ne.mpr c35
                have c35b1 : ((bt a0 a1) != 45) = true := bne_iff_ne.mpr c35
                have H' := Aside0.mk H
                clear H
                go_wp2
                go_meet
                case rel => exact ⟨_, (true), (by first | rfl | (simp; done) | (simp [*]; done) | (simp [wrap64]; done)), H', ⟨by have := HJ28.out; first | omega | exact Nat.le_refl _⟩, ⟨by (with_reducible repeat (first | refine blk_drewN ?_ _ | refine blk_drew ?_ | refine blk_alloc ?_ _)); exact BK163.out⟩, ⟨by repeat (first | (with_reducible first | exact HB.out | apply below_alloc | apply pw_below_drewN | apply below_drew1 | refine below_set ?_ GE163.out) | exact HB.out)⟩⟩
            · rw [if_neg c34] at H
              have c34b0 : decide (a1 < x10_28) = false := decide_eq_false c34
              clear c34
              (first | rw [c34b0] | (simp only [i64_w, i32_w]; rw [c34b0]) | skip)
              have H' := Aside0.mk H
              clear H
              go_wp2
              go_meet
              case rel => exact ⟨_, (false), (by first | rfl | (simp; done) | (simp [*]; done) | (simp [wrap64]; done)), H', ⟨by have := HJ28.out; first | omega | exact Nat.le_refl _⟩, ⟨by (with_reducible repeat (first | refine blk_drewN ?_ _ | refine blk_drew ?_ | refine blk_alloc ?_ _)); exact BK163.out⟩, ⟨by repeat (first | (with_reducible first | exact HB.out | apply below_alloc | apply pw_below_drewN | apply below_drew1 | refine below_set ?_ GE163.out) | exact HB.out)⟩⟩
           case rest =>
            clear HC33
            try clear c1
            try clear c2
            try clear p2
            try clear c3
            try clear c3b0
            try clear c4
            try clear c4b0
            try clear p5
            try clear q5
            try clear hx5
            try clear c6
            try clear c6b0
            try clear c6b1
            try clear p6
            try clear c12
            try clear c14
            try clear c14b0
            try clear c15
            try clear c15b0
            try clear c15b1
            try clear c16
            try clear c16b0
            try clear c16b1
            try clear c17
            try clear c17b0
            try clear c17b1
            try clear c19
            try clear c20
            try clear c20b0
            try clear c21
            try clear c21b0
            try clear c21b1
            try clear c22
            try clear c22b0
            try clear c22b1
            try clear c24
            try clear c24b0
            try clear c24b1
            try clear c25
            try clear c25b0
            try clear c25b1
            try clear c26
            try clear c26b0
            try clear c26b1
            try clear c31
            try clear c31b0
            try clear c31b1
            try clear c34
            try clear c34b0
            try clear c35
            try clear c35b0
            try clear c35b1
            try clear hcz10_0
            try clear hcz10_1
            try clear hcz10_2
            try clear hcz23_0
            try clear hcz23_1
            try clear hcz23_2
            try clear hcz27_0
            try clear hcz27_1
            try clear hcz27_2
            try clear hfz10_0
            try clear hfz10_1
            try clear hfz10_2
            try clear hfz23_0
            try clear hfz23_1
            try clear hfz23_2
            try clear hfz27_0
            try clear hfz27_1
            try clear hfz27_2
            try clear p2
            try clear p5
            try clear p6
            try clear q5
            obtain ⟨kq, x72_32, rfl, HA, HJ32, BK163, HB⟩ := hcut
            cases kq with
            | zero => exact absurd HA.out (by simp [partitaref18_piece.j2])
            | succ kj32 =>
             have H := HA.out
             clear HA
             simp only [partitaref18_piece.j2] at H
             by_cases c36 : x72_32 = true
             · subst c36
               have H1 : (if 0 ≤ a1 then (if a1 ≤ x10_28 then (if x10_28 ≤ (a0.size : Int) then ((partitaref18_number.f kj32 (a0.extract (a1 : Int).toNat (x10_28 : Int).toNat)).bind fun t170 => (if t170 = true then (some (2, a0.extract (a1 : Int).toNat (x10_28 : Int).toNat, a1, x10_28)) else (some (0, (⟨#[]⟩ : ByteArray), 0, 0)))) else (none)) else (none)) else (none)) = some (r1, r2, r3, r4) := by rw [if_pos rfl] at H; exact H
               clear H
               have H := H1
               clear H1
               by_cases c37 : 0 ≤ a1
               · rw [if_pos c37] at H
                 have c37b0 := eq_true c37
                 have c37b1 : decide (0 ≤ a1) = true := decide_eq_true c37
                 clear c37
                 by_cases c38 : a1 ≤ x10_28
                 · rw [if_pos c38] at H
                   have c38b0 := eq_true c38
                   have c38b1 : decide (a1 ≤ x10_28) = true := decide_eq_true c38
                   clear c38
                   by_cases c39 : x10_28 ≤ (a0.size : Int)
                   · rw [if_pos c39] at H
                     have c39b0 := eq_true c39
                     have c39b1 : decide (x10_28 ≤ (a0.size : Int)) = true := decide_eq_true c39
                     clear c39
                     replace H := Option.bind_eq_some_iff.mp H
                     obtain ⟨t170, A400, H⟩ := H
                     replace H : (if t170 = true then (some (2, a0.extract (a1 : Int).toNat (x10_28 : Int).toNat, a1, x10_28)) else (some (0, (⟨#[]⟩ : ByteArray), 0, 0))) = some (r1, r2, r3, r4) := H
                     have A40 := Aside0.mk A400
                     clear A400
                     by_cases c41 : t170 = true
                     · subst c41
                       have H1 : (some (2, a0.extract (a1 : Int).toNat (x10_28 : Int).toNat, a1, x10_28)) = some (r1, r2, r3, r4) := by rw [if_pos rfl] at H; exact H
                       clear H
                       have H := H1
                       clear H1
                       have c42b0 := eq_true (of_decide_eq_true (by first | (with_reducible assumption) | assumption) : 0 ≤ a1)
                       have c43b0 := eq_true (of_decide_eq_true (by first | (with_reducible assumption) | assumption) : a1 ≤ x10_28)
                       have c44b0 := eq_true (of_decide_eq_true (by first | (with_reducible assumption) | assumption) : x10_28 ≤ (a0.size : Int))
                       simp only [Option.some.injEq, Prod.mk.injEq] at H
                       obtain ⟨rfl, rfl, rfl, rfl⟩ := H
                       go_wp2_with (first | ((with_reducible refine gate_callee (f := 44) rfl ?_); refine goesL_ (some 77) rfl rfl Tryd.func44 (by kernel_rfl) rfl #[.string (a0.extract (a1 : Int).toNat (x10_28 : Int).toNat)] rfl (by (try simp only [List.map_toArray, List.map_cons, List.map_nil]); first | done | rfl | (simp only [List.length_drop, List.length_take]; rfl)) ?_; (with_reducible refine (partitaref18_number.calls kj32 (a0.extract (a1 : Int).toNat (x10_28 : Int).toNat) true _ A40.out).mono ?_); rintro e w' ⟨rfl, ⟨nd, rfl⟩⟩; refine ⟨_, rfl, ?_⟩; (try (rw [drewN_self wc]; generalize hq_ : World.drewN wc _ = wc; have n0_ : Aside0 (wc.heap[gb163]? = some (.cells #[.int .i64 0, .string (⟨#[]⟩ : ByteArray), .int .i64 0] 35 (0, 0))) := ⟨by rw [← hq_]; exact (qB BK163.out)⟩; have n1_ : Aside0 (Below w.heap.size w wc) := ⟨by rw [← hq_]; exact (by repeat (first | (with_reducible first | exact HB.out | apply below_alloc | apply pw_below_drewN | apply below_drew1 | refine below_set ?_ GE163.out) | exact HB.out))⟩; clear BK163 HB hq_; have BK163 := n0_; have HB := n1_; clear n0_ n1_)); have hcz45_0 : wc.cell? ⟨gb163, 0, none⟩ = some (.int .i64 0) := (blk_cell BK163.out 0).trans rfl; have hcz45_1 : wc.cell? ⟨gb163, 1, none⟩ = some (.string (⟨#[]⟩ : ByteArray)) := (blk_cell BK163.out 1).trans rfl; have hcz45_2 : wc.cell? ⟨gb163, 2, none⟩ = some (.int .i64 0) := (blk_cell BK163.out 2).trans rfl; have hfz45_0 := blk_frozen BK163.out 0; have hfz45_1 := blk_frozen BK163.out 1; have hfz45_2 := blk_frozen BK163.out 2))
                       refine bodyPost_ret (results_ct rfl _ _ gb163 35 #[.int .i64 2, .string (a0.extract (a1 : Int).toNat (x10_28 : Int).toNat), .int .i64 a1] (0, 0) _ rfl (by (with_reducible repeat (first | refine blk_drewN ?_ _ | refine blk_drew ?_ | refine blk_alloc ?_ _)); refine blk_put (cs := #[.int .i64 2, .string (a0.extract (a1 : Int).toNat (x10_28 : Int).toNat), .int .i64 0]) ?_ 2 _ rfl; (with_reducible repeat (first | refine blk_drewN ?_ _ | refine blk_drew ?_ | refine blk_alloc ?_ _)); refine blk_put (cs := #[.int .i64 2, .string (⟨#[]⟩ : ByteArray), .int .i64 0]) ?_ 1 _ rfl; (with_reducible repeat (first | refine blk_drewN ?_ _ | refine blk_drew ?_ | refine blk_alloc ?_ _)); refine blk_put (cs := #[.int .i64 0, .string (⟨#[]⟩ : ByteArray), .int .i64 0]) ?_ 0 _ rfl; (with_reducible repeat (first | refine blk_drewN ?_ _ | refine blk_drew ?_ | refine blk_alloc ?_ _)); exact BK163.out) Tryd.underlying35 rfl (by kernel_rfl)) rfl ?_
                       exact ⟨by first | rfl | (simp [errW_none, errW_some] <;> rfl) | (simp [*, errW_none, errW_some] <;> rfl), by repeat (first | (with_reducible first | exact HB.out | apply below_alloc | apply pw_below_drewN | apply below_drew1 | refine below_set ?_ GE163.out) | exact HB.out)⟩
                     · replace c41 := Bool.eq_false_iff.mpr c41
                       subst c41
                       have H1 : (some (0, (⟨#[]⟩ : ByteArray), 0, 0)) = some (r1, r2, r3, r4) := by rw [if_neg (show ¬ (false = true) by decide)] at H; exact H
                       clear H
                       have H := H1
                       clear H1
                       simp only [Option.some.injEq, Prod.mk.injEq] at H
                       obtain ⟨rfl, rfl, rfl, rfl⟩ := H
                       go_wp2_with (first | ((with_reducible refine gate_callee (f := 44) rfl ?_); refine goesL_ (some 77) rfl rfl Tryd.func44 (by kernel_rfl) rfl #[.string (a0.extract (a1 : Int).toNat (x10_28 : Int).toNat)] rfl (by (try simp only [List.map_toArray, List.map_cons, List.map_nil]); first | done | rfl | (simp only [List.length_drop, List.length_take]; rfl)) ?_; (with_reducible refine (partitaref18_number.calls kj32 (a0.extract (a1 : Int).toNat (x10_28 : Int).toNat) false _ A40.out).mono ?_); rintro e w' ⟨rfl, ⟨nd, rfl⟩⟩; refine ⟨_, rfl, ?_⟩; (try (rw [drewN_self wc]; generalize hq_ : World.drewN wc _ = wc; have n0_ : Aside0 (wc.heap[gb163]? = some (.cells #[.int .i64 0, .string (⟨#[]⟩ : ByteArray), .int .i64 0] 35 (0, 0))) := ⟨by rw [← hq_]; exact (qB BK163.out)⟩; have n1_ : Aside0 (Below w.heap.size w wc) := ⟨by rw [← hq_]; exact (by repeat (first | (with_reducible first | exact HB.out | apply below_alloc | apply pw_below_drewN | apply below_drew1 | refine below_set ?_ GE163.out) | exact HB.out))⟩; clear BK163 HB hq_; have BK163 := n0_; have HB := n1_; clear n0_ n1_)); have hcz46_0 : wc.cell? ⟨gb163, 0, none⟩ = some (.int .i64 0) := (blk_cell BK163.out 0).trans rfl; have hcz46_1 : wc.cell? ⟨gb163, 1, none⟩ = some (.string (⟨#[]⟩ : ByteArray)) := (blk_cell BK163.out 1).trans rfl; have hcz46_2 : wc.cell? ⟨gb163, 2, none⟩ = some (.int .i64 0) := (blk_cell BK163.out 2).trans rfl; have hfz46_0 := blk_frozen BK163.out 0; have hfz46_1 := blk_frozen BK163.out 1; have hfz46_2 := blk_frozen BK163.out 2))
                       refine bodyPost_ret (results_ct rfl _ _ gb163 35 #[.int .i64 0, .string (⟨#[]⟩ : ByteArray), .int .i64 0] (0, 0) _ rfl (by (with_reducible repeat (first | refine blk_drewN ?_ _ | refine blk_drew ?_ | refine blk_alloc ?_ _)); refine blk_put (cs := #[.int .i64 0, .string (⟨#[]⟩ : ByteArray), .int .i64 0]) ?_ 2 _ rfl; (with_reducible repeat (first | refine blk_drewN ?_ _ | refine blk_drew ?_ | refine blk_alloc ?_ _)); refine blk_put (cs := #[.int .i64 0, .string (⟨#[]⟩ : ByteArray), .int .i64 0]) ?_ 1 _ rfl; (with_reducible repeat (first | refine blk_drewN ?_ _ | refine blk_drew ?_ | refine blk_alloc ?_ _)); refine blk_put (cs := #[.int .i64 0, .string (⟨#[]⟩ : ByteArray), .int .i64 0]) ?_ 0 _ rfl; (with_reducible repeat (first | refine blk_drewN ?_ _ | refine blk_drew ?_ | refine blk_alloc ?_ _)); exact BK163.out) Tryd.underlying35 rfl (by kernel_rfl)) rfl ?_
                       exact ⟨by first | rfl | (simp [errW_none, errW_some] <;> rfl) | (simp [*, errW_none, errW_some] <;> rfl), by repeat (first | (with_reducible first | exact HB.out | apply below_alloc | apply pw_below_drewN | apply below_drew1 | refine below_set ?_ GE163.out) | exact HB.out)⟩
                   · rw [if_neg c39] at H
                     exact absurd H (by simp)
                 · rw [if_neg c38] at H
                   exact absurd H (by simp)
               · rw [if_neg c37] at H
                 exact absurd H (by simp)
             · replace c36 := Bool.eq_false_iff.mpr c36
               subst c36
               have H1 : (if (bt a0 a1) = 10 then (some (5, (⟨#[10]⟩ : ByteArray), a1, wrap64 (a1 + 1))) else ((partitaref18_sign.f (bt a0 a1)).bind fun t171 => (if t171 = true then (if 0 ≤ a1 then (if a1 ≤ (wrap64 (a1 + 1)) then (if (wrap64 (a1 + 1)) ≤ (a0.size : Int) then (some (4, a0.extract (a1 : Int).toNat ((wrap64 (a1 + 1)) : Int).toNat, a1, wrap64 (a1 + 1))) else (none)) else (none)) else (none)) else (some (0, (⟨#[]⟩ : ByteArray), 0, 0))))) = some (r1, r2, r3, r4) := by rw [if_neg (show ¬ (false = true) by decide)] at H; exact H
               clear H
               have H := H1
               clear H1
               by_cases c47 : (bt a0 a1) = 10
               · rw [if_pos c47] at H
                 have c47b0 : ((bt a0 a1) == 10) = true := beq_iff_eq.mpr c47
                 have c47b1 : ((bt a0 a1) != 10) = false := bne_eq_false_iff_eq.mpr c47
                 clear c47
                 simp only [Option.some.injEq, Prod.mk.injEq] at H
                 obtain ⟨rfl, rfl, rfl, rfl⟩ := H
                 have hcz48_0 : wc.cell? ⟨gb163, 0, none⟩ = some (.int .i64 0) := (blk_cell BK163.out 0).trans rfl
                 have hcz48_1 : wc.cell? ⟨gb163, 1, none⟩ = some (.string (⟨#[]⟩ : ByteArray)) := (blk_cell BK163.out 1).trans rfl
                 have hcz48_2 : wc.cell? ⟨gb163, 2, none⟩ = some (.int .i64 0) := (blk_cell BK163.out 2).trans rfl
                 have hfz48_0 := blk_frozen BK163.out 0
                 have hfz48_1 := blk_frozen BK163.out 1
                 have hfz48_2 := blk_frozen BK163.out 2
                 go_wp2
                 refine bodyPost_ret (results_ct rfl _ _ gb163 35 #[.int .i64 5, .string (⟨#[10]⟩ : ByteArray), .int .i64 a1] (0, 0) _ rfl (by (with_reducible repeat (first | refine blk_drewN ?_ _ | refine blk_drew ?_ | refine blk_alloc ?_ _)); refine blk_put (cs := #[.int .i64 5, .string (⟨#[10]⟩ : ByteArray), .int .i64 0]) ?_ 2 _ rfl; (with_reducible repeat (first | refine blk_drewN ?_ _ | refine blk_drew ?_ | refine blk_alloc ?_ _)); refine blk_put (cs := #[.int .i64 5, .string (⟨#[]⟩ : ByteArray), .int .i64 0]) ?_ 1 _ rfl; (with_reducible repeat (first | refine blk_drewN ?_ _ | refine blk_drew ?_ | refine blk_alloc ?_ _)); refine blk_put (cs := #[.int .i64 0, .string (⟨#[]⟩ : ByteArray), .int .i64 0]) ?_ 0 _ rfl; (with_reducible repeat (first | refine blk_drewN ?_ _ | refine blk_drew ?_ | refine blk_alloc ?_ _)); exact BK163.out) Tryd.underlying35 rfl (by kernel_rfl)) rfl ?_
                 exact ⟨by first | rfl | (simp [errW_none, errW_some] <;> rfl) | (simp [*, errW_none, errW_some] <;> rfl), by repeat (first | (with_reducible first | exact HB.out | apply below_alloc | apply pw_below_drewN | apply below_drew1 | refine below_set ?_ GE163.out) | exact HB.out)⟩
               · rw [if_neg c47] at H
                 have c47b0 : ((bt a0 a1) == 10) = false := beq_eq_false_iff_ne.mpr c47
                 have c47b1 : ((bt a0 a1) != 10) = true := bne_iff_ne.mpr c47
                 replace H := Option.bind_eq_some_iff.mp H
                 obtain ⟨t171, A490, H⟩ := H
                 replace H : (if t171 = true then (if 0 ≤ a1 then (if a1 ≤ (wrap64 (a1 + 1)) then (if (wrap64 (a1 + 1)) ≤ (a0.size : Int) then (some (4, a0.extract (a1 : Int).toNat ((wrap64 (a1 + 1)) : Int).toNat, a1, wrap64 (a1 + 1))) else (none)) else (none)) else (none)) else (some (0, (⟨#[]⟩ : ByteArray), 0, 0))) = some (r1, r2, r3, r4) := H
                 have A49 := Aside0.mk A490
                 clear A490
                 by_cases c50 : t171 = true
                 · subst c50
                   have H1 : (if 0 ≤ a1 then (if a1 ≤ (wrap64 (a1 + 1)) then (if (wrap64 (a1 + 1)) ≤ (a0.size : Int) then (some (4, a0.extract (a1 : Int).toNat ((wrap64 (a1 + 1)) : Int).toNat, a1, wrap64 (a1 + 1))) else (none)) else (none)) else (none)) = some (r1, r2, r3, r4) := by rw [if_pos rfl] at H; exact H
                   clear H
                   have H := H1
                   clear H1
                   by_cases c51 : 0 ≤ a1
                   · rw [if_pos c51] at H
                     have c51b0 := eq_true c51
                     have c51b1 : decide (0 ≤ a1) = true := decide_eq_true c51
                     clear c51
                     by_cases c52 : a1 ≤ (wrap64 (a1 + 1))
                     · rw [if_pos c52] at H
                       have c52b0 := eq_true c52
                       have c52b1 : decide (a1 ≤ (wrap64 (a1 + 1))) = true := decide_eq_true c52
                       by_cases c53 : (wrap64 (a1 + 1)) ≤ (a0.size : Int)
                       · rw [if_pos c53] at H
                         have c53b0 := eq_true c53
                         have c53b1 : decide ((wrap64 (a1 + 1)) ≤ (a0.size : Int)) = true := decide_eq_true c53
                         simp only [Option.some.injEq, Prod.mk.injEq] at H
                         obtain ⟨rfl, rfl, rfl, rfl⟩ := H
                         go_wp2_with (first | ((with_reducible refine gate_callee (f := 45) rfl ?_); refine goesL_ (some 94) rfl rfl Tryd.func45 (by kernel_rfl) rfl #[.int .u8 (bt a0 a1)] rfl (by (try simp only [List.map_toArray, List.map_cons, List.map_nil]); first | done | rfl | (simp only [List.length_drop, List.length_take]; rfl)) ?_; (with_reducible refine (partitaref18_sign.calls (bt a0 a1) true _ A49.out).mono ?_); rintro e w' ⟨rfl, ⟨nd, rfl⟩⟩; refine ⟨_, rfl, ?_⟩; (try (rw [drewN_self wc]; generalize hq_ : World.drewN wc _ = wc; have n0_ : Aside0 (wc.heap[gb163]? = some (.cells #[.int .i64 0, .string (⟨#[]⟩ : ByteArray), .int .i64 0] 35 (0, 0))) := ⟨by rw [← hq_]; exact (qB BK163.out)⟩; have n1_ : Aside0 (Below w.heap.size w wc) := ⟨by rw [← hq_]; exact (by repeat (first | (with_reducible first | exact HB.out | apply below_alloc | apply pw_below_drewN | apply below_drew1 | refine below_set ?_ GE163.out) | exact HB.out))⟩; clear BK163 HB hq_; have BK163 := n0_; have HB := n1_; clear n0_ n1_)); have hcz54_0 : wc.cell? ⟨gb163, 0, none⟩ = some (.int .i64 0) := (blk_cell BK163.out 0).trans rfl; have hcz54_1 : wc.cell? ⟨gb163, 1, none⟩ = some (.string (⟨#[]⟩ : ByteArray)) := (blk_cell BK163.out 1).trans rfl; have hcz54_2 : wc.cell? ⟨gb163, 2, none⟩ = some (.int .i64 0) := (blk_cell BK163.out 2).trans rfl; have hfz54_0 := blk_frozen BK163.out 0; have hfz54_1 := blk_frozen BK163.out 1; have hfz54_2 := blk_frozen BK163.out 2))
                         refine bodyPost_ret (results_ct rfl _ _ gb163 35 #[.int .i64 4, .string (a0.extract (a1 : Int).toNat ((wrap64 (a1 + 1)) : Int).toNat), .int .i64 a1] (0, 0) _ rfl (by (with_reducible repeat (first | refine blk_drewN ?_ _ | refine blk_drew ?_ | refine blk_alloc ?_ _)); refine blk_put (cs := #[.int .i64 4, .string (a0.extract (a1 : Int).toNat ((wrap64 (a1 + 1)) : Int).toNat), .int .i64 0]) ?_ 2 _ rfl; (with_reducible repeat (first | refine blk_drewN ?_ _ | refine blk_drew ?_ | refine blk_alloc ?_ _)); refine blk_put (cs := #[.int .i64 4, .string (⟨#[]⟩ : ByteArray), .int .i64 0]) ?_ 1 _ rfl; (with_reducible repeat (first | refine blk_drewN ?_ _ | refine blk_drew ?_ | refine blk_alloc ?_ _)); refine blk_put (cs := #[.int .i64 0, .string (⟨#[]⟩ : ByteArray), .int .i64 0]) ?_ 0 _ rfl; (with_reducible repeat (first | refine blk_drewN ?_ _ | refine blk_drew ?_ | refine blk_alloc ?_ _)); exact BK163.out) Tryd.underlying35 rfl (by kernel_rfl)) rfl ?_
                         exact ⟨by first | rfl | (simp [errW_none, errW_some] <;> rfl) | (simp [*, errW_none, errW_some] <;> rfl), by repeat (first | (with_reducible first | exact HB.out | apply below_alloc | apply pw_below_drewN | apply below_drew1 | refine below_set ?_ GE163.out) | exact HB.out)⟩
                       · rw [if_neg c53] at H
                         exact absurd H (by simp)
                     · rw [if_neg c52] at H
                       exact absurd H (by simp)
                   · rw [if_neg c51] at H
                     exact absurd H (by simp)
                 · replace c50 := Bool.eq_false_iff.mpr c50
                   subst c50
                   have H1 : (some (0, (⟨#[]⟩ : ByteArray), 0, 0)) = some (r1, r2, r3, r4) := by rw [if_neg (show ¬ (false = true) by decide)] at H; exact H
                   clear H
                   have H := H1
                   clear H1
                   simp only [Option.some.injEq, Prod.mk.injEq] at H
                   obtain ⟨rfl, rfl, rfl, rfl⟩ := H
                   go_wp2_with (first | ((with_reducible refine gate_callee (f := 45) rfl ?_); refine goesL_ (some 94) rfl rfl Tryd.func45 (by kernel_rfl) rfl #[.int .u8 (bt a0 a1)] rfl (by (try simp only [List.map_toArray, List.map_cons, List.map_nil]); first | done | rfl | (simp only [List.length_drop, List.length_take]; rfl)) ?_; (with_reducible refine (partitaref18_sign.calls (bt a0 a1) false _ A49.out).mono ?_); rintro e w' ⟨rfl, ⟨nd, rfl⟩⟩; refine ⟨_, rfl, ?_⟩; (try (rw [drewN_self wc]; generalize hq_ : World.drewN wc _ = wc; have n0_ : Aside0 (wc.heap[gb163]? = some (.cells #[.int .i64 0, .string (⟨#[]⟩ : ByteArray), .int .i64 0] 35 (0, 0))) := ⟨by rw [← hq_]; exact (qB BK163.out)⟩; have n1_ : Aside0 (Below w.heap.size w wc) := ⟨by rw [← hq_]; exact (by repeat (first | (with_reducible first | exact HB.out | apply below_alloc | apply pw_below_drewN | apply below_drew1 | refine below_set ?_ GE163.out) | exact HB.out))⟩; clear BK163 HB hq_; have BK163 := n0_; have HB := n1_; clear n0_ n1_)); have hcz55_0 : wc.cell? ⟨gb163, 0, none⟩ = some (.int .i64 0) := (blk_cell BK163.out 0).trans rfl; have hcz55_1 : wc.cell? ⟨gb163, 1, none⟩ = some (.string (⟨#[]⟩ : ByteArray)) := (blk_cell BK163.out 1).trans rfl; have hcz55_2 : wc.cell? ⟨gb163, 2, none⟩ = some (.int .i64 0) := (blk_cell BK163.out 2).trans rfl; have hfz55_0 := blk_frozen BK163.out 0; have hfz55_1 := blk_frozen BK163.out 1; have hfz55_2 := blk_frozen BK163.out 2))
                   refine bodyPost_ret (results_ct rfl _ _ gb163 35 #[.int .i64 0, .string (⟨#[]⟩ : ByteArray), .int .i64 0] (0, 0) _ rfl (by (with_reducible repeat (first | refine blk_drewN ?_ _ | refine blk_drew ?_ | refine blk_alloc ?_ _)); refine blk_put (cs := #[.int .i64 0, .string (⟨#[]⟩ : ByteArray), .int .i64 0]) ?_ 2 _ rfl; (with_reducible repeat (first | refine blk_drewN ?_ _ | refine blk_drew ?_ | refine blk_alloc ?_ _)); refine blk_put (cs := #[.int .i64 0, .string (⟨#[]⟩ : ByteArray), .int .i64 0]) ?_ 1 _ rfl; (with_reducible repeat (first | refine blk_drewN ?_ _ | refine blk_drew ?_ | refine blk_alloc ?_ _)); refine blk_put (cs := #[.int .i64 0, .string (⟨#[]⟩ : ByteArray), .int .i64 0]) ?_ 0 _ rfl; (with_reducible repeat (first | refine blk_drewN ?_ _ | refine blk_drew ?_ | refine blk_alloc ?_ _)); exact BK163.out) Tryd.underlying35 rfl (by kernel_rfl)) rfl ?_
                   exact ⟨by first | rfl | (simp [errW_none, errW_some] <;> rfl) | (simp [*, errW_none, errW_some] <;> rfl), by repeat (first | (with_reducible first | exact HB.out | apply below_alloc | apply pw_below_drewN | apply below_drew1 | refine below_set ?_ GE163.out) | exact HB.out)⟩
   · rw [if_neg c4] at H
     exact absurd H (by simp)
 · rw [if_neg c3] at H
   exact absurd H (by simp)

end Go.Proofs.YtllccnijipgncaaDoor.Q
