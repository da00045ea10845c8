-- Written by a program of this session (myprint.py), function by function.
import Derived.Test.YtiifeheejapegaaQ0
import Derived.Test.YtiifeheejapegaaQ2
import Derived.Test.YtiifeheejapegaaQ6
import Derived.Test.YtiifeheejapegaaQ7
import Derived.Test.YtiifeheejapegaaQ8
import Derived.Test.YtiifeheejapegaaQ9
import Derived.BigRegion
import Derived.ChangeAlike
import Derived.IntWalk
import Derived.RegionTactic
import Derived.Test.YtiifeheejapegaaDP2
import Derived.Test.YtiifeheejapegaaRefRatio
namespace Go.Proofs.Ytiifeheejapegaa.Q
open Go.RowKit Go.Proofs.YtiifeheejapegaaW.PrintWords Go.Proofs.YtiifeheejapegaaW.PrintLast Go.Proofs.YtiifeheejapegaaW.PrintMore
attribute [local go_sem] max2_int min2_int max_two min_two max_three min_three max_four min_four   -- for this text's walks alone
set_option linter.unusedVariables false
set_option linter.unusedSimpArgs false

/-! ### partitaref12_Level: function 16 -/
/-- The last index at which p holds; n. -/
def lastI (p : S36 → Bool) : List S36 → Int → Int → Int
  | [], _, n => n
  | d :: l, i, n => lastI p l (i + 1) (if p d = true then i else n)
theorem lastI_step (p : S36 → Bool) (l : List S36) (k : Nat) (n : Int) (h : k < l.length) : lastI p (l.drop k) k n = lastI p (l.drop (k + 1)) ((k + 1 : Nat) : Int) (if p (rd_T36 l k) = true then (k : Int) else n) := by
  rw [List.drop_eq_getElem_cons h]
  have e : rd_T36 l (k : Int) = l[k] := by simp [rd_T36, List.getD, h]
  rw [e]
  rfl
theorem lastI_bd (p : S36 → Bool) : ∀ (l : List S36) (i n : Int), n < i → -1 ≤ n → 0 ≤ i → -1 ≤ lastI p l i n ∧ lastI p l i n < i + l.length := by
  intro l
  induction l with
  | nil => intro i n h1 h2 h3; simp [lastI]; omega
  | cons d l ih =>
    intro i n h1 h2 h3
    simp only [lastI, List.length_cons]
    have := ih (i + 1) (if p d = true then i else n) (by split <;> omega) (by split <;> omega) (by omega)
    omega
def i64B (n : Int) : Bool := decide (-9223372036854775808 ≤ n) && decide (n ≤ 9223372036854775807)
theorem i64B_iff {n : Int} : i64B n = true ↔ i64 n := by unfold i64B i64; simp
def in36B (d : S36) : Bool := i64B d.f0.f0 && (i64B d.f0.f1 && i64B d.f1)
def leB (a b : Int) (d : S36) : Bool := decide (cmpI d.f0.f0 d.f0.f1 a b ≤ 0)
def refBody (k : Nat) (l : List S36) (a b : Int) : Option (Int × Int) :=
  let n := lastI (leB a b) l 0 (-1)
  if n < 0 then some (80, 0)
  else
    let x := rd_T36 l n
    if x.f2 = false ∨ n + 1 = l.length then some (x.f1, 0)
    else
      let y := rd_T36 l (n + 1)
      if x.f1 ≤ y.f1 then (partitaref12_part.f k x.f0.f0 x.f0.f1 a b y.f0.f0 y.f0.f1 (wrap64 (y.f1 - x.f1)) false).bind fun k => some (wrap64 (x.f1 + k), 0)
      else (partitaref12_part.f k x.f0.f0 x.f0.f1 a b y.f0.f0 y.f0.f1 (wrap64 (x.f1 - y.f1)) true).bind fun k => some (wrap64 (x.f1 - k), 0)
def partitaref12_Level.f (k : Nat) (l : List S36) (a b : Int) : Option (Int × Int) :=
  if l.length ≤ 1000 ∧ l.all in36B = true ∧ i64B a = true ∧ i64B b = true then
    (partitaref12_Check.f k l).bind fun c => if c.2 = 0 then (if rightB a b = true ∧ 0 ≤ a then refBody k l a b else some (0, 2)) else some (0, c.2)
  else none
theorem partitaref12_Level.mono : ∀ l a b k, LeO (partitaref12_Level.f k l a b) (partitaref12_Level.f (k + 1) l a b) := by
  intro l a b k
  unfold partitaref12_Level.f refBody
  repeat' first
      | (with_reducible exact partitaref12_Check.mono _ _)
      | (with_reducible exact partitaref12_part.mono _ _ _ _ _ _ _ _ _)
      | (with_reducible exact LeO.refl _)
      | (with_reducible exact LeO.none _)
      | (with_reducible refine LeO.ite ?_ ?_)
      | (with_reducible refine LeO.bind ?_ (fun _ => ?_))
      | exact LeO.none _
      | refine LeO.ite ?_ ?_
      | refine LeO.bind ?_ (fun _ => ?_)
theorem refRight_any (a b : Int) (x : Bool) (w : World) (ha : i64 a) (hb : i64 b) (h : rightB a b = x) :
    Calls Try.prog 24 #[.agg #[.int .i64 a, .int .i64 b]] w fun e w' => e = .returned (.bool x) ∧ Below w.heap.size w w' :=
  partitaref01_Right.calls 1 a b x w (h ▸ refRight ha hb 0)
theorem refCompare_any (a b c d : Int) (w : World) (ha : i64 a) (hb : i64 b) (hc : i64 c) (hd : i64 d) :
    Calls Try.prog 25 #[.agg #[.int .i64 a, .int .i64 b], .agg #[.int .i64 c, .int .i64 d]] w fun e w' => e = .returned (.int .i64 (cmpI a b c d)) ∧ Below w.heap.size w w' :=
  partitaref01_Compare.calls 1 a b c d _ w (refCompare ha hb hc hd 0)
theorem cell_alloc_new_ {W : World} {a : Addr} {v : Value} (h : W.cell? a = some v) (o : Obj) : (W.alloc o).cell? a = some v := (World.cell?_alloc_lt _ _ _ (World.block_lt_of_cell? W _ h)).trans h
set_option maxHeartbeats 4000000 in
set_option maxRecDepth 100000 in
theorem partitaref12_Level.calls (k : Nat) (A0 : Option Addr) (c0 : Nat) (l0 : List S36) (a b : Int) (r1 r2 : Int) (w : World) (hr : Kd.C k36 w A0 l0.length l0) (hc : l0.length ≤ c0) (h : partitaref12_Level.f k l0 a b = some (r1, r2)) :
    Calls Try.prog 16 #[.slice A0 l0.length c0, .agg #[.int .i64 a, .int .i64 b]] w fun e w' => e = .returned (.tuple #[.int .i64 r1, .int .i64 r2]) ∧ Below w.heap.size w w' := by
  unfold partitaref12_Level.f at h
  split at h
  next hcond =>
    obtain ⟨hlen, hall, hia, hib⟩ := hcond
    have HI := Aside0.mk (And.intro (i64B_iff.1 hia) (i64B_iff.1 hib))
    have HALL := Aside0.mk hall
    clear hia hib hall
    obtain ⟨⟨c1, c2⟩, hC, h⟩ := Option.bind_eq_some_iff.mp h
    have HC := Aside0.mk (fun W (hb : Below w.heap.size w W) => partitaref12_Check.calls k A0 c0 l0 c1 c2 W (Kd.C_below hr hb) hc hC)
    have HR := Aside0.mk hr
    have HB := Aside0.mk (Below.refl w.heap.size w)
    have hu := Try.underlying29
    have hu36 := Try.underlying36
    clear hC hr
    by_cases hc2 : c2 = 0
    · simp only [hc2, if_true] at h
      subst hc2
      by_cases hp : rightB a b = true
      · have HP := Aside0.mk (fun W => refRight_any a b true W HI.out.1 HI.out.2 hp)
        by_cases hp2 : 0 ≤ a
        · rw [if_pos ⟨hp, hp2⟩] at h
          have a0 : decide (a < 0) = false := decide_eq_false (by omega)
          have HH := Aside0.mk h
          clear h hp hp2
          generalize hr : lastI (leB a b) l0 0 (-1) = r at *
          have HRR := Aside0.mk hr
          have HRS := Aside0.mk hr
          have hbd := lastI_bd (leB a b) l0 0 (-1) (by omega) (by omega) (by omega)
          rw [hr] at hbd
          have HBD := Aside0.mk hbd
          clear hbd hr
          go_enter Try.func16, Try.ntmps16
          go_wp2_with (first
            | (go_at_call 14; (with_reducible refine (HC.out _ ?hb1).mono ?_); (case hb1 => (repeat (first | exact HB.out | apply below_alloc))); rintro e w1 ⟨rfl, hb⟩; have B0 := Aside0.mk (blk_below (blk_new w (.cells #[.int .i64 a, .int .i64 b] 29)) hb); have hc0 : w1.cell? ⟨w.heap.size, 0, none⟩ = some (.int .i64 a) := (blk_cell B0.out 0).trans rfl; have hc1 : w1.cell? ⟨w.heap.size, 1, none⟩ = some (.int .i64 b) := (blk_cell B0.out 1).trans rfl; have HB1 := Aside0.mk ((by repeat (first | exact HB.out | apply below_alloc) : Below w.heap.size w _).trans (hb.mono (by simp))); clear hb)
            | (go_at_call 24; (with_reducible refine (HP.out _).mono ?_); rintro e w2 ⟨rfl, hb⟩; have B2 := Aside0.mk (blk_below B0.out hb); clear hc0 hc1; have hc0 : w2.cell? ⟨w.heap.size, 0, none⟩ = some (.int .i64 a) := (blk_cell B2.out 0).trans rfl; have hc1 : w2.cell? ⟨w.heap.size, 1, none⟩ = some (.int .i64 b) := (blk_cell B2.out 1).trans rfl; have HB2 := Aside0.mk (HB1.out.trans (hb.mono HB1.out.size)); clear hb))
          clear hc0 hc1
          go_loopw [8, 9] (fun x i wr => ∃ (q : Nat) (n : Int), i = .int .i64 q ∧ x = .int .i64 n ∧ q ≤ l0.length ∧ Aside0 (lastI (leB a b) (l0.drop q) q n = r) ∧ Aside0 (wr.heap[w.heap.size]? = some (.cells #[.int .i64 a, .int .i64 b] 29 (0, 0))) ∧ Aside0 (Below w.heap.size w wr)) (fun _ i _ => l0.length - (intOf i).toNat)
          case atStart => exact ⟨0, -1, rfl, rfl, by omega, HRR, B2, HB2⟩
          case round =>
            obtain ⟨q, n, rfl, rfl, hq, HT, B3, HB3⟩ := hrel
            clear HRR B2 HB2 B0 HB1
            have hc0 : wr.cell? ⟨w.heap.size, 0, none⟩ = some (.int .i64 a) := (blk_cell B3.out 0).trans rfl
            have hc1 : wr.cell? ⟨w.heap.size, 1, none⟩ = some (.int .i64 b) := (blk_cell B3.out 1).trans rfl
            by_cases hlt : q < l0.length
            · have h2 := HT.out
              rw [lastI_step _ l0 q n hlt] at h2
              have H2 := Aside0.mk h2
              obtain ⟨ad, rfl, x0, x1, x2, x3⟩ := at_T36 HR.out (q : Int) (by omega) (by omega)
              have hmem := rd_mem (l := l0) (i := (q : Int)) (by omega) (by omega)
              have hin := List.all_eq_true.1 HALL.out _ hmem
              rw [Int.toNat_natCast] at x0 x1 x2 x3
              generalize rd_T36 l0 (q : Int) = d at *
              obtain ⟨⟨da, db⟩, dl, dh⟩ := d
              have hin2 : i64 da ∧ i64 db := by simp only [in36B, Bool.and_eq_true] at hin; exact ⟨i64B_iff.1 hin.1, i64B_iff.1 hin.2.1⟩
              have M := Aside0.mk (fun W => refCompare_any da db a b W hin2.1 hin2.2 HI.out.1 HI.out.2)
              have y0 := (HB3.out.cell (World.block_lt_of_cell? w _ x0)).trans x0
              have y1 := (HB3.out.cell (World.block_lt_of_cell? w _ x1)).trans x1
              have hltd : decide (q < l0.length) = true := by simp; omega
              have p1 : (0 : Int) ≤ q := by omega
              have p2 : (q : Int) < l0.length := by omega
              have hlt3 := blk_lt B3.out
              clear h2 HT x0 x1 x2 x3 hin hin2 hmem
              have H3 : Aside0 (lastI (leB a b) (l0.drop (q + 1)) ((q + 1 : Nat) : Int) (if decide (cmpI da db a b ≤ 0) = true then (q : Int) else n) = r) := H2
              clear H2
              generalize cmpI da db a b = cv at *
              by_cases hv : cv ≤ 0
              · have dv : decide (cv ≤ 0) = true := decide_eq_true hv
                rw [dv, if_pos rfl] at H3
                clear hv
                go_wp2
                go_region_held3 (fun w' => w'.cell? ⟨w.heap.size, 0, none⟩ = some (.int .i64 a) ∧ w'.cell? ⟨w.heap.size, 1, none⟩ = some (.int .i64 b) ∧ w'.cell? (ad.add (q * 4)) = some (.int .i64 da) ∧ w'.cell? ⟨(ad.add (q * 4)).block, (ad.add (q * 4)).off + 1, none⟩ = some (.int .i64 db)) (first | go_keep | (go_split_ands; exact ⟨(hb4.cell (p := ⟨_, _, none⟩) (by assumption)).trans (by assumption), (hb4.cell (p := ⟨_, _, none⟩) (by assumption)).trans (by assumption), (hb4.cell (World.block_lt_of_cell? _ _ y0)).trans (by assumption), (hb4.cell (World.block_lt_of_cell? _ _ y1)).trans (by assumption)⟩)) ((go_at_call 25; (with_reducible refine (M.out _).mono ?_); rintro e w4 ⟨rfl, hb4⟩; have HB4 := Aside0.mk hb4; have z0 : w4.cell? ⟨w.heap.size, 0, none⟩ = some (.int .i64 a) := (hb4.cell (p := ⟨w.heap.size, 0, none⟩) hlt3).trans hc0; have z1 : w4.cell? ⟨w.heap.size, 1, none⟩ = some (.int .i64 b) := (hb4.cell (p := ⟨w.heap.size, 1, none⟩) hlt3).trans hc1; have z2 := (hb4.cell (World.block_lt_of_cell? wr _ y0)).trans y0; have z3 := (hb4.cell (World.block_lt_of_cell? wr _ y1)).trans y1; clear hb4))
                go_wp2
                go_roundw
                case rel => exact ⟨q + 1, q, by go_num, rfl, by omega, H3, ⟨blk_below (blk_drew B3.out) HB4.out⟩, ⟨(below_drew1 HB3.out).trans (HB4.out.mono (by simp; exact HB3.out.size))⟩⟩
                case measure => simp [intOf]; omega
              · have dv : decide (cv ≤ 0) = false := decide_eq_false hv
                rw [dv, if_neg (by decide)] at H3
                clear hv
                go_wp2
                go_region_held3 (fun w' => w'.cell? ⟨w.heap.size, 0, none⟩ = some (.int .i64 a) ∧ w'.cell? ⟨w.heap.size, 1, none⟩ = some (.int .i64 b) ∧ w'.cell? (ad.add (q * 4)) = some (.int .i64 da) ∧ w'.cell? ⟨(ad.add (q * 4)).block, (ad.add (q * 4)).off + 1, none⟩ = some (.int .i64 db)) (first | go_keep | (go_split_ands; exact ⟨(hb4.cell (p := ⟨_, _, none⟩) (by assumption)).trans (by assumption), (hb4.cell (p := ⟨_, _, none⟩) (by assumption)).trans (by assumption), (hb4.cell (World.block_lt_of_cell? _ _ y0)).trans (by assumption), (hb4.cell (World.block_lt_of_cell? _ _ y1)).trans (by assumption)⟩)) ((go_at_call 25; (with_reducible refine (M.out _).mono ?_); rintro e w4 ⟨rfl, hb4⟩; have HB4 := Aside0.mk hb4; have z0 : w4.cell? ⟨w.heap.size, 0, none⟩ = some (.int .i64 a) := (hb4.cell (p := ⟨w.heap.size, 0, none⟩) hlt3).trans hc0; have z1 : w4.cell? ⟨w.heap.size, 1, none⟩ = some (.int .i64 b) := (hb4.cell (p := ⟨w.heap.size, 1, none⟩) hlt3).trans hc1; have z2 := (hb4.cell (World.block_lt_of_cell? wr _ y0)).trans y0; have z3 := (hb4.cell (World.block_lt_of_cell? wr _ y1)).trans y1; clear hb4))
                go_wp2
                go_roundw
                case rel => exact ⟨q + 1, n, by go_num, rfl, by omega, H3, ⟨blk_below (blk_drew B3.out) HB4.out⟩, ⟨(below_drew1 HB3.out).trans (HB4.out.mono (by simp; exact HB3.out.size))⟩⟩
                case measure => simp [intOf]; omega
            · have e : q = l0.length := by omega
              subst e
              have h2 := HT.out
              rw [List.drop_length] at h2
              have e2 : n = r := h2
              subst e2
              clear h2 HT
              have hltd : decide (l0.length < l0.length) = false := by simp
              have h9 := HH.out
              unfold refBody at h9
              by_cases n1 : n < 0
              · have e1 : decide (n < 0) = true := decide_eq_true n1
                obtain ⟨rfl, rfl⟩ : (80 : Int) = r1 ∧ (0 : Int) = r2 := by
                  simp only [HRS.out] at h9
                  rw [if_pos n1] at h9; simpa using h9
                clear n1 h9
                go_wp2
                go_ret2
                exact ⟨rfl, HB3.out⟩
              · have e1 : decide (n < 0) = false := decide_eq_false n1
                have hb2 := HBD.out.2
                obtain ⟨m, rfl⟩ : ∃ m : Nat, n = m := ⟨n.toNat, by omega⟩
                have p2 : (m : Int) < l0.length := by omega
                have p1 : (0 : Int) ≤ m := by omega
                obtain ⟨ad, rfl, x0, x1, x2, x3⟩ := at_T36 HR.out (m : Int) p1 p2
                rw [Int.toNat_natCast] at x0 x1 x2 x3
                simp only [HRS.out] at h9
                rw [if_neg n1] at h9
                have y0 := (HB3.out.cell (World.block_lt_of_cell? w _ x0)).trans x0
                have y1 := (HB3.out.cell (World.block_lt_of_cell? w _ x1)).trans x1
                have y2 := (HB3.out.cell (World.block_lt_of_cell? w _ x2)).trans x2
                have y3 := (HB3.out.cell (World.block_lt_of_cell? w _ x3)).trans x3
                generalize hx : rd_T36 l0 (m : Int) = x at y0 y1 y2 y3 h9
                obtain ⟨⟨xa, xb⟩, xl, xh⟩ := x
                have hlt3 := blk_lt B3.out
                have hlt4 : w.heap.size < wr.heap.size + 1 + 1 := by omega
                clear x0 x1 x2 x3 hx n1 hb2
                cases xh
                · rw [if_pos (.inl rfl)] at h9
                  obtain ⟨rfl, rfl⟩ : xl = r1 ∧ (0 : Int) = r2 := by simpa using h9
                  clear h9
                  go_wp2
                  go_ret2
                  exact ⟨rfl, by repeat (first | exact HB3.out | apply below_alloc | apply pw_below_drewN | apply below_drew1)⟩
                · by_cases hlast : (m : Int) + 1 = l0.length
                  · rw [if_pos (.inr hlast)] at h9
                    obtain ⟨rfl, rfl⟩ : xl = r1 ∧ (0 : Int) = r2 := by simpa using h9
                    have el : ((m : Int) + 1 == (l0.length : Int)) = true := beq_iff_eq.mpr hlast
                    clear h9 hlast
                    go_wp2
                    go_ret2
                    exact ⟨rfl, by repeat (first | exact HB3.out | apply below_alloc | apply pw_below_drewN | apply below_drew1)⟩
                  · have el : ((m : Int) + 1 == (l0.length : Int)) = false := beq_eq_false_iff_ne.mpr hlast
                    have p3 : (m : Int) + 1 < l0.length := by omega
                    have p4 : (0 : Int) ≤ (m : Int) + 1 := by omega
                    rw [if_neg (by simp; exact hlast)] at h9
                    obtain ⟨ad', ha, x0, x1, x2, x3⟩ := at_T36 HR.out ((m : Int) + 1) p4 p3
                    cases ha
                    rw [show ((m : Int) + 1).toNat = m + 1 by omega] at x0 x1 x2 x3
                    have v0 := (HB3.out.cell (World.block_lt_of_cell? w _ x0)).trans x0
                    have v1 := (HB3.out.cell (World.block_lt_of_cell? w _ x1)).trans x1
                    have v2 := (HB3.out.cell (World.block_lt_of_cell? w _ x2)).trans x2
                    have v3 := (HB3.out.cell (World.block_lt_of_cell? w _ x3)).trans x3
                    generalize hy : rd_T36 l0 ((m : Int) + 1) = y at v0 v1 v2 v3 h9
                    obtain ⟨⟨ya, yb⟩, yl, yh⟩ := y
                    clear x0 x1 x2 x3 hy hlast
                    have V0 := cell_alloc_new_ v0
                    have V1 := cell_alloc_new_ v1
                    have V2 := cell_alloc_new_ v2
                    have V3 := cell_alloc_new_ v3
                    have HL : (if xl ≤ yl then (partitaref12_part.f k xa xb a b ya yb (wrap64 (yl - xl)) false).bind fun k => some (wrap64 (xl + k), (0 : Int)) else (partitaref12_part.f k xa xb a b ya yb (wrap64 (xl - yl)) true).bind fun k => some (wrap64 (xl - k), 0)) = some (r1, r2) := h9
                    clear h9 v0 v1 v2 v3
                    by_cases h4 : xl ≤ yl
                    · have d4 : decide (xl ≤ yl) = true := decide_eq_true h4
                      rw [if_pos h4] at HL
                      obtain ⟨q, hq, hr⟩ := Option.bind_eq_some_iff.mp HL
                      rw [← i64_w] at hq
                      have HQ := Aside0.mk (fun W => partitaref12_part.calls k xa xb a b ya yb _ _ q W hq)
                      obtain ⟨rfl, rfl⟩ : wrap64 (xl + q) = r1 ∧ (0 : Int) = r2 := by simpa using hr
                      clear HL hr hq h4
                      go_wp2
                      go_region_held3 (fun w' => w'.cell? ⟨w.heap.size, 0, none⟩ = some (.int .i64 a) ∧ w'.cell? ⟨w.heap.size, 1, none⟩ = some (.int .i64 b) ∧ w'.cell? ⟨wr.heap.size, 0, none⟩ = some (.int .i64 xa) ∧ w'.cell? ⟨wr.heap.size, 1, none⟩ = some (.int .i64 xb) ∧ w'.cell? ⟨wr.heap.size, 2, none⟩ = some (.int .i64 xl) ∧ w'.cell? ⟨wr.heap.size, 3, none⟩ = some (.bool true) ∧ w'.cell? ⟨wr.heap.size + 1, 0, none⟩ = some (.int .i64 ya) ∧ w'.cell? ⟨wr.heap.size + 1, 1, none⟩ = some (.int .i64 yb) ∧ w'.cell? ⟨wr.heap.size + 1, 2, none⟩ = some (.int .i64 yl) ∧ w'.cell? ⟨wr.heap.size + 1, 3, none⟩ = some (.bool yh)) (go_keep) ((go_at_call 29; (with_reducible refine (HQ.out _).mono ?_); rintro e w4 ⟨rfl, hb4⟩; obtain ⟨hc9, hf9⟩ := bcell hb4; have BX := blk_below (blk_drew (blk_alloc (blk_new wr (.cells #[.int .i64 xa, .int .i64 xb, .int .i64 xl, .bool true] 36)) _)) hb4; have z0 : w4.cell? ⟨wr.heap.size, 0, none⟩ = some (.int .i64 xa) := (blk_cell BX 0).trans rfl; have z1 : w4.cell? ⟨wr.heap.size, 1, none⟩ = some (.int .i64 xb) := (blk_cell BX 1).trans rfl; have z2 : w4.cell? ⟨wr.heap.size, 2, none⟩ = some (.int .i64 xl) := (blk_cell BX 2).trans rfl; have z3 : w4.cell? ⟨wr.heap.size, 3, none⟩ = some (.bool true) := (blk_cell BX 3).trans rfl; clear BX))
                      go_wp2
                      go_ret2
                      exact ⟨by first | rfl | (simp only [i64_w]; done) | (simp only [i64_w]; rfl), (by repeat (first | exact HB3.out | apply below_alloc | apply pw_below_drewN | apply below_drew1) : Below w.heap.size w _).trans (hb4.mono (by simp; omega))⟩
                    · have d4 : decide (xl ≤ yl) = false := decide_eq_false h4
                      rw [if_neg h4] at HL
                      obtain ⟨q, hq, hr⟩ := Option.bind_eq_some_iff.mp HL
                      rw [← i64_w] at hq
                      have HQ := Aside0.mk (fun W => partitaref12_part.calls k xa xb a b ya yb _ _ q W hq)
                      obtain ⟨rfl, rfl⟩ : wrap64 (xl - q) = r1 ∧ (0 : Int) = r2 := by simpa using hr
                      clear HL hr hq h4
                      go_wp2
                      go_region_held3 (fun w' => w'.cell? ⟨w.heap.size, 0, none⟩ = some (.int .i64 a) ∧ w'.cell? ⟨w.heap.size, 1, none⟩ = some (.int .i64 b) ∧ w'.cell? ⟨wr.heap.size, 0, none⟩ = some (.int .i64 xa) ∧ w'.cell? ⟨wr.heap.size, 1, none⟩ = some (.int .i64 xb) ∧ w'.cell? ⟨wr.heap.size, 2, none⟩ = some (.int .i64 xl) ∧ w'.cell? ⟨wr.heap.size, 3, none⟩ = some (.bool true) ∧ w'.cell? ⟨wr.heap.size + 1, 0, none⟩ = some (.int .i64 ya) ∧ w'.cell? ⟨wr.heap.size + 1, 1, none⟩ = some (.int .i64 yb) ∧ w'.cell? ⟨wr.heap.size + 1, 2, none⟩ = some (.int .i64 yl) ∧ w'.cell? ⟨wr.heap.size + 1, 3, none⟩ = some (.bool yh)) (go_keep) ((go_at_call 29; (with_reducible refine (HQ.out _).mono ?_); rintro e w4 ⟨rfl, hb4⟩; obtain ⟨hc9, hf9⟩ := bcell hb4; have BX := blk_below (blk_drew (blk_alloc (blk_new wr (.cells #[.int .i64 xa, .int .i64 xb, .int .i64 xl, .bool true] 36)) _)) hb4; have z0 : w4.cell? ⟨wr.heap.size, 0, none⟩ = some (.int .i64 xa) := (blk_cell BX 0).trans rfl; have z1 : w4.cell? ⟨wr.heap.size, 1, none⟩ = some (.int .i64 xb) := (blk_cell BX 1).trans rfl; have z2 : w4.cell? ⟨wr.heap.size, 2, none⟩ = some (.int .i64 xl) := (blk_cell BX 2).trans rfl; have z3 : w4.cell? ⟨wr.heap.size, 3, none⟩ = some (.bool true) := (blk_cell BX 3).trans rfl; clear BX))
                      go_wp2
                      go_ret2
                      exact ⟨by first | rfl | (simp only [i64_w]; done) | (simp only [i64_w]; rfl), (by repeat (first | exact HB3.out | apply below_alloc | apply pw_below_drewN | apply below_drew1) : Below w.heap.size w _).trans (hb4.mono (by simp; omega))⟩
        · rw [if_neg (by simp [hp2])] at h
          obtain ⟨rfl, rfl⟩ : (0 : Int) = r1 ∧ (2 : Int) = r2 := by simpa using h
          have a0 : decide (a < 0) = true := decide_eq_true (by omega)
          clear h hp hp2
          go_enter Try.func16, Try.ntmps16
          go_wp2_with (first
            | (go_at_call 14; (with_reducible refine (HC.out _ ?hb1).mono ?_); (case hb1 => (repeat (first | exact HB.out | apply below_alloc))); rintro e w1 ⟨rfl, hb⟩; have B0 := Aside0.mk (blk_below (blk_new w (.cells #[.int .i64 a, .int .i64 b] 29)) hb); have hc0 : w1.cell? ⟨w.heap.size, 0, none⟩ = some (.int .i64 a) := (blk_cell B0.out 0).trans rfl; have hc1 : w1.cell? ⟨w.heap.size, 1, none⟩ = some (.int .i64 b) := (blk_cell B0.out 1).trans rfl; have HB1 := Aside0.mk ((by repeat (first | exact HB.out | apply below_alloc) : Below w.heap.size w _).trans (hb.mono (by simp))); clear hb)
            | (go_at_call 24; (with_reducible refine (HP.out _).mono ?_); rintro e w2 ⟨rfl, hb⟩; have B2 := Aside0.mk (blk_below B0.out hb); clear hc0 hc1; have hc0 : w2.cell? ⟨w.heap.size, 0, none⟩ = some (.int .i64 a) := (blk_cell B2.out 0).trans rfl; have hc1 : w2.cell? ⟨w.heap.size, 1, none⟩ = some (.int .i64 b) := (blk_cell B2.out 1).trans rfl; have HB2 := Aside0.mk (HB1.out.trans (hb.mono HB1.out.size)); clear hb))
          go_ret2
          exact ⟨rfl, HB2.out⟩
      · rw [if_neg (by simp [hp])] at h
        obtain ⟨rfl, rfl⟩ : (0 : Int) = r1 ∧ (2 : Int) = r2 := by simpa using h
        have HP := Aside0.mk (fun W => refRight_any a b false W HI.out.1 HI.out.2 (Bool.eq_false_iff.mpr hp))
        clear h hp
        go_enter Try.func16, Try.ntmps16
        go_wp2_with (first
          | (go_at_call 14; (with_reducible refine (HC.out _ ?hb1).mono ?_); (case hb1 => (repeat (first | exact HB.out | apply below_alloc))); rintro e w1 ⟨rfl, hb⟩; have B0 := Aside0.mk (blk_below (blk_new w (.cells #[.int .i64 a, .int .i64 b] 29)) hb); have hc0 : w1.cell? ⟨w.heap.size, 0, none⟩ = some (.int .i64 a) := (blk_cell B0.out 0).trans rfl; have hc1 : w1.cell? ⟨w.heap.size, 1, none⟩ = some (.int .i64 b) := (blk_cell B0.out 1).trans rfl; have HB1 := Aside0.mk ((by repeat (first | exact HB.out | apply below_alloc) : Below w.heap.size w _).trans (hb.mono (by simp))); clear hb)
          | (go_at_call 24; (with_reducible refine (HP.out _).mono ?_); rintro e w2 ⟨rfl, hb⟩; have HB2 := Aside0.mk (HB1.out.trans (hb.mono HB1.out.size)); clear hb))
        go_ret2
        exact ⟨rfl, HB2.out⟩
    · simp only [hc2, if_false] at h
      obtain ⟨rfl, rfl⟩ : (0 : Int) = r1 ∧ c2 = r2 := by simpa using h
      have e2 : (c2 != 0) = true := bne_iff_ne.mpr hc2
      clear hc2 h
      go_enter Try.func16, Try.ntmps16
      go_wp2_with (go_at_call 14; (with_reducible refine (HC.out _ ?hb1).mono ?_); (case hb1 => (repeat (first | exact HB.out | apply below_alloc))); rintro e w1 ⟨rfl, hb⟩)
      go_ret2
      exact ⟨rfl, (by repeat (first | exact HB.out | apply below_alloc) : Below w.heap.size w _).trans (hb.mono (by simp))⟩
  next => cases h

/-! ### partitalaw12_DynLevels: function 4 -/
def partitalaw12_DynLevels.f (k : Nat) (l0 : List (S36)) (a1_0 : Int) (a1_1 : Int) : Option (Bool) := (partitalaw12_awake.f k).bind fun t228 => (if (l0.length : Int) > 20 then (some t228) else ((dyn_Level.f k l0 a1_0 a1_1).bind fun bt229 => ((partitaref12_Level.f k l0 a1_0 a1_1).bind fun bt231 => (if t228 = true then (if bt229.1 = bt231.1 then (some (bt229.2 == bt231.2)) else (some false)) else (some false)))))
theorem partitalaw12_DynLevels.mono : ∀ a0 a1 a2 k, LeO (partitalaw12_DynLevels.f k a0 a1 a2) (partitalaw12_DynLevels.f (k + 1) a0 a1 a2) := by
  intro a0 a1 a2 k
  unfold partitalaw12_DynLevels.f
  repeat' first
      | (with_reducible exact dyn_Level.mono _ _ _ _)
      | (with_reducible exact partitalaw12_awake.mono _)
      | (with_reducible exact partitaref12_Level.mono _ _ _ _)
      | (with_reducible exact LeO.refl _)
      | (with_reducible exact LeO.none _)
      | (with_reducible refine LeO.ite ?_ ?_)
      | (with_reducible refine LeO.bind ?_ (fun _ => ?_))
      | exact dyn_Level.mono _ _ _ _
      | exact partitalaw12_awake.mono _
      | exact partitaref12_Level.mono _ _ _ _
      | exact LeO.none _
      | refine LeO.ite ?_ ?_
      | refine LeO.bind ?_ (fun _ => ?_)
set_option maxHeartbeats 8000000 in
set_option maxRecDepth 100000 in
theorem partitalaw12_DynLevels.calls (k : Nat) (A0 : Option Addr) (c0 : Nat) (l0 : List (S36)) (a1_0 : Int) (a1_1 : Int) (r : Bool) (w : World) (hr0 : Kd.C k36 w A0 l0.length l0) (hc0 : l0.length ≤ c0) (h : partitalaw12_DynLevels.f k l0 a1_0 a1_1 = some r) :
    Calls Try.prog 4 #[.slice A0 l0.length c0, .agg #[.int .i64 a1_0, .int .i64 a1_1]] w fun e w' => e = .returned (.bool r) ∧ Below w.heap.size w w' := by
  have hu29 := Try.underlying29
  have HR0 := Aside0.mk hr0
  have HC0 := Aside0.mk hc0
  clear hr0 hc0
  have HB := Aside0.mk (Below.refl w.heap.size w)
  have H : ((partitalaw12_awake.f k).bind fun t228 => (if (l0.length : Int) > 20 then (some t228) else ((dyn_Level.f k l0 a1_0 a1_1).bind fun bt229 => ((partitaref12_Level.f k l0 a1_0 a1_1).bind fun bt231 => (if t228 = true then (if bt229.1 = bt231.1 then (some (bt229.2 == bt231.2)) else (some false)) else (some false)))))) = some r := h
  clear h
  replace H := Option.bind_eq_some_iff.mp H
  obtain ⟨t228, A30, H⟩ := H
  replace H : (if (l0.length : Int) > 20 then (some t228) else ((dyn_Level.f k l0 a1_0 a1_1).bind fun bt229 => ((partitaref12_Level.f k l0 a1_0 a1_1).bind fun bt231 => (if t228 = true then (if bt229.1 = bt231.1 then (some (bt229.2 == bt231.2)) else (some false)) else (some false))))) = some r := H
  have A3 := Aside0.mk A30
  clear A30
  by_cases c4 : (l0.length : Int) > 20
  · rw [if_pos c4] at H
    have c4b0 : decide (20 < (l0.length : Int)) = true := decide_eq_true c4
    have c4b1 : decide (20 < l0.length) = true := decide_eq_true (by omega)
    clear c4
    obtain rfl := Option.some.inj H
    go_enter Try.func4, Try.ntmps4
    go_wp2_with (first | ((with_reducible refine gate_dst (N := 3) rfl ?_); refine box_event ?hg (N := 3) ?hd (cs := #[.int .i64 a1_0, .int .i64 a1_1]) (t := 29) ?hr ?_; (case hd => rfl); (case hg => rfl); (case hr => first | (go_simp; done) | (go_simp; rfl)); intro gb227 hg w5 hbox hb; have n0_ := Aside0.mk (below_step (by repeat (first | (with_reducible first | exact HB.out | apply below_alloc | apply pw_below_drewN | apply below_drew1) | exact HB.out)) hb); have n1_ := Aside0.mk (hbox); have n2_ := Aside0.mk ((by rw [hg]; exact (below_size (by repeat (first | (with_reducible first | exact HB.out | apply below_alloc | apply pw_below_drewN | apply below_drew1) | exact HB.out))) : w.heap.size ≤ gb227)); have n3_ := Aside0.mk ((by rw [hg]; exact (below_size (by repeat (first | (with_reducible first | exact HB.out | apply below_alloc | apply pw_below_drewN | apply below_drew1) | exact HB.out))) : w.heap.size ≤ gb227)); clear HB; have HB := n0_; have BK227 := n1_; have GW227 := n2_; have GE227 := n3_; clear n0_ n1_ n2_ n3_; clear hb hbox hg) | ((with_reducible refine gate_callee (f := 12) rfl ?_); refine goesL_ (some 10) rfl rfl Try.func12 (by kernel_rfl) rfl #[] rfl (by (try simp only [List.map_toArray, List.map_cons, List.map_nil]); first | done | rfl | (simp only [List.length_drop, List.length_take]; rfl)) ?_; (with_reducible refine (partitalaw12_awake.calls k  t228 _ A3.out).mono ?_); rintro e w6 ⟨rfl, hb⟩; refine ⟨_, rfl, ?_⟩; have n0_ := Aside0.mk (blk_below (g := gb227) (o := .cells #[.int .i64 a1_0, .int .i64 a1_1] 29 (0, 0)) (by (with_reducible repeat (first | refine blk_drewN ?_ _ | refine blk_drew ?_ | refine blk_alloc ?_ _)); exact BK227.out) hb); have n1_ := Aside0.mk (below_step (by repeat (first | (with_reducible first | exact HB.out | apply below_alloc | apply pw_below_drewN | apply below_drew1 | refine below_set ?_ GE227.out) | exact HB.out)) hb); clear BK227; clear HB; have BK227 := n0_; have HB := n1_; clear n0_ n1_; (try clear hb); (try clear hb2); (try clear hk); (try clear hi)))
    go_ret
    exact ⟨by first | rfl | (simp [errW_none, errW_some] <;> rfl) | (simp [*, errW_none, errW_some] <;> rfl), by repeat (first | (with_reducible first | exact HB.out | apply below_alloc | apply pw_below_drewN | apply below_drew1 | refine below_set ?_ GE227.out) | exact HB.out)⟩
  · rw [if_neg c4] at H
    have c4b0 : decide (20 < (l0.length : Int)) = false := decide_eq_false c4
    have c4b1 : decide (20 < l0.length) = false := decide_eq_false (by omega)
    clear c4
    replace H := Option.bind_eq_some_iff.mp H
    obtain ⟨⟨t229, t230⟩, A70, H⟩ := H
    replace H : ((partitaref12_Level.f k l0 a1_0 a1_1).bind fun bt231 => (if t228 = true then (if t229 = bt231.1 then (some (t230 == bt231.2)) else (some false)) else (some false))) = some r := H
    have A7 := Aside0.mk A70
    clear A70
    replace H := Option.bind_eq_some_iff.mp H
    obtain ⟨⟨t231, t232⟩, A80, H⟩ := H
    replace H : (if t228 = true then (if t229 = t231 then (some (t230 == t232)) else (some false)) else (some false)) = some r := H
    have A8 := Aside0.mk A80
    clear A80
    by_cases c9 : t228 = true
    · subst c9
      have H1 : (if t229 = t231 then (some (t230 == t232)) else (some false)) = some r := by rw [if_pos rfl] at H; exact H
      clear H
      have H := H1
      clear H1
      by_cases c10 : t229 = t231
      · rw [if_pos c10] at H
        have c10b0 : (t229 == t231) = true := beq_iff_eq.mpr c10
        have c10b1 : (t229 != t231) = false := bne_eq_false_iff_eq.mpr c10
        clear c10
        obtain rfl := Option.some.inj H
        go_enter Try.func4, Try.ntmps4
        go_wp2_with (first | ((with_reducible refine gate_dst (N := 3) rfl ?_); refine box_event ?hg (N := 3) ?hd (cs := #[.int .i64 a1_0, .int .i64 a1_1]) (t := 29) ?hr ?_; (case hd => rfl); (case hg => rfl); (case hr => first | (go_simp; done) | (go_simp; rfl)); intro gb227 hg w11 hbox hb; have n0_ := Aside0.mk (below_step (by repeat (first | (with_reducible first | exact HB.out | apply below_alloc | apply pw_below_drewN | apply below_drew1) | exact HB.out)) hb); have n1_ := Aside0.mk (hbox); have n2_ := Aside0.mk ((by rw [hg]; exact (below_size (by repeat (first | (with_reducible first | exact HB.out | apply below_alloc | apply pw_below_drewN | apply below_drew1) | exact HB.out))) : w.heap.size ≤ gb227)); have n3_ := Aside0.mk ((by rw [hg]; exact (below_size (by repeat (first | (with_reducible first | exact HB.out | apply below_alloc | apply pw_below_drewN | apply below_drew1) | exact HB.out))) : w.heap.size ≤ gb227)); clear HB; have HB := n0_; have BK227 := n1_; have GW227 := n2_; have GE227 := n3_; clear n0_ n1_ n2_ n3_; clear hb hbox hg) | ((with_reducible refine gate_callee (f := 12) rfl ?_); refine goesL_ (some 10) rfl rfl Try.func12 (by kernel_rfl) rfl #[] rfl (by (try simp only [List.map_toArray, List.map_cons, List.map_nil]); first | done | rfl | (simp only [List.length_drop, List.length_take]; rfl)) ?_; (with_reducible refine (partitalaw12_awake.calls k  true _ A3.out).mono ?_); rintro e w12 ⟨rfl, hb⟩; refine ⟨_, rfl, ?_⟩; have n0_ := Aside0.mk (blk_below (g := gb227) (o := .cells #[.int .i64 a1_0, .int .i64 a1_1] 29 (0, 0)) (by (with_reducible repeat (first | refine blk_drewN ?_ _ | refine blk_drew ?_ | refine blk_alloc ?_ _)); exact BK227.out) hb); have n1_ := Aside0.mk (below_step (by repeat (first | (with_reducible first | exact HB.out | apply below_alloc | apply pw_below_drewN | apply below_drew1 | refine below_set ?_ GE227.out) | exact HB.out)) hb); clear BK227; clear HB; have BK227 := n0_; have HB := n1_; clear n0_ n1_; (try clear hb); (try clear hb2); (try clear hk); (try clear hi); have hcz13_0 : w12.cell? ⟨gb227, 0, none⟩ = some (.int .i64 a1_0) := (blk_cell BK227.out 0).trans rfl; have hcz13_1 : w12.cell? ⟨gb227, 1, none⟩ = some (.int .i64 a1_1) := (blk_cell BK227.out 1).trans rfl; have hfz13_0 := blk_frozen BK227.out 0; have hfz13_1 := blk_frozen BK227.out 1) | ((with_reducible refine gate_callee (f := 15) rfl ?_); refine goesL_ (some 18) rfl rfl Try.func15 (by kernel_rfl) rfl #[.slice A0 l0.length c0, .agg #[.int .i64 a1_0, .int .i64 a1_1]] rfl (by (try simp only [List.map_toArray, List.map_cons, List.map_nil]); first | done | rfl | (simp only [List.length_drop, List.length_take]; rfl)) ?_; (with_reducible refine (dyn_Level.calls k _ _ l0 a1_0 a1_1 t229 t230 _ ?side1 ?side2 A7.out).mono ?_); (case side1 => repeat (first | exact (Kd.C_below HR0.out HB.out) | (with_reducible refine Kd.C_alloc ?_ _) | (with_reducible refine Kd.C_drewN ?_ _) | (with_reducible refine Kd.C_drew ?_))); (case side2 => exact HC0.out); rintro e w14 ⟨rfl, hb⟩; refine ⟨_, rfl, ?_⟩; have n0_ := Aside0.mk (blk_below (g := gb227) (o := .cells #[.int .i64 a1_0, .int .i64 a1_1] 29 (0, 0)) (by (with_reducible repeat (first | refine blk_drewN ?_ _ | refine blk_drew ?_ | refine blk_alloc ?_ _)); exact BK227.out) hb); have n1_ := Aside0.mk (below_step (by repeat (first | (with_reducible first | exact HB.out | apply below_alloc | apply pw_below_drewN | apply below_drew1 | refine below_set ?_ GE227.out) | exact HB.out)) hb); clear BK227; clear HB; have BK227 := n0_; have HB := n1_; clear n0_ n1_; (try clear hb); (try clear hb2); (try clear hk); (try clear hi); have hcz15_0 : w14.cell? ⟨gb227, 0, none⟩ = some (.int .i64 a1_0) := (blk_cell BK227.out 0).trans rfl; have hcz15_1 : w14.cell? ⟨gb227, 1, none⟩ = some (.int .i64 a1_1) := (blk_cell BK227.out 1).trans rfl; have hfz15_0 := blk_frozen BK227.out 0; have hfz15_1 := blk_frozen BK227.out 1) | ((with_reducible refine gate_callee (f := 16) rfl ?_); refine goesL_ (some 24) rfl rfl Try.func16 (by kernel_rfl) rfl #[.slice A0 l0.length c0, .agg #[.int .i64 a1_0, .int .i64 a1_1]] rfl (by (try simp only [List.map_toArray, List.map_cons, List.map_nil]); first | done | rfl | (simp only [List.length_drop, List.length_take]; rfl)) ?_; (with_reducible refine (partitaref12_Level.calls k _ _ l0 a1_0 a1_1 t231 t232 _ ?side1 ?side2 A8.out).mono ?_); (case side1 => repeat (first | exact (Kd.C_below HR0.out HB.out) | (with_reducible refine Kd.C_alloc ?_ _) | (with_reducible refine Kd.C_drewN ?_ _) | (with_reducible refine Kd.C_drew ?_))); (case side2 => exact HC0.out); rintro e w16 ⟨rfl, hb⟩; refine ⟨_, rfl, ?_⟩; have n0_ := Aside0.mk (blk_below (g := gb227) (o := .cells #[.int .i64 a1_0, .int .i64 a1_1] 29 (0, 0)) (by (with_reducible repeat (first | refine blk_drewN ?_ _ | refine blk_drew ?_ | refine blk_alloc ?_ _)); exact BK227.out) hb); have n1_ := Aside0.mk (below_step (by repeat (first | (with_reducible first | exact HB.out | apply below_alloc | apply pw_below_drewN | apply below_drew1 | refine below_set ?_ GE227.out) | exact HB.out)) hb); clear BK227; clear HB; have BK227 := n0_; have HB := n1_; clear n0_ n1_; (try clear hb); (try clear hb2); (try clear hk); (try clear hi)))
        go_ret
        exact ⟨by first | rfl | (simp [errW_none, errW_some] <;> rfl) | (simp [*, errW_none, errW_some] <;> rfl), by repeat (first | (with_reducible first | exact HB.out | apply below_alloc | apply pw_below_drewN | apply below_drew1 | refine below_set ?_ GE227.out) | exact HB.out)⟩
      · rw [if_neg c10] at H
        have c10b0 : (t229 == t231) = false := beq_eq_false_iff_ne.mpr c10
        have c10b1 : (t229 != t231) = true := bne_iff_ne.mpr c10
        obtain rfl := Option.some.inj H
        go_enter Try.func4, Try.ntmps4
        go_wp2_with (first | ((with_reducible refine gate_dst (N := 3) rfl ?_); refine box_event ?hg (N := 3) ?hd (cs := #[.int .i64 a1_0, .int .i64 a1_1]) (t := 29) ?hr ?_; (case hd => rfl); (case hg => rfl); (case hr => first | (go_simp; done) | (go_simp; rfl)); intro gb227 hg w17 hbox hb; have n0_ := Aside0.mk (below_step (by repeat (first | (with_reducible first | exact HB.out | apply below_alloc | apply pw_below_drewN | apply below_drew1) | exact HB.out)) hb); have n1_ := Aside0.mk (hbox); have n2_ := Aside0.mk ((by rw [hg]; exact (below_size (by repeat (first | (with_reducible first | exact HB.out | apply below_alloc | apply pw_below_drewN | apply below_drew1) | exact HB.out))) : w.heap.size ≤ gb227)); have n3_ := Aside0.mk ((by rw [hg]; exact (below_size (by repeat (first | (with_reducible first | exact HB.out | apply below_alloc | apply pw_below_drewN | apply below_drew1) | exact HB.out))) : w.heap.size ≤ gb227)); clear HB; have HB := n0_; have BK227 := n1_; have GW227 := n2_; have GE227 := n3_; clear n0_ n1_ n2_ n3_; clear hb hbox hg) | ((with_reducible refine gate_callee (f := 12) rfl ?_); refine goesL_ (some 10) rfl rfl Try.func12 (by kernel_rfl) rfl #[] rfl (by (try simp only [List.map_toArray, List.map_cons, List.map_nil]); first | done | rfl | (simp only [List.length_drop, List.length_take]; rfl)) ?_; (with_reducible refine (partitalaw12_awake.calls k  true _ A3.out).mono ?_); rintro e w18 ⟨rfl, hb⟩; refine ⟨_, rfl, ?_⟩; have n0_ := Aside0.mk (blk_below (g := gb227) (o := .cells #[.int .i64 a1_0, .int .i64 a1_1] 29 (0, 0)) (by (with_reducible repeat (first | refine blk_drewN ?_ _ | refine blk_drew ?_ | refine blk_alloc ?_ _)); exact BK227.out) hb); have n1_ := Aside0.mk (below_step (by repeat (first | (with_reducible first | exact HB.out | apply below_alloc | apply pw_below_drewN | apply below_drew1 | refine below_set ?_ GE227.out) | exact HB.out)) hb); clear BK227; clear HB; have BK227 := n0_; have HB := n1_; clear n0_ n1_; (try clear hb); (try clear hb2); (try clear hk); (try clear hi); have hcz19_0 : w18.cell? ⟨gb227, 0, none⟩ = some (.int .i64 a1_0) := (blk_cell BK227.out 0).trans rfl; have hcz19_1 : w18.cell? ⟨gb227, 1, none⟩ = some (.int .i64 a1_1) := (blk_cell BK227.out 1).trans rfl; have hfz19_0 := blk_frozen BK227.out 0; have hfz19_1 := blk_frozen BK227.out 1) | ((with_reducible refine gate_callee (f := 15) rfl ?_); refine goesL_ (some 18) rfl rfl Try.func15 (by kernel_rfl) rfl #[.slice A0 l0.length c0, .agg #[.int .i64 a1_0, .int .i64 a1_1]] rfl (by (try simp only [List.map_toArray, List.map_cons, List.map_nil]); first | done | rfl | (simp only [List.length_drop, List.length_take]; rfl)) ?_; (with_reducible refine (dyn_Level.calls k _ _ l0 a1_0 a1_1 t229 t230 _ ?side1 ?side2 A7.out).mono ?_); (case side1 => repeat (first | exact (Kd.C_below HR0.out HB.out) | (with_reducible refine Kd.C_alloc ?_ _) | (with_reducible refine Kd.C_drewN ?_ _) | (with_reducible refine Kd.C_drew ?_))); (case side2 => exact HC0.out); rintro e w20 ⟨rfl, hb⟩; refine ⟨_, rfl, ?_⟩; have n0_ := Aside0.mk (blk_below (g := gb227) (o := .cells #[.int .i64 a1_0, .int .i64 a1_1] 29 (0, 0)) (by (with_reducible repeat (first | refine blk_drewN ?_ _ | refine blk_drew ?_ | refine blk_alloc ?_ _)); exact BK227.out) hb); have n1_ := Aside0.mk (below_step (by repeat (first | (with_reducible first | exact HB.out | apply below_alloc | apply pw_below_drewN | apply below_drew1 | refine below_set ?_ GE227.out) | exact HB.out)) hb); clear BK227; clear HB; have BK227 := n0_; have HB := n1_; clear n0_ n1_; (try clear hb); (try clear hb2); (try clear hk); (try clear hi); have hcz21_0 : w20.cell? ⟨gb227, 0, none⟩ = some (.int .i64 a1_0) := (blk_cell BK227.out 0).trans rfl; have hcz21_1 : w20.cell? ⟨gb227, 1, none⟩ = some (.int .i64 a1_1) := (blk_cell BK227.out 1).trans rfl; have hfz21_0 := blk_frozen BK227.out 0; have hfz21_1 := blk_frozen BK227.out 1) | ((with_reducible refine gate_callee (f := 16) rfl ?_); refine goesL_ (some 24) rfl rfl Try.func16 (by kernel_rfl) rfl #[.slice A0 l0.length c0, .agg #[.int .i64 a1_0, .int .i64 a1_1]] rfl (by (try simp only [List.map_toArray, List.map_cons, List.map_nil]); first | done | rfl | (simp only [List.length_drop, List.length_take]; rfl)) ?_; (with_reducible refine (partitaref12_Level.calls k _ _ l0 a1_0 a1_1 t231 t232 _ ?side1 ?side2 A8.out).mono ?_); (case side1 => repeat (first | exact (Kd.C_below HR0.out HB.out) | (with_reducible refine Kd.C_alloc ?_ _) | (with_reducible refine Kd.C_drewN ?_ _) | (with_reducible refine Kd.C_drew ?_))); (case side2 => exact HC0.out); rintro e w22 ⟨rfl, hb⟩; refine ⟨_, rfl, ?_⟩; have n0_ := Aside0.mk (blk_below (g := gb227) (o := .cells #[.int .i64 a1_0, .int .i64 a1_1] 29 (0, 0)) (by (with_reducible repeat (first | refine blk_drewN ?_ _ | refine blk_drew ?_ | refine blk_alloc ?_ _)); exact BK227.out) hb); have n1_ := Aside0.mk (below_step (by repeat (first | (with_reducible first | exact HB.out | apply below_alloc | apply pw_below_drewN | apply below_drew1 | refine below_set ?_ GE227.out) | exact HB.out)) hb); clear BK227; clear HB; have BK227 := n0_; have HB := n1_; clear n0_ n1_; (try clear hb); (try clear hb2); (try clear hk); (try clear hi)))
        go_ret
        exact ⟨by first | rfl | (simp [errW_none, errW_some] <;> rfl) | (simp [*, errW_none, errW_some] <;> rfl), by repeat (first | (with_reducible first | exact HB.out | apply below_alloc | apply pw_below_drewN | apply below_drew1 | refine below_set ?_ GE227.out) | exact HB.out)⟩
    · replace c9 := Bool.eq_false_iff.mpr c9
      subst c9
      have H1 : (some false) = some r := by rw [if_neg (show ¬ (false = true) by decide)] at H; exact H
      clear H
      have H := H1
      clear H1
      obtain rfl := Option.some.inj H
      go_enter Try.func4, Try.ntmps4
      go_wp2_with (first | ((with_reducible refine gate_dst (N := 3) rfl ?_); refine box_event ?hg (N := 3) ?hd (cs := #[.int .i64 a1_0, .int .i64 a1_1]) (t := 29) ?hr ?_; (case hd => rfl); (case hg => rfl); (case hr => first | (go_simp; done) | (go_simp; rfl)); intro gb227 hg w23 hbox hb; have n0_ := Aside0.mk (below_step (by repeat (first | (with_reducible first | exact HB.out | apply below_alloc | apply pw_below_drewN | apply below_drew1) | exact HB.out)) hb); have n1_ := Aside0.mk (hbox); have n2_ := Aside0.mk ((by rw [hg]; exact (below_size (by repeat (first | (with_reducible first | exact HB.out | apply below_alloc | apply pw_below_drewN | apply below_drew1) | exact HB.out))) : w.heap.size ≤ gb227)); have n3_ := Aside0.mk ((by rw [hg]; exact (below_size (by repeat (first | (with_reducible first | exact HB.out | apply below_alloc | apply pw_below_drewN | apply below_drew1) | exact HB.out))) : w.heap.size ≤ gb227)); clear HB; have HB := n0_; have BK227 := n1_; have GW227 := n2_; have GE227 := n3_; clear n0_ n1_ n2_ n3_; clear hb hbox hg) | ((with_reducible refine gate_callee (f := 12) rfl ?_); refine goesL_ (some 10) rfl rfl Try.func12 (by kernel_rfl) rfl #[] rfl (by (try simp only [List.map_toArray, List.map_cons, List.map_nil]); first | done | rfl | (simp only [List.length_drop, List.length_take]; rfl)) ?_; (with_reducible refine (partitalaw12_awake.calls k  false _ A3.out).mono ?_); rintro e w24 ⟨rfl, hb⟩; refine ⟨_, rfl, ?_⟩; have n0_ := Aside0.mk (blk_below (g := gb227) (o := .cells #[.int .i64 a1_0, .int .i64 a1_1] 29 (0, 0)) (by (with_reducible repeat (first | refine blk_drewN ?_ _ | refine blk_drew ?_ | refine blk_alloc ?_ _)); exact BK227.out) hb); have n1_ := Aside0.mk (below_step (by repeat (first | (with_reducible first | exact HB.out | apply below_alloc | apply pw_below_drewN | apply below_drew1 | refine below_set ?_ GE227.out) | exact HB.out)) hb); clear BK227; clear HB; have BK227 := n0_; have HB := n1_; clear n0_ n1_; (try clear hb); (try clear hb2); (try clear hk); (try clear hi); have hcz25_0 : w24.cell? ⟨gb227, 0, none⟩ = some (.int .i64 a1_0) := (blk_cell BK227.out 0).trans rfl; have hcz25_1 : w24.cell? ⟨gb227, 1, none⟩ = some (.int .i64 a1_1) := (blk_cell BK227.out 1).trans rfl; have hfz25_0 := blk_frozen BK227.out 0; have hfz25_1 := blk_frozen BK227.out 1) | ((with_reducible refine gate_callee (f := 15) rfl ?_); refine goesL_ (some 18) rfl rfl Try.func15 (by kernel_rfl) rfl #[.slice A0 l0.length c0, .agg #[.int .i64 a1_0, .int .i64 a1_1]] rfl (by (try simp only [List.map_toArray, List.map_cons, List.map_nil]); first | done | rfl | (simp only [List.length_drop, List.length_take]; rfl)) ?_; (with_reducible refine (dyn_Level.calls k _ _ l0 a1_0 a1_1 t229 t230 _ ?side1 ?side2 A7.out).mono ?_); (case side1 => repeat (first | exact (Kd.C_below HR0.out HB.out) | (with_reducible refine Kd.C_alloc ?_ _) | (with_reducible refine Kd.C_drewN ?_ _) | (with_reducible refine Kd.C_drew ?_))); (case side2 => exact HC0.out); rintro e w26 ⟨rfl, hb⟩; refine ⟨_, rfl, ?_⟩; have n0_ := Aside0.mk (blk_below (g := gb227) (o := .cells #[.int .i64 a1_0, .int .i64 a1_1] 29 (0, 0)) (by (with_reducible repeat (first | refine blk_drewN ?_ _ | refine blk_drew ?_ | refine blk_alloc ?_ _)); exact BK227.out) hb); have n1_ := Aside0.mk (below_step (by repeat (first | (with_reducible first | exact HB.out | apply below_alloc | apply pw_below_drewN | apply below_drew1 | refine below_set ?_ GE227.out) | exact HB.out)) hb); clear BK227; clear HB; have BK227 := n0_; have HB := n1_; clear n0_ n1_; (try clear hb); (try clear hb2); (try clear hk); (try clear hi); have hcz27_0 : w26.cell? ⟨gb227, 0, none⟩ = some (.int .i64 a1_0) := (blk_cell BK227.out 0).trans rfl; have hcz27_1 : w26.cell? ⟨gb227, 1, none⟩ = some (.int .i64 a1_1) := (blk_cell BK227.out 1).trans rfl; have hfz27_0 := blk_frozen BK227.out 0; have hfz27_1 := blk_frozen BK227.out 1) | ((with_reducible refine gate_callee (f := 16) rfl ?_); refine goesL_ (some 24) rfl rfl Try.func16 (by kernel_rfl) rfl #[.slice A0 l0.length c0, .agg #[.int .i64 a1_0, .int .i64 a1_1]] rfl (by (try simp only [List.map_toArray, List.map_cons, List.map_nil]); first | done | rfl | (simp only [List.length_drop, List.length_take]; rfl)) ?_; (with_reducible refine (partitaref12_Level.calls k _ _ l0 a1_0 a1_1 t231 t232 _ ?side1 ?side2 A8.out).mono ?_); (case side1 => repeat (first | exact (Kd.C_below HR0.out HB.out) | (with_reducible refine Kd.C_alloc ?_ _) | (with_reducible refine Kd.C_drewN ?_ _) | (with_reducible refine Kd.C_drew ?_))); (case side2 => exact HC0.out); rintro e w28 ⟨rfl, hb⟩; refine ⟨_, rfl, ?_⟩; have n0_ := Aside0.mk (blk_below (g := gb227) (o := .cells #[.int .i64 a1_0, .int .i64 a1_1] 29 (0, 0)) (by (with_reducible repeat (first | refine blk_drewN ?_ _ | refine blk_drew ?_ | refine blk_alloc ?_ _)); exact BK227.out) hb); have n1_ := Aside0.mk (below_step (by repeat (first | (with_reducible first | exact HB.out | apply below_alloc | apply pw_below_drewN | apply below_drew1 | refine below_set ?_ GE227.out) | exact HB.out)) hb); clear BK227; clear HB; have BK227 := n0_; have HB := n1_; clear n0_ n1_; (try clear hb); (try clear hb2); (try clear hk); (try clear hi)))
      go_ret
      exact ⟨by first | rfl | (simp [errW_none, errW_some] <;> rfl) | (simp [*, errW_none, errW_some] <;> rfl), by repeat (first | (with_reducible first | exact HB.out | apply below_alloc | apply pw_below_drewN | apply below_drew1 | refine below_set ?_ GE227.out) | exact HB.out)⟩

/-! ### partitaref12_has: function 33 -/
def partitaref12_has.l0 : Nat → List Int → Int → Int → Option (Bool)
  | 0, _, _, _ => none
  | k + 1, x0, x1, x5 => if x5 < (x0.length : Int) then (if 0 ≤ x5 then (if (rd x0 x5) = x1 then (some true) else (partitaref12_has.l0 k x0 x1 (wrap64 (x5 + 1)))) else (none)) else (some false)
def partitaref12_has.f (k : Nat) (l0 : List Int) (a1 : Int) : Option (Bool) := partitaref12_has.l0 k l0 a1 0
theorem partitaref12_has.mono_l : ∀ k, (∀ y0 y1 y2, LeO (partitaref12_has.l0 k y0 y1 y2) (partitaref12_has.l0 (k + 1) y0 y1 y2))
  | 0 => fun _ _ _ r h => by simp [partitaref12_has.l0] at h
  | k + 1 => by
    have ih0 := partitaref12_has.mono_l k
    · intro y0 y1 y2
      unfold partitaref12_has.l0
      repeat' first
      | (with_reducible exact ih0 _ _ _)
      | (with_reducible exact LeO.refl _)
      | (with_reducible exact LeO.none _)
      | (with_reducible refine LeO.ite ?_ ?_)
      | (with_reducible refine LeO.bind ?_ (fun _ => ?_))
      | exact ih0 _ _ _
      | exact LeO.none _
      | refine LeO.ite ?_ ?_
      | refine LeO.bind ?_ (fun _ => ?_)
theorem partitaref12_has.mono : ∀ a0 a1 k, LeO (partitaref12_has.f k a0 a1) (partitaref12_has.f (k + 1) a0 a1) := by
  intro a0 a1 k
  have ih0 := partitaref12_has.mono_l k
  unfold partitaref12_has.f
  repeat' first
      | (with_reducible exact ih0 _ _ _)
      | (with_reducible exact LeO.refl _)
      | (with_reducible exact LeO.none _)
      | (with_reducible refine LeO.ite ?_ ?_)
      | (with_reducible refine LeO.bind ?_ (fun _ => ?_))
      | exact ih0 _ _ _
      | exact LeO.none _
      | refine LeO.ite ?_ ?_
      | refine LeO.bind ?_ (fun _ => ?_)
set_option maxHeartbeats 8000000 in
set_option maxRecDepth 100000 in
theorem partitaref12_has.calls (k : Nat) (A0 : Option Addr) (c0 : Nat) (l0 : List Int) (a1 : Int) (r : Bool) (w : World) (hr0 : Kd.C (Kd.int .i64) w A0 l0.length l0) (hc0 : l0.length ≤ c0) (h : partitaref12_has.f k l0 a1 = some r) :
    Calls Try.prog 33 #[.slice A0 l0.length c0, .int .i64 a1] w fun e w' => e = .returned (.bool r) ∧ Drawn0 w w' := by
  have HR0 := Aside0.mk hr0
  have HC0 := Aside0.mk hc0
  clear hr0 hc0
  have H : (partitaref12_has.l0 k l0 a1 0) = some r := h
  clear h
  have H' := Aside0.mk H
  clear H
  go_enter Try.func33, Try.ntmps33
  go_wp2
  go_loopg [5] k (fun kq v5 w' => ∃ (x5_1 : Int), v5 = .int .i64 x5_1 ∧ Aside0 (partitaref12_has.l0 kq l0 a1 x5_1 = some r) ∧ Aside0 (kq ≤ k) ∧ Drawn0 w w')
  case atStart => exact ⟨(0), (by first | rfl | (simp; done) | (simp [*]; done)), H', ⟨Nat.le_refl _⟩, by repeat (first | exact Drawn0.refl _ | apply Drawn0.step)⟩
  case round =>
    clear H'
    try clear p2
    obtain ⟨x5_1, rfl, HA, HK1, ⟨m1, rfl⟩⟩ := hrel
    cases gk with
    | zero => exact absurd HA.out (by simp [partitaref12_has.l0])
    | succ k1 =>
      have H := HA.out
      clear HA
      simp only [partitaref12_has.l0] at H
      by_cases c3 : x5_1 < (l0.length : Int)
      · rw [if_pos c3] at H
        have c3b0 : decide (x5_1 < (l0.length : Int)) = true := decide_eq_true c3
        clear c3
        by_cases c4 : 0 ≤ x5_1
        · rw [if_pos c4] at H
          have c4b0 : decide (0 ≤ x5_1) = true := decide_eq_true c4
          clear c4
          by_cases c5 : (rd l0 x5_1) = a1
          · rw [if_pos c5] at H
            have c5b0 : ((rd l0 x5_1) == a1) = true := beq_iff_eq.mpr c5
            have c5b1 : ((rd l0 x5_1) != a1) = false := bne_eq_false_iff_eq.mpr c5
            clear c5
            obtain rfl := Option.some.inj H
            have p233 : 0 ≤ (x5_1 : Int) := of_decide_eq_true (by first | (with_reducible assumption) | assumption)
            have q233 : x5_1 < (l0.length : Int) := of_decide_eq_true (by first | (with_reducible assumption) | assumption)
            obtain ⟨ad233, e233, hx233_0⟩ := Kd.at_int HR0.out x5_1 p233 q233
            cases e233
            replace p233 := eq_true p233
            replace q233 := eq_true q233
            go_wp2
            go_ret
            exact ⟨by first | rfl | (simp; done) | (simp [*]; done), by repeat (first | exact Drawn0.refl _ | apply Drawn0.step)⟩
          · rw [if_neg c5] at H
            have c5b0 : ((rd l0 x5_1) == a1) = false := beq_eq_false_iff_ne.mpr c5
            have c5b1 : ((rd l0 x5_1) != a1) = true := bne_iff_ne.mpr c5
            have H' := Aside0.mk H
            clear H
            have p233 : 0 ≤ (x5_1 : Int) := of_decide_eq_true (by first | (with_reducible assumption) | assumption)
            have q233 : x5_1 < (l0.length : Int) := of_decide_eq_true (by first | (with_reducible assumption) | assumption)
            obtain ⟨ad233, e233, hx233_0⟩ := Kd.at_int HR0.out x5_1 p233 q233
            cases e233
            replace p233 := eq_true p233
            replace q233 := eq_true q233
            go_wp2
            go_roundg k1
            case measure => have := HK1.out; omega
            case rel => exact ⟨(wrap64 (x5_1 + 1)), (by first | rfl | (simp; done) | (simp [*]; done)), H', ⟨by have := HK1.out; omega⟩, by repeat (first | exact Drawn0.refl _ | apply Drawn0.step)⟩
        · rw [if_neg c4] at H
          exact absurd H (by simp)
      · rw [if_neg c3] at H
        have c3b0 : decide (x5_1 < (l0.length : Int)) = false := decide_eq_false c3
        clear c3
        obtain rfl := Option.some.inj H
        go_wp2
        go_ret
        exact ⟨by first | rfl | (simp; done) | (simp [*]; done), by repeat (first | exact Drawn0.refl _ | apply Drawn0.step)⟩

/-! ### partitaref12_Velocity: function 18 -/
mutual
def partitaref12_Velocity.l0 : Nat → List Int → Int → Int → Option (Int × Int)
  | 0, _, _, _ => none
  | k + 1, x2, x8, x10 => if x10 < (x2.length : Int) then (if 0 ≤ x10 then (if (rd x2 x10) < 1 then (some (0, 2)) else (if (rd x2 x10) > 4 then (some (0, 2)) else (partitaref12_Velocity.l0 k x2 x8 (wrap64 (x10 + 1))))) else (none)) else ((partitaref12_has.f k x2 3).bind fun t239 => (if t239 = true then (partitaref12_Velocity.j1 k x2 (wrap64 (x8 + 20))) else (partitaref12_Velocity.j1 k x2 x8)))
def partitaref12_Velocity.j1 : Nat → List Int → Int → Option (Int × Int)
  | 0, _, _ => none
  | k + 1, x2, x8 => (partitaref12_has.f k x2 2).bind fun t240 => (if t240 = true then (if (wrap64 (x8 + 5)) > 127 then (some (127, 0)) else (some (wrap64 (x8 + 5), 0))) else (if x8 > 127 then (some (127, 0)) else (some (x8, 0))))
end
def partitaref12_Velocity.f (k : Nat) (l0 : List (S36)) (a1_0 : Int) (a1_1 : Int) (l2 : List Int) : Option (Int × Int) := (partitaref12_Level.f k l0 a1_0 a1_1).bind fun bt235 => (if bt235.2 = 0 then (partitaref12_Velocity.l0 k l2 bt235.1 0) else (some (0, bt235.2)))
theorem partitaref12_Velocity.mono_l : ∀ k, (∀ y0 y1 y2, LeO (partitaref12_Velocity.l0 k y0 y1 y2) (partitaref12_Velocity.l0 (k + 1) y0 y1 y2)) ∧ (∀ y0 y1, LeO (partitaref12_Velocity.j1 k y0 y1) (partitaref12_Velocity.j1 (k + 1) y0 y1))
  | 0 => ⟨fun _ _ _ r h => by simp [partitaref12_Velocity.l0] at h, fun _ _ r h => by simp [partitaref12_Velocity.j1] at h⟩
  | k + 1 => by
    obtain ⟨ih0, ih1⟩ := partitaref12_Velocity.mono_l k
    refine ⟨?_, ?_⟩
    · intro y0 y1 y2
      unfold partitaref12_Velocity.l0
      repeat' first
      | (with_reducible exact ih0 _ _ _)
      | (with_reducible exact ih1 _ _)
      | (with_reducible exact partitaref12_Level.mono _ _ _ _)
      | (with_reducible exact partitaref12_has.mono _ _ _)
      | (with_reducible exact LeO.refl _)
      | (with_reducible exact LeO.none _)
      | (with_reducible refine LeO.ite ?_ ?_)
      | (with_reducible refine LeO.bind ?_ (fun _ => ?_))
      | exact ih0 _ _ _
      | exact ih1 _ _
      | exact partitaref12_Level.mono _ _ _ _
      | exact partitaref12_has.mono _ _ _
      | exact LeO.none _
      | refine LeO.ite ?_ ?_
      | refine LeO.bind ?_ (fun _ => ?_)
    · intro y0 y1
      unfold partitaref12_Velocity.j1
      repeat' first
      | (with_reducible exact ih0 _ _ _)
      | (with_reducible exact ih1 _ _)
      | (with_reducible exact partitaref12_Level.mono _ _ _ _)
      | (with_reducible exact partitaref12_has.mono _ _ _)
      | (with_reducible exact LeO.refl _)
      | (with_reducible exact LeO.none _)
      | (with_reducible refine LeO.ite ?_ ?_)
      | (with_reducible refine LeO.bind ?_ (fun _ => ?_))
      | exact ih0 _ _ _
      | exact ih1 _ _
      | exact partitaref12_Level.mono _ _ _ _
      | exact partitaref12_has.mono _ _ _
      | exact LeO.none _
      | refine LeO.ite ?_ ?_
      | refine LeO.bind ?_ (fun _ => ?_)
theorem partitaref12_Velocity.mono : ∀ a0 a1 a2 a3 k, LeO (partitaref12_Velocity.f k a0 a1 a2 a3) (partitaref12_Velocity.f (k + 1) a0 a1 a2 a3) := by
  intro a0 a1 a2 a3 k
  obtain ⟨ih0, ih1⟩ := partitaref12_Velocity.mono_l k
  unfold partitaref12_Velocity.f
  repeat' first
      | (with_reducible exact ih0 _ _ _)
      | (with_reducible exact ih1 _ _)
      | (with_reducible exact partitaref12_Level.mono _ _ _ _)
      | (with_reducible exact partitaref12_has.mono _ _ _)
      | (with_reducible exact LeO.refl _)
      | (with_reducible exact LeO.none _)
      | (with_reducible refine LeO.ite ?_ ?_)
      | (with_reducible refine LeO.bind ?_ (fun _ => ?_))
      | exact ih0 _ _ _
      | exact ih1 _ _
      | exact partitaref12_Level.mono _ _ _ _
      | exact partitaref12_has.mono _ _ _
      | exact LeO.none _
      | refine LeO.ite ?_ ?_
      | refine LeO.bind ?_ (fun _ => ?_)
set_option maxHeartbeats 8000000 in
set_option maxRecDepth 100000 in
theorem partitaref12_Velocity.calls (k : Nat) (A0 : Option Addr) (c0 : Nat) (l0 : List (S36)) (a1_0 : Int) (a1_1 : Int) (A2 : Option Addr) (c2 : Nat) (l2 : List Int) (r1 : Int) (r2 : Int) (w : World) (hr0 : Kd.C k36 w A0 l0.length l0) (hc0 : l0.length ≤ c0) (hr2 : Kd.C (Kd.int .i64) w A2 l2.length l2) (hc2 : l2.length ≤ c2) (h : partitaref12_Velocity.f k l0 a1_0 a1_1 l2 = some (r1, r2)) :
    Calls Try.prog 18 #[.slice A0 l0.length c0, .agg #[.int .i64 a1_0, .int .i64 a1_1], .slice A2 l2.length c2] w fun e w' => e = .returned (.tuple #[.int .i64 r1, .int .i64 r2]) ∧ Below w.heap.size w w' := by
  have hu29 := Try.underlying29
  have HR0 := Aside0.mk hr0
  have HC0 := Aside0.mk hc0
  clear hr0 hc0
  have HR2 := Aside0.mk hr2
  have HC2 := Aside0.mk hc2
  clear hr2 hc2
  have HB := Aside0.mk (Below.refl w.heap.size w)
  have H : ((partitaref12_Level.f k l0 a1_0 a1_1).bind fun bt235 => (if bt235.2 = 0 then (partitaref12_Velocity.l0 k l2 bt235.1 0) else (some (0, bt235.2)))) = some (r1, r2) := h
  clear h
  replace H := Option.bind_eq_some_iff.mp H
  obtain ⟨⟨t235, t236⟩, A40, H⟩ := H
  replace H : (if t236 = 0 then (partitaref12_Velocity.l0 k l2 t235 0) else (some (0, t236))) = some (r1, r2) := H
  have A4 := Aside0.mk A40
  clear A40
  by_cases c5 : t236 = 0
  · rw [if_pos c5] at H
    have c5b0 : (t236 == 0) = true := beq_iff_eq.mpr c5
    have c5b1 : (t236 != 0) = false := bne_eq_false_iff_eq.mpr c5
    clear c5
    have H' := Aside0.mk H
    clear H
    go_enter Try.func18, Try.ntmps18
    go_wp2_with (first | ((with_reducible refine gate_dst (N := 4) rfl ?_); refine box_event ?hg (N := 4) ?hd (cs := #[.int .i64 a1_0, .int .i64 a1_1]) (t := 29) ?hr ?_; (case hd => rfl); (case hg => rfl); (case hr => first | (go_simp; done) | (go_simp; rfl)); intro gb234 hg w6 hbox hb; have n0_ := Aside0.mk (below_step (by repeat (first | (with_reducible first | exact HB.out | apply below_alloc | apply pw_below_drewN | apply below_drew1) | exact HB.out)) hb); have n1_ := Aside0.mk (hbox); have n2_ := Aside0.mk ((by rw [hg]; exact (below_size (by repeat (first | (with_reducible first | exact HB.out | apply below_alloc | apply pw_below_drewN | apply below_drew1) | exact HB.out))) : w.heap.size ≤ gb234)); have n3_ := Aside0.mk ((by rw [hg]; exact (below_size (by repeat (first | (with_reducible first | exact HB.out | apply below_alloc | apply pw_below_drewN | apply below_drew1) | exact HB.out))) : w.heap.size ≤ gb234)); clear HB; have HB := n0_; have BK234 := n1_; have GW234 := n2_; have GE234 := n3_; clear n0_ n1_ n2_ n3_; clear hb hbox hg; have hcz7_0 : w6.cell? ⟨gb234, 0, none⟩ = some (.int .i64 a1_0) := (blk_cell BK234.out 0).trans rfl; have hcz7_1 : w6.cell? ⟨gb234, 1, none⟩ = some (.int .i64 a1_1) := (blk_cell BK234.out 1).trans rfl; have hfz7_0 := blk_frozen BK234.out 0; have hfz7_1 := blk_frozen BK234.out 1) | ((with_reducible refine gate_callee (f := 16) rfl ?_); refine goesL_ (some 14) rfl rfl Try.func16 (by kernel_rfl) rfl #[.slice A0 l0.length c0, .agg #[.int .i64 a1_0, .int .i64 a1_1]] rfl (by (try simp only [List.map_toArray, List.map_cons, List.map_nil]); first | done | rfl | (simp only [List.length_drop, List.length_take]; rfl)) ?_; (with_reducible refine (partitaref12_Level.calls k _ _ l0 a1_0 a1_1 t235 t236 _ ?side1 ?side2 A4.out).mono ?_); (case side1 => repeat (first | exact (Kd.C_below HR0.out HB.out) | (with_reducible refine Kd.C_alloc ?_ _) | (with_reducible refine Kd.C_drewN ?_ _) | (with_reducible refine Kd.C_drew ?_))); (case side2 => exact HC0.out); rintro e w8 ⟨rfl, hb⟩; refine ⟨_, rfl, ?_⟩; have n0_ := Aside0.mk (blk_below (g := gb234) (o := .cells #[.int .i64 a1_0, .int .i64 a1_1] 29 (0, 0)) (by (with_reducible repeat (first | refine blk_drewN ?_ _ | refine blk_drew ?_ | refine blk_alloc ?_ _)); exact BK234.out) hb); have n1_ := Aside0.mk (below_step (by repeat (first | (with_reducible first | exact HB.out | apply below_alloc | apply pw_below_drewN | apply below_drew1 | refine below_set ?_ GE234.out) | exact HB.out)) hb); clear BK234; clear HB; have BK234 := n0_; have HB := n1_; clear n0_ n1_; (try clear hb); (try clear hb2); (try clear hk); (try clear hi)))
    go_loopg [10] k (fun kq v10 w' => ∃ (x10_1 : Int), v10 = .int .i64 x10_1 ∧ Aside0 (partitaref12_Velocity.l0 kq l2 t235 x10_1 = some (r1, r2)) ∧ Aside0 (kq ≤ k) ∧ Aside0 (w'.heap[gb234]? = some (.cells #[.int .i64 a1_0, .int .i64 a1_1] 29 (0, 0))) ∧ Aside0 (Below w.heap.size w w'))
    case atStart => exact ⟨(0), (by first | rfl | (simp; done) | (simp [*]; done)), H', ⟨Nat.le_refl _⟩, ⟨by (with_reducible repeat (first | refine blk_drewN ?_ _ | refine blk_drew ?_ | refine blk_alloc ?_ _)); exact BK234.out⟩, ⟨by repeat (first | (with_reducible first | exact HB.out | apply below_alloc | apply pw_below_drewN | apply below_drew1 | refine below_set ?_ GE234.out) | exact HB.out)⟩⟩
    case round =>
      clear H'
      try clear c1
      try clear c2
      try clear p2
      try clear c5
      try clear c5b0
      try clear c5b1
      try clear hcz7_0
      try clear hcz7_1
      try clear hfz7_0
      try clear hfz7_1
      obtain ⟨x10_1, rfl, HA, HK1, BK234, HB⟩ := hrel
      cases gk with
      | zero => exact absurd HA.out (by simp [partitaref12_Velocity.l0])
      | succ k1 =>
        have H := HA.out
        clear HA
        simp only [partitaref12_Velocity.l0] at H
        by_cases c9 : x10_1 < (l2.length : Int)
        · rw [if_pos c9] at H
          have c9b0 : decide (x10_1 < (l2.length : Int)) = true := decide_eq_true c9
          clear c9
          by_cases c10 : 0 ≤ x10_1
          · rw [if_pos c10] at H
            have c10b0 : decide (0 ≤ x10_1) = true := decide_eq_true c10
            clear c10
            by_cases c11 : (rd l2 x10_1) < 1
            · rw [if_pos c11] at H
              have c11b0 : decide ((rd l2 x10_1) < 1) = true := decide_eq_true c11
              clear c11
              simp only [Option.some.injEq, Prod.mk.injEq] at H
              obtain ⟨rfl, rfl⟩ := H
              have p237 : 0 ≤ (x10_1 : Int) := of_decide_eq_true (by first | (with_reducible assumption) | assumption)
              have q237 : x10_1 < (l2.length : Int) := of_decide_eq_true (by first | (with_reducible assumption) | assumption)
              obtain ⟨ad237, e237, hx237_0⟩ := Kd.at_int HR2.out x10_1 p237 q237
              cases e237
              replace hx237_0 := (HB.out.cell (World.block_lt_of_cell? w _ hx237_0)).trans hx237_0
              replace p237 := eq_true p237
              replace q237 := eq_true q237
              go_wp2
              go_ret2
              exact ⟨by first | rfl | (simp [errW_none, errW_some] <;> rfl) | (simp [*, errW_none, errW_some] <;> rfl), by repeat (first | (with_reducible first | exact HB.out | apply below_alloc | apply pw_below_drewN | apply below_drew1 | refine below_set ?_ GE234.out) | exact HB.out)⟩
            · rw [if_neg c11] at H
              have c11b0 : decide ((rd l2 x10_1) < 1) = false := decide_eq_false c11
              clear c11
              by_cases c12 : (rd l2 x10_1) > 4
              · rw [if_pos c12] at H
                have c12b0 : decide (4 < (rd l2 x10_1)) = true := decide_eq_true c12
                clear c12
                simp only [Option.some.injEq, Prod.mk.injEq] at H
                obtain ⟨rfl, rfl⟩ := H
                have p237 : 0 ≤ (x10_1 : Int) := of_decide_eq_true (by first | (with_reducible assumption) | assumption)
                have q237 : x10_1 < (l2.length : Int) := of_decide_eq_true (by first | (with_reducible assumption) | assumption)
                obtain ⟨ad237, e237, hx237_0⟩ := Kd.at_int HR2.out x10_1 p237 q237
                cases e237
                replace hx237_0 := (HB.out.cell (World.block_lt_of_cell? w _ hx237_0)).trans hx237_0
                replace p237 := eq_true p237
                replace q237 := eq_true q237
                have p238 : 0 ≤ (x10_1 : Int) := of_decide_eq_true (by first | (with_reducible assumption) | assumption)
                have q238 : x10_1 < (l2.length : Int) := of_decide_eq_true (by first | (with_reducible assumption) | assumption)
                obtain ⟨ad238, e238, hx238_0⟩ := Kd.at_int HR2.out x10_1 p238 q238
                obtain rfl : ad237 = ad238 := (by injection e238)
                replace hx238_0 := (HB.out.cell (World.block_lt_of_cell? w _ hx238_0)).trans hx238_0
                replace p238 := eq_true p238
                replace q238 := eq_true q238
                go_wp2
                go_ret2
                exact ⟨by first | rfl | (simp [errW_none, errW_some] <;> rfl) | (simp [*, errW_none, errW_some] <;> rfl), by repeat (first | (with_reducible first | exact HB.out | apply below_alloc | apply pw_below_drewN | apply below_drew1 | refine below_set ?_ GE234.out) | exact HB.out)⟩
              · rw [if_neg c12] at H
                have c12b0 : decide (4 < (rd l2 x10_1)) = false := decide_eq_false c12
                clear c12
                have H' := Aside0.mk H
                clear H
                have p237 : 0 ≤ (x10_1 : Int) := of_decide_eq_true (by first | (with_reducible assumption) | assumption)
                have q237 : x10_1 < (l2.length : Int) := of_decide_eq_true (by first | (with_reducible assumption) | assumption)
                obtain ⟨ad237, e237, hx237_0⟩ := Kd.at_int HR2.out x10_1 p237 q237
                cases e237
                replace hx237_0 := (HB.out.cell (World.block_lt_of_cell? w _ hx237_0)).trans hx237_0
                replace p237 := eq_true p237
                replace q237 := eq_true q237
                have p238 : 0 ≤ (x10_1 : Int) := of_decide_eq_true (by first | (with_reducible assumption) | assumption)
                have q238 : x10_1 < (l2.length : Int) := of_decide_eq_true (by first | (with_reducible assumption) | assumption)
                obtain ⟨ad238, e238, hx238_0⟩ := Kd.at_int HR2.out x10_1 p238 q238
                obtain rfl : ad237 = ad238 := (by injection e238)
                replace hx238_0 := (HB.out.cell (World.block_lt_of_cell? w _ hx238_0)).trans hx238_0
                replace p238 := eq_true p238
                replace q238 := eq_true q238
                go_wp2
                go_roundg k1
                case measure => have := HK1.out; omega
                case rel => exact ⟨(wrap64 (x10_1 + 1)), (by first | rfl | (simp; done) | (simp [*]; done)), H', ⟨by have := HK1.out; omega⟩, ⟨by (with_reducible repeat (first | refine blk_drewN ?_ _ | refine blk_drew ?_ | refine blk_alloc ?_ _)); exact BK234.out⟩, ⟨by repeat (first | (with_reducible first | exact HB.out | apply below_alloc | apply pw_below_drewN | apply below_drew1 | refine below_set ?_ GE234.out) | exact HB.out)⟩⟩
          · rw [if_neg c10] at H
            exact absurd H (by simp)
        · rw [if_neg c9] at H
          have c9b0 : decide (x10_1 < (l2.length : Int)) = false := decide_eq_false c9
          clear c9
          replace H := Option.bind_eq_some_iff.mp H
          obtain ⟨t239, A130, H⟩ := H
          replace H : (if t239 = true then (partitaref12_Velocity.j1 k1 l2 (wrap64 (t235 + 20))) else (partitaref12_Velocity.j1 k1 l2 t235)) = some (r1, r2) := H
          have A13 := Aside0.mk A130
          clear A130
          have HC14 := Aside0.mk H
          clear H
          go_upto_if 39 with (first | ((with_reducible refine gate_callee (f := 33) rfl ?_); refine goesL_ (some 39) rfl rfl Try.func33 (by kernel_rfl) rfl #[.slice A2 l2.length c2, .int .i64 3] rfl (by (try simp only [List.map_toArray, List.map_cons, List.map_nil]); first | done | rfl | (simp only [List.length_drop, List.length_take]; rfl)) ?_; (with_reducible refine (partitaref12_has.calls k1 _ _ l2 3 t239 _ ?side1 ?side2 A13.out).mono ?_); (case side1 => repeat (first | exact (Kd.C_below HR2.out HB.out) | (with_reducible refine Kd.C_alloc ?_ _) | (with_reducible refine Kd.C_drewN ?_ _) | (with_reducible refine Kd.C_drew ?_))); (case side2 => exact HC2.out); rintro e w' ⟨rfl, ⟨nd, rfl⟩⟩; refine ⟨_, rfl, ?_⟩))
          (try simp only [Act.put, List.setIfInBounds_toArray, List.set_cons_zero, List.set_cons_succ])
          go_cut [8] (fun v8 wc => ∃ (kq : Nat) (x8_13 : Int), v8 = .int .i64 x8_13 ∧ Aside0 (partitaref12_Velocity.j1 kq l2 x8_13 = some (r1, r2)) ∧ Aside0 (kq ≤ k1) ∧ Aside0 (wc.heap[gb234]? = some (.cells #[.int .i64 a1_0, .int .i64 a1_1] 29 (0, 0))) ∧ Aside0 (Below w.heap.size w wc))
          case first =>
            have H := HC14.out
            clear HC14
            by_cases c15 : t239 = true
            · subst c15
              have H1 : (partitaref12_Velocity.j1 k1 l2 (wrap64 (t235 + 20))) = some (r1, r2) := by rw [if_pos rfl] at H; exact H
              clear H
              have H := H1
              clear H1
              have H' := Aside0.mk H
              clear H
              go_wp2
              go_meet
              case rel => exact ⟨_, (wrap64 (t235 + 20)), (by first | rfl | (simp; done) | (simp [*]; done)), H', ⟨by have := HK1.out; first | omega | exact Nat.le_refl _⟩, ⟨by (with_reducible repeat (first | refine blk_drewN ?_ _ | refine blk_drew ?_ | refine blk_alloc ?_ _)); exact BK234.out⟩, ⟨by repeat (first | (with_reducible first | exact HB.out | apply below_alloc | apply pw_below_drewN | apply below_drew1 | refine below_set ?_ GE234.out) | exact HB.out)⟩⟩
            · replace c15 := Bool.eq_false_iff.mpr c15
              subst c15
              have H1 : (partitaref12_Velocity.j1 k1 l2 t235) = some (r1, r2) := by rw [if_neg (show ¬ (false = true) by decide)] at H; exact H
              clear H
              have H := H1
              clear H1
              have H' := Aside0.mk H
              clear H
              go_wp2
              go_meet
              case rel => exact ⟨_, (t235), (by first | rfl | (simp; done) | (simp [*]; done)), H', ⟨by have := HK1.out; first | omega | exact Nat.le_refl _⟩, ⟨by (with_reducible repeat (first | refine blk_drewN ?_ _ | refine blk_drew ?_ | refine blk_alloc ?_ _)); exact BK234.out⟩, ⟨by repeat (first | (with_reducible first | exact HB.out | apply below_alloc | apply pw_below_drewN | apply below_drew1 | refine below_set ?_ GE234.out) | exact HB.out)⟩⟩
          case rest =>
            clear HC14
            try clear c1
            try clear c2
            try clear p2
            try clear q2
            try clear hx2
            try clear c3
            try clear c5
            try clear c5b0
            try clear c5b1
            try clear p6
            try clear c9
            try clear c9b0
            try clear c10
            try clear c10b0
            try clear c11
            try clear c11b0
            try clear c12
            try clear c12b0
            try clear c15
            try clear hcz7_0
            try clear hcz7_1
            try clear hfz7_0
            try clear hfz7_1
            try clear hx237_0
            try clear hx238_0
            try clear p2
            try clear p237
            try clear p238
            try clear q237
            try clear q238
            obtain ⟨kq, x8_13, rfl, HA, HJ13, BK234, HB⟩ := hcut
            cases kq with
            | zero => exact absurd HA.out (by simp [partitaref12_Velocity.j1])
            | succ kj13 =>
              have H := HA.out
              clear HA
              simp only [partitaref12_Velocity.j1] at H
              replace H := Option.bind_eq_some_iff.mp H
              obtain ⟨t240, A160, H⟩ := H
              replace H : (if t240 = true then (if (wrap64 (x8_13 + 5)) > 127 then (some (127, 0)) else (some (wrap64 (x8_13 + 5), 0))) else (if x8_13 > 127 then (some (127, 0)) else (some (x8_13, 0)))) = some (r1, r2) := H
              have A16 := Aside0.mk A160
              clear A160
              by_cases c17 : t240 = true
              · subst c17
                have H1 : (if (wrap64 (x8_13 + 5)) > 127 then (some (127, 0)) else (some (wrap64 (x8_13 + 5), 0))) = some (r1, r2) := by rw [if_pos rfl] at H; exact H
                clear H
                have H := H1
                clear H1
                by_cases c18 : (wrap64 (x8_13 + 5)) > 127
                · rw [if_pos c18] at H
                  have c18b0 : decide (127 < (wrap64 (x8_13 + 5))) = true := decide_eq_true c18
                  clear c18
                  simp only [Option.some.injEq, Prod.mk.injEq] at H
                  obtain ⟨rfl, rfl⟩ := H
                  go_wp2_with (first | ((with_reducible refine gate_callee (f := 33) rfl ?_); refine goesL_ (some 43) rfl rfl Try.func33 (by kernel_rfl) rfl #[.slice A2 l2.length c2, .int .i64 2] rfl (by (try simp only [List.map_toArray, List.map_cons, List.map_nil]); first | done | rfl | (simp only [List.length_drop, List.length_take]; rfl)) ?_; (with_reducible refine (partitaref12_has.calls kj13 _ _ l2 2 true _ ?side1 ?side2 A16.out).mono ?_); (case side1 => repeat (first | exact (Kd.C_below HR2.out HB.out) | (with_reducible refine Kd.C_alloc ?_ _) | (with_reducible refine Kd.C_drewN ?_ _) | (with_reducible refine Kd.C_drew ?_))); (case side2 => exact HC2.out); rintro e w' ⟨rfl, ⟨nd, rfl⟩⟩; refine ⟨_, rfl, ?_⟩))
                  go_ret2
                  exact ⟨by first | rfl | (simp [errW_none, errW_some] <;> rfl) | (simp [*, errW_none, errW_some] <;> rfl), by repeat (first | (with_reducible first | exact HB.out | apply below_alloc | apply pw_below_drewN | apply below_drew1 | refine below_set ?_ GE234.out) | exact HB.out)⟩
                · rw [if_neg c18] at H
                  have c18b0 : decide (127 < (wrap64 (x8_13 + 5))) = false := decide_eq_false c18
                  clear c18
                  simp only [Option.some.injEq, Prod.mk.injEq] at H
                  obtain ⟨rfl, rfl⟩ := H
                  go_wp2_with (first | ((with_reducible refine gate_callee (f := 33) rfl ?_); refine goesL_ (some 43) rfl rfl Try.func33 (by kernel_rfl) rfl #[.slice A2 l2.length c2, .int .i64 2] rfl (by (try simp only [List.map_toArray, List.map_cons, List.map_nil]); first | done | rfl | (simp only [List.length_drop, List.length_take]; rfl)) ?_; (with_reducible refine (partitaref12_has.calls kj13 _ _ l2 2 true _ ?side1 ?side2 A16.out).mono ?_); (case side1 => repeat (first | exact (Kd.C_below HR2.out HB.out) | (with_reducible refine Kd.C_alloc ?_ _) | (with_reducible refine Kd.C_drewN ?_ _) | (with_reducible refine Kd.C_drew ?_))); (case side2 => exact HC2.out); rintro e w' ⟨rfl, ⟨nd, rfl⟩⟩; refine ⟨_, rfl, ?_⟩))
                  go_ret2
                  exact ⟨by first | rfl | (simp [errW_none, errW_some] <;> rfl) | (simp [*, errW_none, errW_some] <;> rfl), by repeat (first | (with_reducible first | exact HB.out | apply below_alloc | apply pw_below_drewN | apply below_drew1 | refine below_set ?_ GE234.out) | exact HB.out)⟩
              · replace c17 := Bool.eq_false_iff.mpr c17
                subst c17
                have H1 : (if x8_13 > 127 then (some (127, 0)) else (some (x8_13, 0))) = some (r1, r2) := by rw [if_neg (show ¬ (false = true) by decide)] at H; exact H
                clear H
                have H := H1
                clear H1
                by_cases c19 : x8_13 > 127
                · rw [if_pos c19] at H
                  have c19b0 : decide (127 < x8_13) = true := decide_eq_true c19
                  clear c19
                  simp only [Option.some.injEq, Prod.mk.injEq] at H
                  obtain ⟨rfl, rfl⟩ := H
                  go_wp2_with (first | ((with_reducible refine gate_callee (f := 33) rfl ?_); refine goesL_ (some 43) rfl rfl Try.func33 (by kernel_rfl) rfl #[.slice A2 l2.length c2, .int .i64 2] rfl (by (try simp only [List.map_toArray, List.map_cons, List.map_nil]); first | done | rfl | (simp only [List.length_drop, List.length_take]; rfl)) ?_; (with_reducible refine (partitaref12_has.calls kj13 _ _ l2 2 false _ ?side1 ?side2 A16.out).mono ?_); (case side1 => repeat (first | exact (Kd.C_below HR2.out HB.out) | (with_reducible refine Kd.C_alloc ?_ _) | (with_reducible refine Kd.C_drewN ?_ _) | (with_reducible refine Kd.C_drew ?_))); (case side2 => exact HC2.out); rintro e w' ⟨rfl, ⟨nd, rfl⟩⟩; refine ⟨_, rfl, ?_⟩))
                  go_ret2
                  exact ⟨by first | rfl | (simp [errW_none, errW_some] <;> rfl) | (simp [*, errW_none, errW_some] <;> rfl), by repeat (first | (with_reducible first | exact HB.out | apply below_alloc | apply pw_below_drewN | apply below_drew1 | refine below_set ?_ GE234.out) | exact HB.out)⟩
                · rw [if_neg c19] at H
                  have c19b0 : decide (127 < x8_13) = false := decide_eq_false c19
                  clear c19
                  simp only [Option.some.injEq, Prod.mk.injEq] at H
                  obtain ⟨rfl, rfl⟩ := H
                  go_wp2_with (first | ((with_reducible refine gate_callee (f := 33) rfl ?_); refine goesL_ (some 43) rfl rfl Try.func33 (by kernel_rfl) rfl #[.slice A2 l2.length c2, .int .i64 2] rfl (by (try simp only [List.map_toArray, List.map_cons, List.map_nil]); first | done | rfl | (simp only [List.length_drop, List.length_take]; rfl)) ?_; (with_reducible refine (partitaref12_has.calls kj13 _ _ l2 2 false _ ?side1 ?side2 A16.out).mono ?_); (case side1 => repeat (first | exact (Kd.C_below HR2.out HB.out) | (with_reducible refine Kd.C_alloc ?_ _) | (with_reducible refine Kd.C_drewN ?_ _) | (with_reducible refine Kd.C_drew ?_))); (case side2 => exact HC2.out); rintro e w' ⟨rfl, ⟨nd, rfl⟩⟩; refine ⟨_, rfl, ?_⟩))
                  go_ret2
                  exact ⟨by first | rfl | (simp [errW_none, errW_some] <;> rfl) | (simp [*, errW_none, errW_some] <;> rfl), by repeat (first | (with_reducible first | exact HB.out | apply below_alloc | apply pw_below_drewN | apply below_drew1 | refine below_set ?_ GE234.out) | exact HB.out)⟩
  · rw [if_neg c5] at H
    have c5b0 : (t236 == 0) = false := beq_eq_false_iff_ne.mpr c5
    have c5b1 : (t236 != 0) = true := bne_iff_ne.mpr c5
    simp only [Option.some.injEq, Prod.mk.injEq] at H
    obtain ⟨rfl, rfl⟩ := H
    go_enter Try.func18, Try.ntmps18
    go_wp2_with (first | ((with_reducible refine gate_dst (N := 4) rfl ?_); refine box_event ?hg (N := 4) ?hd (cs := #[.int .i64 a1_0, .int .i64 a1_1]) (t := 29) ?hr ?_; (case hd => rfl); (case hg => rfl); (case hr => first | (go_simp; done) | (go_simp; rfl)); intro gb234 hg w20 hbox hb; have n0_ := Aside0.mk (below_step (by repeat (first | (with_reducible first | exact HB.out | apply below_alloc | apply pw_below_drewN | apply below_drew1) | exact HB.out)) hb); have n1_ := Aside0.mk (hbox); have n2_ := Aside0.mk ((by rw [hg]; exact (below_size (by repeat (first | (with_reducible first | exact HB.out | apply below_alloc | apply pw_below_drewN | apply below_drew1) | exact HB.out))) : w.heap.size ≤ gb234)); have n3_ := Aside0.mk ((by rw [hg]; exact (below_size (by repeat (first | (with_reducible first | exact HB.out | apply below_alloc | apply pw_below_drewN | apply below_drew1) | exact HB.out))) : w.heap.size ≤ gb234)); clear HB; have HB := n0_; have BK234 := n1_; have GW234 := n2_; have GE234 := n3_; clear n0_ n1_ n2_ n3_; clear hb hbox hg; have hcz21_0 : w20.cell? ⟨gb234, 0, none⟩ = some (.int .i64 a1_0) := (blk_cell BK234.out 0).trans rfl; have hcz21_1 : w20.cell? ⟨gb234, 1, none⟩ = some (.int .i64 a1_1) := (blk_cell BK234.out 1).trans rfl; have hfz21_0 := blk_frozen BK234.out 0; have hfz21_1 := blk_frozen BK234.out 1) | ((with_reducible refine gate_callee (f := 16) rfl ?_); refine goesL_ (some 14) rfl rfl Try.func16 (by kernel_rfl) rfl #[.slice A0 l0.length c0, .agg #[.int .i64 a1_0, .int .i64 a1_1]] rfl (by (try simp only [List.map_toArray, List.map_cons, List.map_nil]); first | done | rfl | (simp only [List.length_drop, List.length_take]; rfl)) ?_; (with_reducible refine (partitaref12_Level.calls k _ _ l0 a1_0 a1_1 t235 t236 _ ?side1 ?side2 A4.out).mono ?_); (case side1 => repeat (first | exact (Kd.C_below HR0.out HB.out) | (with_reducible refine Kd.C_alloc ?_ _) | (with_reducible refine Kd.C_drewN ?_ _) | (with_reducible refine Kd.C_drew ?_))); (case side2 => exact HC0.out); rintro e w22 ⟨rfl, hb⟩; refine ⟨_, rfl, ?_⟩; have n0_ := Aside0.mk (blk_below (g := gb234) (o := .cells #[.int .i64 a1_0, .int .i64 a1_1] 29 (0, 0)) (by (with_reducible repeat (first | refine blk_drewN ?_ _ | refine blk_drew ?_ | refine blk_alloc ?_ _)); exact BK234.out) hb); have n1_ := Aside0.mk (below_step (by repeat (first | (with_reducible first | exact HB.out | apply below_alloc | apply pw_below_drewN | apply below_drew1 | refine below_set ?_ GE234.out) | exact HB.out)) hb); clear BK234; clear HB; have BK234 := n0_; have HB := n1_; clear n0_ n1_; (try clear hb); (try clear hb2); (try clear hk); (try clear hi)))
    go_ret2
    exact ⟨by first | rfl | (simp [errW_none, errW_some] <;> rfl) | (simp [*, errW_none, errW_some] <;> rfl), by repeat (first | (with_reducible first | exact HB.out | apply below_alloc | apply pw_below_drewN | apply below_drew1 | refine below_set ?_ GE234.out) | exact HB.out)⟩

end Go.Proofs.Ytiifeheejapegaa.Q
