-- Written by a program of this session (myprint.py), function by function.
import Derived.Test.YtiifeheejapegaaQ0
import Derived.Test.YtiifeheejapegaaQ2
import Derived.Test.YtiifeheejapegaaQ7
import Derived.Test.YtiifeheejapegaaQ8
import Derived.Test.YtiifeheejapegaaQ10
import Derived.BigRegion
import Derived.ChangeAlike
import Derived.IntWalk
import Derived.RegionTactic
import Derived.Test.YtiifeheejapegaaDP2
import Derived.Test.YtiifeheejapegaaRefRatio
namespace Go.Proofs.Ytiifeheejapegaa.Q
open Go.RowKit Go.Proofs.YtiifeheejapegaaW.PrintWords Go.Proofs.YtiifeheejapegaaW.PrintLast Go.Proofs.YtiifeheejapegaaW.PrintMore
attribute [local go_sem] max2_int min2_int max_two min_two max_three min_three max_four min_four   -- for this text's walks alone
set_option linter.unusedVariables false
set_option linter.unusedSimpArgs false

/-! ### partitaref12_Level: function 16 -/
/-- The last index at which p holds; n. -/
def lastI (p : S36 → Bool) : List S36 → Int → Int → Int
  | [], _, n => n
  | d :: l, i, n => lastI p l (i + 1) (if p d = true then i else n)
theorem lastI_step (p : S36 → Bool) (l : List S36) (k : Nat) (n : Int) (h : k < l.length) : lastI p (l.drop k) k n = lastI p (l.drop (k + 1)) ((k + 1 : Nat) : Int) (if p (rd_T36 l k) = true then (k : Int) else n) := by
  rw [List.drop_eq_getElem_cons h]
  have e : rd_T36 l (k : Int) = l[k] := by simp [rd_T36, List.getD, h]
  rw [e]
  rfl
theorem lastI_bd (p : S36 → Bool) : ∀ (l : List S36) (i n : Int), n < i → -1 ≤ n → 0 ≤ i → -1 ≤ lastI p l i n ∧ lastI p l i n < i + l.length := by
  intro l
  induction l with
  | nil => intro i n h1 h2 h3; simp [lastI]; omega
  | cons d l ih =>
    intro i n h1 h2 h3
    simp only [lastI, List.length_cons]
    have := ih (i + 1) (if p d = true then i else n) (by split <;> omega) (by split <;> omega) (by omega)
    omega
def i64B (n : Int) : Bool := decide (-9223372036854775808 ≤ n) && decide (n ≤ 9223372036854775807)
theorem i64B_iff {n : Int} : i64B n = true ↔ i64 n := by unfold i64B i64; simp
def in36B (d : S36) : Bool := i64B d.f0.f0 && (i64B d.f0.f1 && i64B d.f1)
def leB (a b : Int) (d : S36) : Bool := decide (cmpI d.f0.f0 d.f0.f1 a b ≤ 0)
def refBody (k : Nat) (l : List S36) (a b : Int) : Option (Int × Int) :=
  let n := lastI (leB a b) l 0 (-1)
  if n < 0 then some (80, 0)
  else
    let x := rd_T36 l n
    if x.f2 = false ∨ n + 1 = l.length then some (x.f1, 0)
    else
      let y := rd_T36 l (n + 1)
      if x.f1 ≤ y.f1 then (partitaref12_part.f k x.f0.f0 x.f0.f1 a b y.f0.f0 y.f0.f1 (wrap64 (y.f1 - x.f1)) false).bind fun k => some (wrap64 (x.f1 + k), 0)
      else (partitaref12_part.f k x.f0.f0 x.f0.f1 a b y.f0.f0 y.f0.f1 (wrap64 (x.f1 - y.f1)) true).bind fun k => some (wrap64 (x.f1 - k), 0)
def partitaref12_Level.f (k : Nat) (l : List S36) (a b : Int) : Option (Int × Int) :=
  if l.length ≤ 1000 ∧ l.all in36B = true ∧ i64B a = true ∧ i64B b = true then
    (partitaref12_Check.f k l).bind fun c => if c.2 = 0 then (if rightB a b = true ∧ 0 ≤ a then refBody k l a b else some (0, 2)) else some (0, c.2)
  else none
theorem partitaref12_Level.mono : ∀ l a b k, LeO (partitaref12_Level.f k l a b) (partitaref12_Level.f (k + 1) l a b) := by
  intro l a b k
  unfold partitaref12_Level.f refBody
  repeat' first
      | (with_reducible exact partitaref12_Check.mono _ _)
      | (with_reducible exact partitaref12_part.mono _ _ _ _ _ _ _ _ _)
      | (with_reducible exact LeO.refl _)
      | (with_reducible exact LeO.none _)
      | (with_reducible refine LeO.ite ?_ ?_)
      | (with_reducible refine LeO.bind ?_ (fun _ => ?_))
      | exact LeO.none _
      | refine LeO.ite ?_ ?_
      | refine LeO.bind ?_ (fun _ => ?_)
theorem refRight_any (a b : Int) (x : Bool) (w : World) (ha : i64 a) (hb : i64 b) (h : rightB a b = x) :
    Calls Try.prog 24 #[.agg #[.int .i64 a, .int .i64 b]] w fun e w' => e = .returned (.bool x) ∧ Below w.heap.size w w' :=
  partitaref01_Right.calls 1 a b x w (h ▸ refRight ha hb 0)
theorem refCompare_any (a b c d : Int) (w : World) (ha : i64 a) (hb : i64 b) (hc : i64 c) (hd : i64 d) :
    Calls Try.prog 25 #[.agg #[.int .i64 a, .int .i64 b], .agg #[.int .i64 c, .int .i64 d]] w fun e w' => e = .returned (.int .i64 (cmpI a b c d)) ∧ Below w.heap.size w w' :=
  partitaref01_Compare.calls 1 a b c d _ w (refCompare ha hb hc hd 0)
theorem cell_alloc_new_ {W : World} {a : Addr} {v : Value} (h : W.cell? a = some v) (o : Obj) : (W.alloc o).cell? a = some v := (World.cell?_alloc_lt _ _ _ (World.block_lt_of_cell? W _ h)).trans h
set_option maxHeartbeats 4000000 in
set_option maxRecDepth 100000 in
theorem partitaref12_Level.calls (k : Nat) (A0 : Option Addr) (c0 : Nat) (l0 : List S36) (a b : Int) (r1 r2 : Int) (w : World) (hr : Kd.C k36 w A0 l0.length l0) (hc : l0.length ≤ c0) (h : partitaref12_Level.f k l0 a b = some (r1, r2)) :
    Calls Try.prog 16 #[.slice A0 l0.length c0, .agg #[.int .i64 a, .int .i64 b]] w fun e w' => e = .returned (.tuple #[.int .i64 r1, .int .i64 r2]) ∧ Below w.heap.size w w' := by
  unfold partitaref12_Level.f at h
  split at h
  next hcond =>
    obtain ⟨hlen, hall, hia, hib⟩ := hcond
    have HI := Aside0.mk (And.intro (i64B_iff.1 hia) (i64B_iff.1 hib))
    have HALL := Aside0.mk hall
    clear hia hib hall
    obtain ⟨⟨c1, c2⟩, hC, h⟩ := Option.bind_eq_some_iff.mp h
    have HC := Aside0.mk (fun W (hb : Below w.heap.size w W) => partitaref12_Check.calls k A0 c0 l0 c1 c2 W (Kd.C_below hr hb) hc hC)
    have HR := Aside0.mk hr
    have HB := Aside0.mk (Below.refl w.heap.size w)
    have hu := Try.underlying29
    have hu36 := Try.underlying36
    clear hC hr
    by_cases hc2 : c2 = 0
    · simp only [hc2, if_true] at h
      subst hc2
      by_cases hp : rightB a b = true
      · have HP := Aside0.mk (fun W => refRight_any a b true W HI.out.1 HI.out.2 hp)
        by_cases hp2 : 0 ≤ a
        · rw [if_pos ⟨hp, hp2⟩] at h
          have a0 : decide (a < 0) = false := decide_eq_false (by omega)
          have HH := Aside0.mk h
          clear h hp hp2
          generalize hr : lastI (leB a b) l0 0 (-1) = r at *
          have HRR := Aside0.mk hr
          have HRS := Aside0.mk hr
          have hbd := lastI_bd (leB a b) l0 0 (-1) (by omega) (by omega) (by omega)
          rw [hr] at hbd
          have HBD := Aside0.mk hbd
          clear hbd hr
          go_enter Try.func16, Try.ntmps16
          go_wp2_with (first
            | (go_at_call 14; (with_reducible refine (HC.out _ ?hb1).mono ?_); (case hb1 => (repeat (first | exact HB.out | apply below_alloc))); rintro e w1 ⟨rfl, hb⟩; have B0 := Aside0.mk (blk_below (blk_new w (.cells #[.int .i64 a, .int .i64 b] 29)) hb); have hc0 : w1.cell? ⟨w.heap.size, 0, none⟩ = some (.int .i64 a) := (blk_cell B0.out 0).trans rfl; have hc1 : w1.cell? ⟨w.heap.size, 1, none⟩ = some (.int .i64 b) := (blk_cell B0.out 1).trans rfl; have HB1 := Aside0.mk ((by repeat (first | exact HB.out | apply below_alloc) : Below w.heap.size w _).trans (hb.mono (by simp))); clear hb)
            | (go_at_call 24; (with_reducible refine (HP.out _).mono ?_); rintro e w2 ⟨rfl, hb⟩; have B2 := Aside0.mk (blk_below B0.out hb); clear hc0 hc1; have hc0 : w2.cell? ⟨w.heap.size, 0, none⟩ = some (.int .i64 a) := (blk_cell B2.out 0).trans rfl; have hc1 : w2.cell? ⟨w.heap.size, 1, none⟩ = some (.int .i64 b) := (blk_cell B2.out 1).trans rfl; have HB2 := Aside0.mk (HB1.out.trans (hb.mono HB1.out.size)); clear hb))
          clear hc0 hc1
          go_loopw [8, 9] (fun x i wr => ∃ (q : Nat) (n : Int), i = .int .i64 q ∧ x = .int .i64 n ∧ q ≤ l0.length ∧ Aside0 (lastI (leB a b) (l0.drop q) q n = r) ∧ Aside0 (wr.heap[w.heap.size]? = some (.cells #[.int .i64 a, .int .i64 b] 29 (0, 0))) ∧ Aside0 (Below w.heap.size w wr)) (fun _ i _ => l0.length - (intOf i).toNat)
          case atStart => exact ⟨0, -1, rfl, rfl, by omega, HRR, B2, HB2⟩
          case round =>
            obtain ⟨q, n, rfl, rfl, hq, HT, B3, HB3⟩ := hrel
            clear HRR B2 HB2 B0 HB1
            have hc0 : wr.cell? ⟨w.heap.size, 0, none⟩ = some (.int .i64 a) := (blk_cell B3.out 0).trans rfl
            have hc1 : wr.cell? ⟨w.heap.size, 1, none⟩ = some (.int .i64 b) := (blk_cell B3.out 1).trans rfl
            by_cases hlt : q < l0.length
            · have h2 := HT.out
              rw [lastI_step _ l0 q n hlt] at h2
              have H2 := Aside0.mk h2
              obtain ⟨ad, rfl, x0, x1, x2, x3⟩ := at_T36 HR.out (q : Int) (by omega) (by omega)
              have hmem := rd_mem (l := l0) (i := (q : Int)) (by omega) (by omega)
              have hin := List.all_eq_true.1 HALL.out _ hmem
              rw [Int.toNat_natCast] at x0 x1 x2 x3
              generalize rd_T36 l0 (q : Int) = d at *
              obtain ⟨⟨da, db⟩, dl, dh⟩ := d
              have hin2 : i64 da ∧ i64 db := by simp only [in36B, Bool.and_eq_true] at hin; exact ⟨i64B_iff.1 hin.1, i64B_iff.1 hin.2.1⟩
              have M := Aside0.mk (fun W => refCompare_any da db a b W hin2.1 hin2.2 HI.out.1 HI.out.2)
              have y0 := (HB3.out.cell (World.block_lt_of_cell? w _ x0)).trans x0
              have y1 := (HB3.out.cell (World.block_lt_of_cell? w _ x1)).trans x1
              have hltd : decide (q < l0.length) = true := by simp; omega
              have p1 : (0 : Int) ≤ q := by omega
              have p2 : (q : Int) < l0.length := by omega
              have hlt3 := blk_lt B3.out
              clear h2 HT x0 x1 x2 x3 hin hin2 hmem
              have H3 : Aside0 (lastI (leB a b) (l0.drop (q + 1)) ((q + 1 : Nat) : Int) (if decide (cmpI da db a b ≤ 0) = true then (q : Int) else n) = r) := H2
              clear H2
              generalize cmpI da db a b = cv at *
              by_cases hv : cv ≤ 0
              · have dv : decide (cv ≤ 0) = true := decide_eq_true hv
                rw [dv, if_pos rfl] at H3
                clear hv
                go_wp2
                go_region_held3 (fun w' => w'.cell? ⟨w.heap.size, 0, none⟩ = some (.int .i64 a) ∧ w'.cell? ⟨w.heap.size, 1, none⟩ = some (.int .i64 b) ∧ w'.cell? (ad.add (q * 4)) = some (.int .i64 da) ∧ w'.cell? ⟨(ad.add (q * 4)).block, (ad.add (q * 4)).off + 1, none⟩ = some (.int .i64 db)) (first | go_keep | (go_split_ands; exact ⟨(hb4.cell (p := ⟨_, _, none⟩) (by assumption)).trans (by assumption), (hb4.cell (p := ⟨_, _, none⟩) (by assumption)).trans (by assumption), (hb4.cell (World.block_lt_of_cell? _ _ y0)).trans (by assumption), (hb4.cell (World.block_lt_of_cell? _ _ y1)).trans (by assumption)⟩)) ((go_at_call 25; (with_reducible refine (M.out _).mono ?_); rintro e w4 ⟨rfl, hb4⟩; have HB4 := Aside0.mk hb4; have z0 : w4.cell? ⟨w.heap.size, 0, none⟩ = some (.int .i64 a) := (hb4.cell (p := ⟨w.heap.size, 0, none⟩) hlt3).trans hc0; have z1 : w4.cell? ⟨w.heap.size, 1, none⟩ = some (.int .i64 b) := (hb4.cell (p := ⟨w.heap.size, 1, none⟩) hlt3).trans hc1; have z2 := (hb4.cell (World.block_lt_of_cell? wr _ y0)).trans y0; have z3 := (hb4.cell (World.block_lt_of_cell? wr _ y1)).trans y1; clear hb4))
                go_wp2
                go_roundw
                case rel => exact ⟨q + 1, q, by go_num, rfl, by omega, H3, ⟨blk_below (blk_drew B3.out) HB4.out⟩, ⟨(below_drew1 HB3.out).trans (HB4.out.mono (by simp; exact HB3.out.size))⟩⟩
                case measure => simp [intOf]; omega
              · have dv : decide (cv ≤ 0) = false := decide_eq_false hv
                rw [dv, if_neg (by decide)] at H3
                clear hv
                go_wp2
                go_region_held3 (fun w' => w'.cell? ⟨w.heap.size, 0, none⟩ = some (.int .i64 a) ∧ w'.cell? ⟨w.heap.size, 1, none⟩ = some (.int .i64 b) ∧ w'.cell? (ad.add (q * 4)) = some (.int .i64 da) ∧ w'.cell? ⟨(ad.add (q * 4)).block, (ad.add (q * 4)).off + 1, none⟩ = some (.int .i64 db)) (first | go_keep | (go_split_ands; exact ⟨(hb4.cell (p := ⟨_, _, none⟩) (by assumption)).trans (by assumption), (hb4.cell (p := ⟨_, _, none⟩) (by assumption)).trans (by assumption), (hb4.cell (World.block_lt_of_cell? _ _ y0)).trans (by assumption), (hb4.cell (World.block_lt_of_cell? _ _ y1)).trans (by assumption)⟩)) ((go_at_call 25; (with_reducible refine (M.out _).mono ?_); rintro e w4 ⟨rfl, hb4⟩; have HB4 := Aside0.mk hb4; have z0 : w4.cell? ⟨w.heap.size, 0, none⟩ = some (.int .i64 a) := (hb4.cell (p := ⟨w.heap.size, 0, none⟩) hlt3).trans hc0; have z1 : w4.cell? ⟨w.heap.size, 1, none⟩ = some (.int .i64 b) := (hb4.cell (p := ⟨w.heap.size, 1, none⟩) hlt3).trans hc1; have z2 := (hb4.cell (World.block_lt_of_cell? wr _ y0)).trans y0; have z3 := (hb4.cell (World.block_lt_of_cell? wr _ y1)).trans y1; clear hb4))
                go_wp2
                go_roundw
                case rel => exact ⟨q + 1, n, by go_num, rfl, by omega, H3, ⟨blk_below (blk_drew B3.out) HB4.out⟩, ⟨(below_drew1 HB3.out).trans (HB4.out.mono (by simp; exact HB3.out.size))⟩⟩
                case measure => simp [intOf]; omega
            · have e : q = l0.length := by omega
              subst e
              have h2 := HT.out
              rw [List.drop_length] at h2
              have e2 : n = r := h2
              subst e2
              clear h2 HT
              have hltd : decide (l0.length < l0.length) = false := by simp
              have h9 := HH.out
              unfold refBody at h9
              by_cases n1 : n < 0
              · have e1 : decide (n < 0) = true := decide_eq_true n1
                obtain ⟨rfl, rfl⟩ : (80 : Int) = r1 ∧ (0 : Int) = r2 := by
                  simp only [HRS.out] at h9
                  rw [if_pos n1] at h9; simpa using h9
                clear n1 h9
                go_wp2
                go_ret2
                exact ⟨rfl, HB3.out⟩
              · have e1 : decide (n < 0) = false := decide_eq_false n1
                have hb2 := HBD.out.2
                obtain ⟨m, rfl⟩ : ∃ m : Nat, n = m := ⟨n.toNat, by omega⟩
                have p2 : (m : Int) < l0.length := by omega
                have p1 : (0 : Int) ≤ m := by omega
                obtain ⟨ad, rfl, x0, x1, x2, x3⟩ := at_T36 HR.out (m : Int) p1 p2
                rw [Int.toNat_natCast] at x0 x1 x2 x3
                simp only [HRS.out] at h9
                rw [if_neg n1] at h9
                have y0 := (HB3.out.cell (World.block_lt_of_cell? w _ x0)).trans x0
                have y1 := (HB3.out.cell (World.block_lt_of_cell? w _ x1)).trans x1
                have y2 := (HB3.out.cell (World.block_lt_of_cell? w _ x2)).trans x2
                have y3 := (HB3.out.cell (World.block_lt_of_cell? w _ x3)).trans x3
                generalize hx : rd_T36 l0 (m : Int) = x at y0 y1 y2 y3 h9
                obtain ⟨⟨xa, xb⟩, xl, xh⟩ := x
                have hlt3 := blk_lt B3.out
                have hlt4 : w.heap.size < wr.heap.size + 1 + 1 := by omega
                clear x0 x1 x2 x3 hx n1 hb2
                cases xh
                · rw [if_pos (.inl rfl)] at h9
                  obtain ⟨rfl, rfl⟩ : xl = r1 ∧ (0 : Int) = r2 := by simpa using h9
                  clear h9
                  go_wp2
                  go_ret2
                  exact ⟨rfl, by repeat (first | exact HB3.out | apply below_alloc | apply pw_below_drewN | apply below_drew1)⟩
                · by_cases hlast : (m : Int) + 1 = l0.length
                  · rw [if_pos (.inr hlast)] at h9
                    obtain ⟨rfl, rfl⟩ : xl = r1 ∧ (0 : Int) = r2 := by simpa using h9
                    have el : ((m : Int) + 1 == (l0.length : Int)) = true := beq_iff_eq.mpr hlast
                    clear h9 hlast
                    go_wp2
                    go_ret2
                    exact ⟨rfl, by repeat (first | exact HB3.out | apply below_alloc | apply pw_below_drewN | apply below_drew1)⟩
                  · have el : ((m : Int) + 1 == (l0.length : Int)) = false := beq_eq_false_iff_ne.mpr hlast
                    have p3 : (m : Int) + 1 < l0.length := by omega
                    have p4 : (0 : Int) ≤ (m : Int) + 1 := by omega
                    rw [if_neg (by simp; exact hlast)] at h9
                    obtain ⟨ad', ha, x0, x1, x2, x3⟩ := at_T36 HR.out ((m : Int) + 1) p4 p3
                    cases ha
                    rw [show ((m : Int) + 1).toNat = m + 1 by omega] at x0 x1 x2 x3
                    have v0 := (HB3.out.cell (World.block_lt_of_cell? w _ x0)).trans x0
                    have v1 := (HB3.out.cell (World.block_lt_of_cell? w _ x1)).trans x1
                    have v2 := (HB3.out.cell (World.block_lt_of_cell? w _ x2)).trans x2
                    have v3 := (HB3.out.cell (World.block_lt_of_cell? w _ x3)).trans x3
                    generalize hy : rd_T36 l0 ((m : Int) + 1) = y at v0 v1 v2 v3 h9
                    obtain ⟨⟨ya, yb⟩, yl, yh⟩ := y
                    clear x0 x1 x2 x3 hy hlast
                    have V0 := cell_alloc_new_ v0
                    have V1 := cell_alloc_new_ v1
                    have V2 := cell_alloc_new_ v2
                    have V3 := cell_alloc_new_ v3
                    have HL : (if xl ≤ yl then (partitaref12_part.f k xa xb a b ya yb (wrap64 (yl - xl)) false).bind fun k => some (wrap64 (xl + k), (0 : Int)) else (partitaref12_part.f k xa xb a b ya yb (wrap64 (xl - yl)) true).bind fun k => some (wrap64 (xl - k), 0)) = some (r1, r2) := h9
                    clear h9 v0 v1 v2 v3
                    by_cases h4 : xl ≤ yl
                    · have d4 : decide (xl ≤ yl) = true := decide_eq_true h4
                      rw [if_pos h4] at HL
                      obtain ⟨q, hq, hr⟩ := Option.bind_eq_some_iff.mp HL
                      rw [← i64_w] at hq
                      have HQ := Aside0.mk (fun W => partitaref12_part.calls k xa xb a b ya yb _ _ q W hq)
                      obtain ⟨rfl, rfl⟩ : wrap64 (xl + q) = r1 ∧ (0 : Int) = r2 := by simpa using hr
                      clear HL hr hq h4
                      go_wp2
                      go_region_held3 (fun w' => w'.cell? ⟨w.heap.size, 0, none⟩ = some (.int .i64 a) ∧ w'.cell? ⟨w.heap.size, 1, none⟩ = some (.int .i64 b) ∧ w'.cell? ⟨wr.heap.size, 0, none⟩ = some (.int .i64 xa) ∧ w'.cell? ⟨wr.heap.size, 1, none⟩ = some (.int .i64 xb) ∧ w'.cell? ⟨wr.heap.size, 2, none⟩ = some (.int .i64 xl) ∧ w'.cell? ⟨wr.heap.size, 3, none⟩ = some (.bool true) ∧ w'.cell? ⟨wr.heap.size + 1, 0, none⟩ = some (.int .i64 ya) ∧ w'.cell? ⟨wr.heap.size + 1, 1, none⟩ = some (.int .i64 yb) ∧ w'.cell? ⟨wr.heap.size + 1, 2, none⟩ = some (.int .i64 yl) ∧ w'.cell? ⟨wr.heap.size + 1, 3, none⟩ = some (.bool yh)) (go_keep) ((go_at_call 29; (with_reducible refine (HQ.out _).mono ?_); rintro e w4 ⟨rfl, hb4⟩; obtain ⟨hc9, hf9⟩ := bcell hb4; have BX := blk_below (blk_drew (blk_alloc (blk_new wr (.cells #[.int .i64 xa, .int .i64 xb, .int .i64 xl, .bool true] 36)) _)) hb4; have z0 : w4.cell? ⟨wr.heap.size, 0, none⟩ = some (.int .i64 xa) := (blk_cell BX 0).trans rfl; have z1 : w4.cell? ⟨wr.heap.size, 1, none⟩ = some (.int .i64 xb) := (blk_cell BX 1).trans rfl; have z2 : w4.cell? ⟨wr.heap.size, 2, none⟩ = some (.int .i64 xl) := (blk_cell BX 2).trans rfl; have z3 : w4.cell? ⟨wr.heap.size, 3, none⟩ = some (.bool true) := (blk_cell BX 3).trans rfl; clear BX))
                      go_wp2
                      go_ret2
                      exact ⟨by first | rfl | (simp only [i64_w]; done) | (simp only [i64_w]; rfl), (by repeat (first | exact HB3.out | apply below_alloc | apply pw_below_drewN | apply below_drew1) : Below w.heap.size w _).trans (hb4.mono (by simp; omega))⟩
                    · have d4 : decide (xl ≤ yl) = false := decide_eq_false h4
                      rw [if_neg h4] at HL
                      obtain ⟨q, hq, hr⟩ := Option.bind_eq_some_iff.mp HL
                      rw [← i64_w] at hq
                      have HQ := Aside0.mk (fun W => partitaref12_part.calls k xa xb a b ya yb _ _ q W hq)
                      obtain ⟨rfl, rfl⟩ : wrap64 (xl - q) = r1 ∧ (0 : Int) = r2 := by simpa using hr
                      clear HL hr hq h4
                      go_wp2
                      go_region_held3 (fun w' => w'.cell? ⟨w.heap.size, 0, none⟩ = some (.int .i64 a) ∧ w'.cell? ⟨w.heap.size, 1, none⟩ = some (.int .i64 b) ∧ w'.cell? ⟨wr.heap.size, 0, none⟩ = some (.int .i64 xa) ∧ w'.cell? ⟨wr.heap.size, 1, none⟩ = some (.int .i64 xb) ∧ w'.cell? ⟨wr.heap.size, 2, none⟩ = some (.int .i64 xl) ∧ w'.cell? ⟨wr.heap.size, 3, none⟩ = some (.bool true) ∧ w'.cell? ⟨wr.heap.size + 1, 0, none⟩ = some (.int .i64 ya) ∧ w'.cell? ⟨wr.heap.size + 1, 1, none⟩ = some (.int .i64 yb) ∧ w'.cell? ⟨wr.heap.size + 1, 2, none⟩ = some (.int .i64 yl) ∧ w'.cell? ⟨wr.heap.size + 1, 3, none⟩ = some (.bool yh)) (go_keep) ((go_at_call 29; (with_reducible refine (HQ.out _).mono ?_); rintro e w4 ⟨rfl, hb4⟩; obtain ⟨hc9, hf9⟩ := bcell hb4; have BX := blk_below (blk_drew (blk_alloc (blk_new wr (.cells #[.int .i64 xa, .int .i64 xb, .int .i64 xl, .bool true] 36)) _)) hb4; have z0 : w4.cell? ⟨wr.heap.size, 0, none⟩ = some (.int .i64 xa) := (blk_cell BX 0).trans rfl; have z1 : w4.cell? ⟨wr.heap.size, 1, none⟩ = some (.int .i64 xb) := (blk_cell BX 1).trans rfl; have z2 : w4.cell? ⟨wr.heap.size, 2, none⟩ = some (.int .i64 xl) := (blk_cell BX 2).trans rfl; have z3 : w4.cell? ⟨wr.heap.size, 3, none⟩ = some (.bool true) := (blk_cell BX 3).trans rfl; clear BX))
                      go_wp2
                      go_ret2
                      exact ⟨by first | rfl | (simp only [i64_w]; done) | (simp only [i64_w]; rfl), (by repeat (first | exact HB3.out | apply below_alloc | apply pw_below_drewN | apply below_drew1) : Below w.heap.size w _).trans (hb4.mono (by simp; omega))⟩
        · rw [if_neg (by simp [hp2])] at h
          obtain ⟨rfl, rfl⟩ : (0 : Int) = r1 ∧ (2 : Int) = r2 := by simpa using h
          have a0 : decide (a < 0) = true := decide_eq_true (by omega)
          clear h hp hp2
          go_enter Try.func16, Try.ntmps16
          go_wp2_with (first
            | (go_at_call 14; (with_reducible refine (HC.out _ ?hb1).mono ?_); (case hb1 => (repeat (first | exact HB.out | apply below_alloc))); rintro e w1 ⟨rfl, hb⟩; have B0 := Aside0.mk (blk_below (blk_new w (.cells #[.int .i64 a, .int .i64 b] 29)) hb); have hc0 : w1.cell? ⟨w.heap.size, 0, none⟩ = some (.int .i64 a) := (blk_cell B0.out 0).trans rfl; have hc1 : w1.cell? ⟨w.heap.size, 1, none⟩ = some (.int .i64 b) := (blk_cell B0.out 1).trans rfl; have HB1 := Aside0.mk ((by repeat (first | exact HB.out | apply below_alloc) : Below w.heap.size w _).trans (hb.mono (by simp))); clear hb)
            | (go_at_call 24; (with_reducible refine (HP.out _).mono ?_); rintro e w2 ⟨rfl, hb⟩; have B2 := Aside0.mk (blk_below B0.out hb); clear hc0 hc1; have hc0 : w2.cell? ⟨w.heap.size, 0, none⟩ = some (.int .i64 a) := (blk_cell B2.out 0).trans rfl; have hc1 : w2.cell? ⟨w.heap.size, 1, none⟩ = some (.int .i64 b) := (blk_cell B2.out 1).trans rfl; have HB2 := Aside0.mk (HB1.out.trans (hb.mono HB1.out.size)); clear hb))
          go_ret2
          exact ⟨rfl, HB2.out⟩
      · rw [if_neg (by simp [hp])] at h
        obtain ⟨rfl, rfl⟩ : (0 : Int) = r1 ∧ (2 : Int) = r2 := by simpa using h
        have HP := Aside0.mk (fun W => refRight_any a b false W HI.out.1 HI.out.2 (Bool.eq_false_iff.mpr hp))
        clear h hp
        go_enter Try.func16, Try.ntmps16
        go_wp2_with (first
          | (go_at_call 14; (with_reducible refine (HC.out _ ?hb1).mono ?_); (case hb1 => (repeat (first | exact HB.out | apply below_alloc))); rintro e w1 ⟨rfl, hb⟩; have B0 := Aside0.mk (blk_below (blk_new w (.cells #[.int .i64 a, .int .i64 b] 29)) hb); have hc0 : w1.cell? ⟨w.heap.size, 0, none⟩ = some (.int .i64 a) := (blk_cell B0.out 0).trans rfl; have hc1 : w1.cell? ⟨w.heap.size, 1, none⟩ = some (.int .i64 b) := (blk_cell B0.out 1).trans rfl; have HB1 := Aside0.mk ((by repeat (first | exact HB.out | apply below_alloc) : Below w.heap.size w _).trans (hb.mono (by simp))); clear hb)
          | (go_at_call 24; (with_reducible refine (HP.out _).mono ?_); rintro e w2 ⟨rfl, hb⟩; have HB2 := Aside0.mk (HB1.out.trans (hb.mono HB1.out.size)); clear hb))
        go_ret2
        exact ⟨rfl, HB2.out⟩
    · simp only [hc2, if_false] at h
      obtain ⟨rfl, rfl⟩ : (0 : Int) = r1 ∧ c2 = r2 := by simpa using h
      have e2 : (c2 != 0) = true := bne_iff_ne.mpr hc2
      clear hc2 h
      go_enter Try.func16, Try.ntmps16
      go_wp2_with (go_at_call 14; (with_reducible refine (HC.out _ ?hb1).mono ?_); (case hb1 => (repeat (first | exact HB.out | apply below_alloc))); rintro e w1 ⟨rfl, hb⟩)
      go_ret2
      exact ⟨rfl, (by repeat (first | exact HB.out | apply below_alloc) : Below w.heap.size w _).trans (hb.mono (by simp))⟩
  next => cases h

end Go.Proofs.Ytiifeheejapegaa.Q
