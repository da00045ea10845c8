/- MeterTells: the walk. No conditions. -/
import Derived.Test.YtbncdlnnjhadgaaMTF
import Derived.Test.YtbncdlnnjhadgaaQ11
import Derived.Deep.RegionHeld3
import Derived.Deep.QuietTactic
import Derived.Deep.CutBlock
import Derived.WalkKit
import Derived.Shelf.Abstract
import Derived.IntWalk
set_option linter.unusedVariables false
set_option linter.unusedSimpArgs false
namespace Go.Proofs.Ytbncdlnnjhadgaa.Q
open Go.RowKit Go.Proofs.YtbncdlnnjhadgaaW.PrintWords Go.Proofs.YtbncdlnnjhadgaaW.PrintMore
set_option maxHeartbeats 8000000 in
set_option maxRecDepth 100000 in
theorem tells_walk (x b : S24) (A0 A1 : Option Addr) (c0 c1 : Nat) (g : Bool) (y z : S26) (k n o : Int) (w : World)
    (hr0 : Kd.C (Kd.int .i64) w A0 x.f2.length x.f2) (hc0 : x.f2.length ≤ c0) (hr1 : Kd.C (Kd.int .i64) w A1 b.f2.length b.f2) (hc1 : b.f2.length ≤ c1)
    (own bn : S24) (K : Nat) (ho : partitalaw05_Meter.f K x.f0 x.f1 x.f2 g = some (own.f0, own.f1, own.f2)) (hb2 : partitalaw05_Meter.f K b.f0 b.f1 b.f2 (!g) = some (bn.f0, bn.f1, bn.f2))
    (WX : okM x ∧ okM b ∧ okM own ∧ okM bn) (WY : ok2 y ∧ ok2 z)
    (p1 p2 : S26) (k1 k2 : Nat) (hp1 : partitalaw05_place.f k1 own.f0 own.f1 own.f2 k o = some (p1.f0, p1.f1)) (hp2 : partitalaw05_place.f k2 own.f0 own.f1 own.f2 n o = some (p2.f0, p2.f1)) (WP : ok2 p1 ∧ ok2 p2) :
    Calls Try.prog 3 #[.agg #[.int .i64 x.f0, .int .i64 x.f1, .slice A0 x.f2.length c0], .agg #[.int .i64 b.f0, .int .i64 b.f1, .slice A1 b.f2.length c1], .bool g, .agg #[.int .i64 y.f0, .int .i64 y.f1], .agg #[.int .i64 z.f0, .int .i64 z.f1], .int .i64 k, .int .i64 n, .int .i64 o] w fun e w' => e = .returned (.bool true) ∧ Below w.heap.size w w' := by
 have hu24 := Try.underlying24
 have hu26 := Try.underlying26
 have HR0 := Aside0.mk hr0
 have HR1 := Aside0.mk hr1
 have HC0 := Aside0.mk hc0
 have HC1 := Aside0.mk hc1
 have HO := Aside0.mk ho
 have HB2 := Aside0.mk hb2
 have HP1 := Aside0.mk hp1
 have HP2 := Aside0.mk hp2
 have WX' := Aside0.mk WX
 have WY' := Aside0.mk WY
 have WP' := Aside0.mk WP
 clear hr0 hr1 hc0 hc1 ho hb2 hp1 hp2 WX WY WP
 go_enter Try.func3, Try.ntmps3
 go_upto_region 1 with (fail)
 obtain ⟨F8, F9, F11, F12, FB⟩ := four_new w #[.int .i64 x.f0, .int .i64 x.f1, .slice A0 x.f2.length c0] #[.int .i64 b.f0, .int .i64 b.f1, .slice A1 b.f2.length c1] #[.int .i64 y.f0, .int .i64 y.f1] #[.int .i64 z.f0, .int .i64 z.f1]
 generalize ((((w.alloc (.cells #[.int .i64 x.f0, .int .i64 x.f1, .slice A0 x.f2.length c0] 24)).alloc (.cells #[.int .i64 b.f0, .int .i64 b.f1, .slice A1 b.f2.length c1] 24)).alloc (.cells #[.int .i64 y.f0, .int .i64 y.f1] 26)).alloc (.cells #[.int .i64 z.f0, .int .i64 z.f1] 26)) = W0 at F8 F9 F11 F12 FB ⊢
 have HB0 := Aside0.mk FB
 generalize w.heap.size + 1 + 1 + 1 = e12 at F12 ⊢
 generalize w.heap.size + 1 + 1 = e11 at F11 ⊢
 generalize w.heap.size + 1 = e9 at F9 ⊢
 obtain ⟨e8, he8⟩ : ∃ e8, w.heap.size = e8 := ⟨_, rfl⟩
 have HE8 := Aside0.mk he8
 rw [he8] at F8
 simp only [he8]
 have G8 := Aside0.mk F8
 have G9 := Aside0.mk F9
 have G11 := Aside0.mk F11
 have G12 := Aside0.mk F12
 clear F8 F9 F11 F12 FB he8
 go_wp2_with (fail)
 refine (partitalaw05_awake.calls 0 true _ rfl).mono ?_
 rintro e W1 ⟨rfl, hb⟩
 have HB1 := Aside0.mk (below_step HB0.out hb)
 replace G8 := Aside0.mk (blk_below G8.out hb)
 replace G9 := Aside0.mk (blk_below G9.out hb)
 replace G11 := Aside0.mk (blk_below G11.out hb)
 replace G12 := Aside0.mk (blk_below G12.out hb)
 clear hb
 have a0_ : W1.cell? ⟨e8, 0, none⟩ = some (.int .i64 x.f0) := (blk_cell G8.out 0).trans rfl
 have a1_ : W1.cell? ⟨e8, 1, none⟩ = some (.int .i64 x.f1) := (blk_cell G8.out 1).trans rfl
 have a2_ : W1.cell? ⟨e8, 2, none⟩ = some (.slice A0 x.f2.length c0) := (blk_cell G8.out 2).trans rfl
 go_wp2_with (fail)
 refine (partitalaw05_Meter.calls K x.f0 x.f1 A0 c0 x.f2 g _ _ _ _ (Kd.C_below HR0.out HB1.out) HC0.out HO.out).mono ?_
 rintro e W2 ⟨v2, rfl, hR, hb⟩
 obtain ⟨Ao, co, rfl⟩ := Kd.R_slice hR
 obtain ⟨_, ro2, ro1⟩ := Kd.R_reads' hR
 have RO1 := Aside0.mk ro1
 have RO2 := Aside0.mk ro2
 have HB2_ := Aside0.mk (below_step HB1.out hb)
 replace G8 := Aside0.mk (blk_below G8.out hb)
 replace G9 := Aside0.mk (blk_below G9.out hb)
 replace G11 := Aside0.mk (blk_below G11.out hb)
 replace G12 := Aside0.mk (blk_below G12.out hb)
 clear hb hR ro1 ro2 a0_ a1_ a2_
 go_upto_region 3 with (fail)
 have G18 := Aside0.mk (blk_new W2 (.cells #[.int .i64 own.f0, .int .i64 own.f1, .slice Ao own.f2.length co] 24))
 replace G8 := Aside0.mk (blk_alloc G8.out (.cells #[.int .i64 own.f0, .int .i64 own.f1, .slice Ao own.f2.length co] 24))
 replace G9 := Aside0.mk (blk_alloc G9.out (.cells #[.int .i64 own.f0, .int .i64 own.f1, .slice Ao own.f2.length co] 24))
 replace G11 := Aside0.mk (blk_alloc G11.out (.cells #[.int .i64 own.f0, .int .i64 own.f1, .slice Ao own.f2.length co] 24))
 replace G12 := Aside0.mk (blk_alloc G12.out (.cells #[.int .i64 own.f0, .int .i64 own.f1, .slice Ao own.f2.length co] 24))
 replace RO1 := Aside0.mk (Kd.C_alloc RO1.out (.cells #[.int .i64 own.f0, .int .i64 own.f1, .slice Ao own.f2.length co] 24))
 have HB3 := Aside0.mk (below_alloc HB2_.out (.cells #[.int .i64 own.f0, .int .i64 own.f1, .slice Ao own.f2.length co] 24))
 generalize (W2.alloc (.cells #[.int .i64 own.f0, .int .i64 own.f1, .slice Ao own.f2.length co] 24)) = W3 at G8 G9 G11 G12 G18 RO1 HB3 ⊢
 generalize W2.heap.size = e18 at G18 ⊢
 have a0_ : W3.cell? ⟨e8, 0, none⟩ = some (.int .i64 x.f0) := (blk_cell G8.out 0).trans rfl
 have a1_ : W3.cell? ⟨e8, 1, none⟩ = some (.int .i64 x.f1) := (blk_cell G8.out 1).trans rfl
 have a2_ : W3.cell? ⟨e8, 2, none⟩ = some (.slice A0 x.f2.length c0) := (blk_cell G8.out 2).trans rfl
 have b0_ : W3.cell? ⟨e9, 0, none⟩ = some (.int .i64 b.f0) := (blk_cell G9.out 0).trans rfl
 have b1_ : W3.cell? ⟨e9, 1, none⟩ = some (.int .i64 b.f1) := (blk_cell G9.out 1).trans rfl
 have b2_ : W3.cell? ⟨e9, 2, none⟩ = some (.slice A1 b.f2.length c1) := (blk_cell G9.out 2).trans rfl
 have o0_ : W3.cell? ⟨e18, 0, none⟩ = some (.int .i64 own.f0) := (blk_cell G18.out 0).trans rfl
 have o1_ : W3.cell? ⟨e18, 1, none⟩ = some (.int .i64 own.f1) := (blk_cell G18.out 1).trans rfl
 have o2_ : W3.cell? ⟨e18, 2, none⟩ = some (.slice Ao own.f2.length co) := (blk_cell G18.out 2).trans rfl
 go_region_held3 (fun w' => w'.cell? ⟨e8, 0, none⟩ = some (.int .i64 x.f0) ∧ w'.cell? ⟨e8, 1, none⟩ = some (.int .i64 x.f1) ∧ w'.cell? ⟨e8, 2, none⟩ = some (.slice A0 x.f2.length c0) ∧ w'.cell? ⟨e9, 0, none⟩ = some (.int .i64 b.f0) ∧ w'.cell? ⟨e9, 1, none⟩ = some (.int .i64 b.f1) ∧ w'.cell? ⟨e9, 2, none⟩ = some (.slice A1 b.f2.length c1) ∧ w'.cell? ⟨e18, 0, none⟩ = some (.int .i64 own.f0) ∧ w'.cell? ⟨e18, 1, none⟩ = some (.int .i64 own.f1) ∧ w'.cell? ⟨e18, 2, none⟩ = some (.slice Ao own.f2.length co)) (first | go_keep | (go_split_ands; exact ⟨(blk_cell J8.out 0).trans rfl, (blk_cell J8.out 1).trans rfl, (blk_cell J8.out 2).trans rfl, (blk_cell J9.out 0).trans rfl, (blk_cell J9.out 1).trans rfl, (blk_cell J9.out 2).trans rfl, (blk_cell J18.out 0).trans rfl, (blk_cell J18.out 1).trans rfl, (blk_cell J18.out 2).trans rfl⟩)) ((go_at_call 11; refine (partitalaw05_Meter.calls K b.f0 b.f1 A1 c1 b.f2 (!g) _ _ _ _ (Kd.C_drew (Kd.C_below HR1.out HB3.out)) HC1.out HB2.out).mono ?_; rintro e W4 ⟨v4, rfl, hR, hb⟩; have J8 := Aside0.mk (blk_below (blk_drew G8.out) hb); have J9 := Aside0.mk (blk_below (blk_drew G9.out) hb); have J11 := Aside0.mk (blk_below (blk_drew G11.out) hb); have J12 := Aside0.mk (blk_below (blk_drew G12.out) hb); have J18 := Aside0.mk (blk_below (blk_drew G18.out) hb); have HB4 := Aside0.mk (below_step (below_drew1 HB3.out) hb); have JO := Aside0.mk (Kd.C_below (Kd.C_drew RO1.out) hb); obtain ⟨Ab, cb, rfl⟩ := Kd.R_slice hR; obtain ⟨_, rb2, rb1⟩ := Kd.R_reads' hR; have RB1 := Aside0.mk rb1; have RB2 := Aside0.mk rb2; clear hb hR rb1 rb2))
 rename_i hH_
 clear hH_ a0_ a1_ a2_ b0_ b1_ b2_ o0_ o1_ o2_ G8 G9 G11 G12 G18 J8
 have HB5 := Aside0.mk (below_alloc HB4.out (.cells #[.int .i64 x.f0, .int .i64 x.f1, .slice A0 x.f2.length c0, .int .i64 own.f0, .int .i64 own.f1, .slice Ao own.f2.length co, .int .i64 bn.f0, .int .i64 bn.f1, .slice Ab bn.f2.length cb] 24))
 have MS := Aside0.mk (three24 (blk_new W4 (.cells #[.int .i64 x.f0, .int .i64 x.f1, .slice A0 x.f2.length c0, .int .i64 own.f0, .int .i64 own.f1, .slice Ao own.f2.length co, .int .i64 bn.f0, .int .i64 bn.f1, .slice Ab bn.f2.length cb] 24)) HC0.out RO2.out RB2.out (Kd.C_below HR0.out HB5.out) (Kd.C_alloc JO.out _) (Kd.C_alloc RB1.out _))
 replace J9 := Aside0.mk (blk_alloc J9.out (.cells #[.int .i64 x.f0, .int .i64 x.f1, .slice A0 x.f2.length c0, .int .i64 own.f0, .int .i64 own.f1, .slice Ao own.f2.length co, .int .i64 bn.f0, .int .i64 bn.f1, .slice Ab bn.f2.length cb] 24))
 replace J11 := Aside0.mk (blk_alloc J11.out (.cells #[.int .i64 x.f0, .int .i64 x.f1, .slice A0 x.f2.length c0, .int .i64 own.f0, .int .i64 own.f1, .slice Ao own.f2.length co, .int .i64 bn.f0, .int .i64 bn.f1, .slice Ab bn.f2.length cb] 24))
 replace J12 := Aside0.mk (blk_alloc J12.out (.cells #[.int .i64 x.f0, .int .i64 x.f1, .slice A0 x.f2.length c0, .int .i64 own.f0, .int .i64 own.f1, .slice Ao own.f2.length co, .int .i64 bn.f0, .int .i64 bn.f1, .slice Ab bn.f2.length cb] 24))
 replace J18 := Aside0.mk (blk_alloc J18.out (.cells #[.int .i64 x.f0, .int .i64 x.f1, .slice A0 x.f2.length c0, .int .i64 own.f0, .int .i64 own.f1, .slice Ao own.f2.length co, .int .i64 bn.f0, .int .i64 bn.f1, .slice Ab bn.f2.length cb] 24))
 replace JO := Aside0.mk (Kd.C_alloc JO.out (.cells #[.int .i64 x.f0, .int .i64 x.f1, .slice A0 x.f2.length c0, .int .i64 own.f0, .int .i64 own.f1, .slice Ao own.f2.length co, .int .i64 bn.f0, .int .i64 bn.f1, .slice Ab bn.f2.length cb] 24))
 clear RB1
 generalize (W4.alloc (.cells #[.int .i64 x.f0, .int .i64 x.f1, .slice A0 x.f2.length c0, .int .i64 own.f0, .int .i64 own.f1, .slice Ao own.f2.length co, .int .i64 bn.f0, .int .i64 bn.f1, .slice Ab bn.f2.length cb] 24)) = W5 at J9 J11 J12 J18 JO MS HB5 ⊢
 generalize (⟨W4.heap.size, 0, none⟩ : Addr) = ad at MS ⊢
 have JB := Aside0.mk (Kd.C_below HR1.out HB5.out)
 clear HB0 HB1 HB2_ HB3 HB4 HE8
 go_wp2
 go_loopw [53] (fun v wr => ∃ (i : Nat) (I : Int), v = .int .i64 I ∧ Aside0 (I = i) ∧ i ≤ 3 ∧ Aside0 (Below W5.heap.size W5 wr)) (fun v _ => 3 - (intOf v).toNat)
 case atStart => exact ⟨0, 0, rfl, ⟨rfl⟩, by omega, ⟨Below.refl _ _⟩⟩
 case round =>
  obtain ⟨i, I, rfl, HI, hi3, HBr⟩ := hrel
  by_cases hlt : i < 3
  ·have hI := HI.out
   have h0 : 0 ≤ I := by omega
   have h1 : I < 3 := by omega
   have hd : decide (I < 3) = true := decide_eq_true h1
   obtain ⟨ad', A2, c2, ea, hx0, hx1, hx2, hx3, hx4⟩ := at_T24 MS.out I h0 h1
   obtain rfl : ad = ad' := by injection ea
   have hok := rd_all24 (P := okM) WX'.out.1 WX'.out.2.2.1 WX'.out.2.2.2 i hlt
   rw [← hI] at hok
   obtain ⟨m, hm⟩ : ∃ m, rd_T24 [x, own, bn] I = m := ⟨_, rfl⟩
   rw [hm] at hx0 hx1 hx2 hx3 hx4 hok
   replace hx0 := (HBr.out.cell (World.block_lt_of_cell? W5 _ hx0)).trans hx0
   replace hx1 := (HBr.out.cell (World.block_lt_of_cell? W5 _ hx1)).trans hx1
   replace hx2 := (HBr.out.cell (World.block_lt_of_cell? W5 _ hx2)).trans hx2
   obtain ⟨L1, L2, L3, P, e, r, s1, s2, KK, TM, kr, TR⟩ := tm_of hok WX'.out.2.1 WX'.out.2.2.1
   have TM' := Aside0.mk TM
   have TR' := Aside0.mk TR
   have OK' := Aside0.mk hok
   have M4 := Aside0.mk hx4
   have M3 := Aside0.mk hx3
   clear hx3 hx4 hok TM TR hm ea hI
   go_upto_region 6 with (fail)
   have G20 := Aside0.mk (blk_new wr (.cells #[.int .i64 m.f0, .int .i64 m.f1, .slice A2 m.f2.length c2] 24))
   have HB6 := Aside0.mk (below_alloc HBr.out (.cells #[.int .i64 m.f0, .int .i64 m.f1, .slice A2 m.f2.length c2] 24))
   generalize (wr.alloc (.cells #[.int .i64 m.f0, .int .i64 m.f1, .slice A2 m.f2.length c2] 24)) = W6 at G20 HB6 ⊢
   generalize wr.heap.size = e20 at G20 ⊢
   clear hx0 hx1 hx2
   have m0_ : W6.cell? ⟨e20, 0, none⟩ = some (.int .i64 m.f0) := (blk_cell G20.out 0).trans rfl
   have m1_ : W6.cell? ⟨e20, 1, none⟩ = some (.int .i64 m.f1) := (blk_cell G20.out 1).trans rfl
   have m2_ : W6.cell? ⟨e20, 2, none⟩ = some (.slice A2 m.f2.length c2) := (blk_cell G20.out 2).trans rfl
   go_wp2_with (fail)
   refine (meter_Length.calls KK m.f0 m.f1 A2 c2 m.f2 L1 L2 L3 _ (Kd.C_below M4.out HB6.out) M3.out TM'.out.len).mono ?_
   rintro e' W7 ⟨rfl, hb⟩
   replace G20 := Aside0.mk (blk_below G20.out hb)
   have HB7 := Aside0.mk (below_step HB6.out hb)
   clear hb HB6 m0_ m1_ m2_
   go_upto_region 7 with (fail)
   have G21 := Aside0.mk (blk_new W7 (.cells #[.int .i64 L1, .int .i64 L2] 26))
   replace G20 := Aside0.mk (blk_alloc G20.out (.cells #[.int .i64 L1, .int .i64 L2] 26))
   replace HB7 := Aside0.mk (below_alloc HB7.out (.cells #[.int .i64 L1, .int .i64 L2] 26))
   generalize (W7.alloc (.cells #[.int .i64 L1, .int .i64 L2] 26)) = W8 at G20 G21 HB7 ⊢
   generalize W7.heap.size = e21 at G21 ⊢
   have m0_ : W8.cell? ⟨e20, 0, none⟩ = some (.int .i64 m.f0) := (blk_cell G20.out 0).trans rfl
   have m1_ : W8.cell? ⟨e20, 1, none⟩ = some (.int .i64 m.f1) := (blk_cell G20.out 1).trans rfl
   have m2_ : W8.cell? ⟨e20, 2, none⟩ = some (.slice A2 m.f2.length c2) := (blk_cell G20.out 2).trans rfl
   go_wp2_with (fail)
   refine (partitaref05_Length.calls KK m.f0 m.f1 A2 c2 m.f2 L1 L2 L3 _ (Kd.C_below M4.out HB7.out) M3.out TM'.out.rlen).mono ?_
   rintro e' W9 ⟨rfl, hb⟩
   replace G20 := Aside0.mk (blk_below G20.out hb)
   replace G21 := Aside0.mk (blk_below G21.out hb)
   have HB9 := Aside0.mk (below_step HB7.out hb)
   clear hb HB7 m0_ m1_ m2_
   go_upto_region 8 with (fail)
   have G23 := Aside0.mk (blk_new W9 (.cells #[.int .i64 L1, .int .i64 L2] 26))
   replace G20 := Aside0.mk (blk_alloc G20.out (.cells #[.int .i64 L1, .int .i64 L2] 26))
   replace G21 := Aside0.mk (blk_alloc G21.out (.cells #[.int .i64 L1, .int .i64 L2] 26))
   replace HB9 := Aside0.mk (below_alloc HB9.out (.cells #[.int .i64 L1, .int .i64 L2] 26))
   generalize (W9.alloc (.cells #[.int .i64 L1, .int .i64 L2] 26)) = W10 at G20 G21 G23 HB9 ⊢
   generalize W9.heap.size = e23 at G23 ⊢
   have m0_ : W10.cell? ⟨e20, 0, none⟩ = some (.int .i64 m.f0) := (blk_cell G20.out 0).trans rfl
   have m1_ : W10.cell? ⟨e20, 1, none⟩ = some (.int .i64 m.f1) := (blk_cell G20.out 1).trans rfl
   have m2_ : W10.cell? ⟨e20, 2, none⟩ = some (.slice A2 m.f2.length c2) := (blk_cell G20.out 2).trans rfl
   go_wp2_with (fail)
   refine (meter_Beats.calls KK m.f0 m.f1 A2 c2 m.f2 P e _ (Kd.C_below M4.out HB9.out) M3.out TM'.out.bea).mono ?_
   rintro e' W11 ⟨vp, rfl, hR, hb⟩
   obtain ⟨Ap, cp, rfl⟩ := Kd.R_slice hR
   obtain ⟨_, rp2, rp1⟩ := Kd.R_reads' hR
   have RP1 := Aside0.mk rp1
   have RP2 := Aside0.mk rp2
   replace G20 := Aside0.mk (blk_below G20.out hb)
   replace G21 := Aside0.mk (blk_below G21.out hb)
   replace G23 := Aside0.mk (blk_below G23.out hb)
   have HB11 := Aside0.mk (below_step HB9.out hb)
   clear hb hR rp1 rp2 HB9 m0_ m1_ m2_
   have m0_ : W11.cell? ⟨e20, 0, none⟩ = some (.int .i64 m.f0) := (blk_cell G20.out 0).trans rfl
   have m1_ : W11.cell? ⟨e20, 1, none⟩ = some (.int .i64 m.f1) := (blk_cell G20.out 1).trans rfl
   have m2_ : W11.cell? ⟨e20, 2, none⟩ = some (.slice A2 m.f2.length c2) := (blk_cell G20.out 2).trans rfl
   go_wp2_with (fail)
   refine (partitaref05_Beats.calls KK m.f0 m.f1 A2 c2 m.f2 P e _ (Kd.C_below M4.out HB11.out) M3.out TM'.out.rbea).mono ?_
   rintro e' W12 ⟨vq, rfl, hR, hb⟩
   obtain ⟨Aq, cq, rfl⟩ := Kd.R_slice hR
   obtain ⟨_, rq2, rq1⟩ := Kd.R_reads' hR
   have RQ1 := Aside0.mk rq1
   have RQ2 := Aside0.mk rq2
   replace RP1 := Aside0.mk (Kd.C_below RP1.out hb)
   replace G20 := Aside0.mk (blk_below G20.out hb)
   replace G21 := Aside0.mk (blk_below G21.out hb)
   replace G23 := Aside0.mk (blk_below G23.out hb)
   have HB12 := Aside0.mk (below_step HB11.out hb)
   clear hb hR rq1 rq2 HB11 m0_ m1_ m2_
   go_upto_region 10 with (fail)
   have G9 := Aside0.mk (blk_below J9.out HB12.out)
   have G18 := Aside0.mk (blk_below J18.out HB12.out)
   have CM := Aside0.mk (Kd.C_below M4.out HB12.out)
   have CB := Aside0.mk (Kd.C_below JB.out HB12.out)
   have CO := Aside0.mk (Kd.C_below JO.out HB12.out)
   have HBq := Aside0.mk (Below.refl W12.heap.size W12)
   have e20_0 : W12.cell? ⟨e20, 0, none⟩ = some (.int .i64 m.f0) := (blk_cell G20.out 0).trans rfl
   have e20_1 : W12.cell? ⟨e20, 1, none⟩ = some (.int .i64 m.f1) := (blk_cell G20.out 1).trans rfl
   have e20_2 : W12.cell? ⟨e20, 2, none⟩ = some (.slice A2 m.f2.length c2) := (blk_cell G20.out 2).trans rfl
   have e9_0 : W12.cell? ⟨e9, 0, none⟩ = some (.int .i64 b.f0) := (blk_cell G9.out 0).trans rfl
   have e9_1 : W12.cell? ⟨e9, 1, none⟩ = some (.int .i64 b.f1) := (blk_cell G9.out 1).trans rfl
   have e9_2 : W12.cell? ⟨e9, 2, none⟩ = some (.slice A1 b.f2.length c1) := (blk_cell G9.out 2).trans rfl
   have e18_0 : W12.cell? ⟨e18, 0, none⟩ = some (.int .i64 own.f0) := (blk_cell G18.out 0).trans rfl
   have e18_1 : W12.cell? ⟨e18, 1, none⟩ = some (.int .i64 own.f1) := (blk_cell G18.out 1).trans rfl
   have e18_2 : W12.cell? ⟨e18, 2, none⟩ = some (.slice Ao own.f2.length co) := (blk_cell G18.out 2).trans rfl
   have e21_0 : W12.cell? ⟨e21, 0, none⟩ = some (.int .i64 L1) := (blk_cell G21.out 0).trans rfl
   have e21_1 : W12.cell? ⟨e21, 1, none⟩ = some (.int .i64 L2) := (blk_cell G21.out 1).trans rfl
   have e23_0 : W12.cell? ⟨e23, 0, none⟩ = some (.int .i64 L1) := (blk_cell G23.out 0).trans rfl
   have e23_1 : W12.cell? ⟨e23, 1, none⟩ = some (.int .i64 L2) := (blk_cell G23.out 1).trans rfl
   go_region_held3 (fun w' => w'.cell? ⟨e20, 0, none⟩ = some (.int .i64 m.f0) ∧ w'.cell? ⟨e20, 1, none⟩ = some (.int .i64 m.f1) ∧ w'.cell? ⟨e20, 2, none⟩ = some (.slice A2 m.f2.length c2) ∧ w'.cell? ⟨e9, 0, none⟩ = some (.int .i64 b.f0) ∧ w'.cell? ⟨e9, 1, none⟩ = some (.int .i64 b.f1) ∧ w'.cell? ⟨e9, 2, none⟩ = some (.slice A1 b.f2.length c1) ∧ w'.cell? ⟨e18, 0, none⟩ = some (.int .i64 own.f0) ∧ w'.cell? ⟨e18, 1, none⟩ = some (.int .i64 own.f1) ∧ w'.cell? ⟨e18, 2, none⟩ = some (.slice Ao own.f2.length co) ∧ w'.cell? ⟨e21, 0, none⟩ = some (.int .i64 L1) ∧ w'.cell? ⟨e21, 1, none⟩ = some (.int .i64 L2) ∧ w'.cell? ⟨e23, 0, none⟩ = some (.int .i64 L1) ∧ w'.cell? ⟨e23, 1, none⟩ = some (.int .i64 L2)) (first | (exact ⟨(blk_cell (blk_drew (blk_below G20.out HBq.out)) 0).trans rfl, (blk_cell (blk_drew (blk_below G20.out HBq.out)) 1).trans rfl, (blk_cell (blk_drew (blk_below G20.out HBq.out)) 2).trans rfl, (blk_cell (blk_drew (blk_below G9.out HBq.out)) 0).trans rfl, (blk_cell (blk_drew (blk_below G9.out HBq.out)) 1).trans rfl, (blk_cell (blk_drew (blk_below G9.out HBq.out)) 2).trans rfl, (blk_cell (blk_drew (blk_below G18.out HBq.out)) 0).trans rfl, (blk_cell (blk_drew (blk_below G18.out HBq.out)) 1).trans rfl, (blk_cell (blk_drew (blk_below G18.out HBq.out)) 2).trans rfl, (blk_cell (blk_drew (blk_below G21.out HBq.out)) 0).trans rfl, (blk_cell (blk_drew (blk_below G21.out HBq.out)) 1).trans rfl, (blk_cell (blk_drew (blk_below G23.out HBq.out)) 0).trans rfl, (blk_cell (blk_drew (blk_below G23.out HBq.out)) 1).trans rfl⟩) | (exact ⟨(blk_cell (blk_below G20.out HBq.out) 0).trans rfl, (blk_cell (blk_below G20.out HBq.out) 1).trans rfl, (blk_cell (blk_below G20.out HBq.out) 2).trans rfl, (blk_cell (blk_below G9.out HBq.out) 0).trans rfl, (blk_cell (blk_below G9.out HBq.out) 1).trans rfl, (blk_cell (blk_below G9.out HBq.out) 2).trans rfl, (blk_cell (blk_below G18.out HBq.out) 0).trans rfl, (blk_cell (blk_below G18.out HBq.out) 1).trans rfl, (blk_cell (blk_below G18.out HBq.out) 2).trans rfl, (blk_cell (blk_below G21.out HBq.out) 0).trans rfl, (blk_cell (blk_below G21.out HBq.out) 1).trans rfl, (blk_cell (blk_below G23.out HBq.out) 0).trans rfl, (blk_cell (blk_below G23.out HBq.out) 1).trans rfl⟩) | go_keep) (first | (go_at_call 16; with_reducible refine (meter_Right.calls KK m.f0 m.f1 A2 c2 m.f2 r _ (Kd.C_below CM.out (by first | exact HBq.out | exact below_drew1 HBq.out)) M3.out TM'.out.rig).mono ?_; rintro e' W13 ⟨rfl, hb⟩; replace HBq := Aside0.mk (below_step (by first | exact HBq.out | exact below_drew1 HBq.out) hb); clear hb) | (go_at_call 17; with_reducible refine (partitaref05_Right.calls KK m.f0 m.f1 A2 c2 m.f2 r _ (Kd.C_below CM.out (by first | exact HBq.out | exact below_drew1 HBq.out)) M3.out TM'.out.rrig).mono ?_; rintro e' W13 ⟨rfl, hb⟩; replace HBq := Aside0.mk (below_step (by first | exact HBq.out | exact below_drew1 HBq.out) hb); clear hb) | (go_at_call 18; with_reducible refine (meter_Same.calls KK m.f0 m.f1 A2 c2 m.f2 b.f0 b.f1 A1 c1 b.f2 s1 _ (Kd.C_below CM.out (by first | exact HBq.out | exact below_drew1 HBq.out)) M3.out (Kd.C_below CB.out (by first | exact HBq.out | exact below_drew1 HBq.out)) HC1.out TM'.out.sa).mono ?_; rintro e' W13 ⟨rfl, hb⟩; replace HBq := Aside0.mk (below_step (by first | exact HBq.out | exact below_drew1 HBq.out) hb); clear hb) | (go_at_call 19; with_reducible refine (partitaref05_Same.calls KK m.f0 m.f1 A2 c2 m.f2 b.f0 b.f1 A1 c1 b.f2 s1 _ (Kd.C_below CM.out (by first | exact HBq.out | exact below_drew1 HBq.out)) M3.out (Kd.C_below CB.out (by first | exact HBq.out | exact below_drew1 HBq.out)) HC1.out TM'.out.rsa).mono ?_; rintro e' W13 ⟨rfl, hb⟩; replace HBq := Aside0.mk (below_step (by first | exact HBq.out | exact below_drew1 HBq.out) hb); clear hb) | (go_at_call 18; with_reducible refine (meter_Same.calls KK own.f0 own.f1 Ao co own.f2 m.f0 m.f1 A2 c2 m.f2 s2 _ (Kd.C_below CO.out (by first | exact HBq.out | exact below_drew1 HBq.out)) RO2.out (Kd.C_below CM.out (by first | exact HBq.out | exact below_drew1 HBq.out)) M3.out TM'.out.sb).mono ?_; rintro e' W13 ⟨rfl, hb⟩; replace HBq := Aside0.mk (below_step (by first | exact HBq.out | exact below_drew1 HBq.out) hb); clear hb) | (go_at_call 19; with_reducible refine (partitaref05_Same.calls KK own.f0 own.f1 Ao co own.f2 m.f0 m.f1 A2 c2 m.f2 s2 _ (Kd.C_below CO.out (by first | exact HBq.out | exact below_drew1 HBq.out)) RO2.out (Kd.C_below CM.out (by first | exact HBq.out | exact below_drew1 HBq.out)) M3.out TM'.out.rsb).mono ?_; rintro e' W13 ⟨rfl, hb⟩; replace HBq := Aside0.mk (below_step (by first | exact HBq.out | exact below_drew1 HBq.out) hb); clear hb) | (go_at_call 20; with_reducible refine (partitaref05_Ratios.calls kr Ap cp P Aq cq P true _ (Kd.C_below RP1.out (by first | exact HBq.out | exact below_drew1 HBq.out)) RP2.out (Kd.C_below RQ1.out (by first | exact HBq.out | exact below_drew1 HBq.out)) RQ2.out TR'.out).mono ?_; rintro e' W13 ⟨rfl, hd⟩; have hb := Drawn0.below hd; replace HBq := Aside0.mk (below_step (by first | exact HBq.out | exact below_drew1 HBq.out) hb); clear hb hd))
   rename_i hH_
   clear hH_ e20_0 e20_1 e20_2 e9_0 e9_1 e9_2 e18_0 e18_1 e18_2 e21_0 e21_1 e23_0 e23_1
   have HB13 := Aside0.mk (below_step HB12.out HBq.out)
   replace G18 := Aside0.mk (blk_below G18.out HBq.out)
   replace G20 := Aside0.mk (blk_below G20.out HBq.out)
   replace G23 := Aside0.mk (blk_below G23.out HBq.out)
   replace CM := Aside0.mk (Kd.C_below CM.out HBq.out)
   replace CO := Aside0.mk (Kd.C_below CO.out HBq.out)
   have G11 := Aside0.mk (blk_below J11.out HB13.out)
   have G12 := Aside0.mk (blk_below J12.out HB13.out)
   have LW := Aside0.mk TM'.out.lw
   clear G21 G9 CB RP1 RQ1 RP2 RQ2 TR' TM' HB12 HBq M4
   go_upto_region 12 with (fail)
   have HBq := Aside0.mk (Below.refl W13.heap.size W13)
   have e11_0 : W13.cell? ⟨e11, 0, none⟩ = some (.int .i64 y.f0) := (blk_cell G11.out 0).trans rfl
   have e11_1 : W13.cell? ⟨e11, 1, none⟩ = some (.int .i64 y.f1) := (blk_cell G11.out 1).trans rfl
   have e18_0 : W13.cell? ⟨e18, 0, none⟩ = some (.int .i64 own.f0) := (blk_cell G18.out 0).trans rfl
   have e18_1 : W13.cell? ⟨e18, 1, none⟩ = some (.int .i64 own.f1) := (blk_cell G18.out 1).trans rfl
   have e18_2 : W13.cell? ⟨e18, 2, none⟩ = some (.slice Ao own.f2.length co) := (blk_cell G18.out 2).trans rfl
   go_region_held3 (fun w' => w'.cell? ⟨e11, 0, none⟩ = some (.int .i64 y.f0) ∧ w'.cell? ⟨e11, 1, none⟩ = some (.int .i64 y.f1) ∧ w'.cell? ⟨e18, 0, none⟩ = some (.int .i64 own.f0) ∧ w'.cell? ⟨e18, 1, none⟩ = some (.int .i64 own.f1) ∧ w'.cell? ⟨e18, 2, none⟩ = some (.slice Ao own.f2.length co)) (first | (exact ⟨(blk_cell (blk_drew (blk_below G11.out HBq.out)) 0).trans rfl, (blk_cell (blk_drew (blk_below G11.out HBq.out)) 1).trans rfl, (blk_cell (blk_drew (blk_below G18.out HBq.out)) 0).trans rfl, (blk_cell (blk_drew (blk_below G18.out HBq.out)) 1).trans rfl, (blk_cell (blk_drew (blk_below G18.out HBq.out)) 2).trans rfl⟩) | (exact ⟨(blk_cell (blk_below G11.out HBq.out) 0).trans rfl, (blk_cell (blk_below G11.out HBq.out) 1).trans rfl, (blk_cell (blk_below G18.out HBq.out) 0).trans rfl, (blk_cell (blk_below G18.out HBq.out) 1).trans rfl, (blk_cell (blk_below G18.out HBq.out) 2).trans rfl⟩) | (exact ⟨(blk_cell (blk_alloc (blk_below G11.out HBq.out) _) 0).trans rfl, (blk_cell (blk_alloc (blk_below G11.out HBq.out) _) 1).trans rfl, (blk_cell (blk_alloc (blk_below G18.out HBq.out) _) 0).trans rfl, (blk_cell (blk_alloc (blk_below G18.out HBq.out) _) 1).trans rfl, (blk_cell (blk_alloc (blk_below G18.out HBq.out) _) 2).trans rfl⟩) | go_keep) ((go_at_call 21; with_reducible refine (partitalaw05_place.calls k1 own.f0 own.f1 Ao co own.f2 k o p1.f0 p1.f1 _ (Kd.C_below CO.out (by first | exact HBq.out | exact below_drew1 HBq.out)) RO2.out HP1.out).mono ?_; rintro e' W14 ⟨rfl, hb⟩; replace HBq := Aside0.mk (below_step (by first | exact HBq.out | exact below_drew1 HBq.out) hb); clear hb))
   rename_i hH_
   clear hH_ e11_0 e11_1 e18_0 e18_1 e18_2
   have YS := Aside0.mk (three26 (x := y) (y := p1) (z := ⟨0, 0⟩) (blk_new W14 (.cells #[.int .i64 y.f0, .int .i64 y.f1, .int .i64 p1.f0, .int .i64 p1.f1, .int .i64 0, .int .i64 0] 26)))
   replace G12 := Aside0.mk (blk_alloc (blk_below G12.out HBq.out) (.cells #[.int .i64 y.f0, .int .i64 y.f1, .int .i64 p1.f0, .int .i64 p1.f1, .int .i64 0, .int .i64 0] 26))
   replace G18 := Aside0.mk (blk_alloc (blk_below G18.out HBq.out) (.cells #[.int .i64 y.f0, .int .i64 y.f1, .int .i64 p1.f0, .int .i64 p1.f1, .int .i64 0, .int .i64 0] 26))
   replace G20 := Aside0.mk (blk_alloc (blk_below G20.out HBq.out) (.cells #[.int .i64 y.f0, .int .i64 y.f1, .int .i64 p1.f0, .int .i64 p1.f1, .int .i64 0, .int .i64 0] 26))
   replace G23 := Aside0.mk (blk_alloc (blk_below G23.out HBq.out) (.cells #[.int .i64 y.f0, .int .i64 y.f1, .int .i64 p1.f0, .int .i64 p1.f1, .int .i64 0, .int .i64 0] 26))
   replace CM := Aside0.mk (Kd.C_alloc (Kd.C_below CM.out HBq.out) (.cells #[.int .i64 y.f0, .int .i64 y.f1, .int .i64 p1.f0, .int .i64 p1.f1, .int .i64 0, .int .i64 0] 26))
   replace CO := Aside0.mk (Kd.C_alloc (Kd.C_below CO.out HBq.out) (.cells #[.int .i64 y.f0, .int .i64 y.f1, .int .i64 p1.f0, .int .i64 p1.f1, .int .i64 0, .int .i64 0] 26))
   have HB15 := Aside0.mk (below_alloc (below_step HB13.out HBq.out) (.cells #[.int .i64 y.f0, .int .i64 y.f1, .int .i64 p1.f0, .int .i64 p1.f1, .int .i64 0, .int .i64 0] 26))
   clear HBq HB13 G11
   generalize (W14.alloc (.cells #[.int .i64 y.f0, .int .i64 y.f1, .int .i64 p1.f0, .int .i64 p1.f1, .int .i64 0, .int .i64 0] 26)) = W15 at YS G12 G18 G20 G23 CM CO HB15 ⊢
   generalize (⟨W14.heap.size, 0, none⟩ : Addr) = ay at YS ⊢
   go_wp2
   go_loopw [129] (fun v wr => ∃ (j : Nat) (J : Int), v = .int .i64 J ∧ Aside0 (J = j) ∧ j ≤ 3 ∧ Aside0 (Below W15.heap.size W15 wr)) (fun v _ => 3 - (intOf v).toNat)
   case atStart => exact ⟨0, 0, rfl, ⟨rfl⟩, by omega, ⟨Below.refl _ _⟩⟩
   case round =>
    obtain ⟨j, J, rfl, HJ, hj3, HBs⟩ := hrel
    by_cases hjt : j < 3
    ·have hJ := HJ.out
     have h0 : 0 ≤ J := by omega
     have h1 : J < 3 := by omega
     have hd : decide (J < 3) = true := decide_eq_true h1
     obtain ⟨ay', ea, hx0, hx1⟩ := at_T26 YS.out J h0 h1
     obtain rfl : ay = ay' := by injection ea
     have hok := rd_all26 (P := ok2) WY'.out.1 WP'.out.1 ok2_zero j hjt
     rw [← hJ] at hok
     obtain ⟨q, hq⟩ : ∃ q, rd_T26 [y, p1, ⟨0, 0⟩] J = q := ⟨_, rfl⟩
     rw [hq] at hx0 hx1 hok
     replace hx0 := (HBs.out.cell (World.block_lt_of_cell? W15 _ hx0)).trans hx0
     replace hx1 := (HBs.out.cell (World.block_lt_of_cell? W15 _ hx1)).trans hx1
     obtain ⟨v, ie, KW, tw1, tw2⟩ := tw_of OK'.out hok
     have TW1 := Aside0.mk tw1
     have TW2 := Aside0.mk tw2
     have OQ := Aside0.mk hok
     clear hok tw1 tw2 hq ea hJ
     go_upto_region 15 with (fail)
     have G30 := Aside0.mk (blk_new wr (.cells #[.int .i64 q.f0, .int .i64 q.f1] 26))
     have HB16 := Aside0.mk (below_alloc HBs.out (.cells #[.int .i64 q.f0, .int .i64 q.f1] 26))
     generalize (wr.alloc (.cells #[.int .i64 q.f0, .int .i64 q.f1] 26)) = W16 at G30 HB16 ⊢
     generalize wr.heap.size = e30 at G30 ⊢
     clear hx0 hx1
     replace G20 := Aside0.mk (blk_below G20.out HB16.out)
     have m0_ : W16.cell? ⟨e20, 0, none⟩ = some (.int .i64 m.f0) := (blk_cell G20.out 0).trans rfl
     have m1_ : W16.cell? ⟨e20, 1, none⟩ = some (.int .i64 m.f1) := (blk_cell G20.out 1).trans rfl
     have m2_ : W16.cell? ⟨e20, 2, none⟩ = some (.slice A2 m.f2.length c2) := (blk_cell G20.out 2).trans rfl
     have q0_ : W16.cell? ⟨e30, 0, none⟩ = some (.int .i64 q.f0) := (blk_cell G30.out 0).trans rfl
     have q1_ : W16.cell? ⟨e30, 1, none⟩ = some (.int .i64 q.f1) := (blk_cell G30.out 1).trans rfl
     go_wp2_with (fail)
     refine (meter_Weight.calls KW m.f0 m.f1 A2 c2 m.f2 q.f0 q.f1 v ie _ (Kd.C_below CM.out HB16.out) M3.out TW1.out).mono ?_
     rintro e' W17 ⟨rfl, hb⟩
     replace G20 := Aside0.mk (blk_below G20.out hb)
     replace G30 := Aside0.mk (blk_below G30.out hb)
     have HB17 := Aside0.mk (below_step HB16.out hb)
     clear hb HB16 m0_ m1_ m2_ q0_ q1_
     have m0_ : W17.cell? ⟨e20, 0, none⟩ = some (.int .i64 m.f0) := (blk_cell G20.out 0).trans rfl
     have m1_ : W17.cell? ⟨e20, 1, none⟩ = some (.int .i64 m.f1) := (blk_cell G20.out 1).trans rfl
     have m2_ : W17.cell? ⟨e20, 2, none⟩ = some (.slice A2 m.f2.length c2) := (blk_cell G20.out 2).trans rfl
     have q0_ : W17.cell? ⟨e30, 0, none⟩ = some (.int .i64 q.f0) := (blk_cell G30.out 0).trans rfl
     have q1_ : W17.cell? ⟨e30, 1, none⟩ = some (.int .i64 q.f1) := (blk_cell G30.out 1).trans rfl
     go_wp2_with (fail)
     refine (partitaref05_Weight.calls KW m.f0 m.f1 A2 c2 m.f2 q.f0 q.f1 v ie _ (Kd.C_below CM.out HB17.out) M3.out TW2.out).mono ?_
     rintro e' W18 ⟨rfl, hb⟩
     replace G20 := Aside0.mk (blk_below G20.out hb)
     replace G30 := Aside0.mk (blk_below G30.out hb)
     have HB18 := Aside0.mk (below_step HB17.out hb)
     clear hb HB17 m0_ m1_ m2_ q0_ q1_
     go_upto_region 19 with (fail)
     replace G12 := Aside0.mk (blk_below G12.out HB18.out)
     replace G18 := Aside0.mk (blk_below G18.out HB18.out)
     replace G23 := Aside0.mk (blk_below G23.out HB18.out)
     replace CM := Aside0.mk (Kd.C_below CM.out HB18.out)
     replace CO := Aside0.mk (Kd.C_below CO.out HB18.out)
     have HBq := Aside0.mk (Below.refl W18.heap.size W18)
     have e12_0 : W18.cell? ⟨e12, 0, none⟩ = some (.int .i64 z.f0) := (blk_cell G12.out 0).trans rfl
     have e12_1 : W18.cell? ⟨e12, 1, none⟩ = some (.int .i64 z.f1) := (blk_cell G12.out 1).trans rfl
     have e18_0 : W18.cell? ⟨e18, 0, none⟩ = some (.int .i64 own.f0) := (blk_cell G18.out 0).trans rfl
     have e18_1 : W18.cell? ⟨e18, 1, none⟩ = some (.int .i64 own.f1) := (blk_cell G18.out 1).trans rfl
     have e18_2 : W18.cell? ⟨e18, 2, none⟩ = some (.slice Ao own.f2.length co) := (blk_cell G18.out 2).trans rfl
     have e23_0 : W18.cell? ⟨e23, 0, none⟩ = some (.int .i64 L1) := (blk_cell G23.out 0).trans rfl
     have e23_1 : W18.cell? ⟨e23, 1, none⟩ = some (.int .i64 L2) := (blk_cell G23.out 1).trans rfl
     go_region_held3 (fun w' => w'.cell? ⟨e12, 0, none⟩ = some (.int .i64 z.f0) ∧ w'.cell? ⟨e12, 1, none⟩ = some (.int .i64 z.f1) ∧ w'.cell? ⟨e18, 0, none⟩ = some (.int .i64 own.f0) ∧ w'.cell? ⟨e18, 1, none⟩ = some (.int .i64 own.f1) ∧ w'.cell? ⟨e18, 2, none⟩ = some (.slice Ao own.f2.length co) ∧ w'.cell? ⟨e23, 0, none⟩ = some (.int .i64 L1) ∧ w'.cell? ⟨e23, 1, none⟩ = some (.int .i64 L2)) (first | (exact ⟨(blk_cell (blk_drew (blk_below G12.out HBq.out)) 0).trans rfl, (blk_cell (blk_drew (blk_below G12.out HBq.out)) 1).trans rfl, (blk_cell (blk_drew (blk_below G18.out HBq.out)) 0).trans rfl, (blk_cell (blk_drew (blk_below G18.out HBq.out)) 1).trans rfl, (blk_cell (blk_drew (blk_below G18.out HBq.out)) 2).trans rfl, (blk_cell (blk_drew (blk_below G23.out HBq.out)) 0).trans rfl, (blk_cell (blk_drew (blk_below G23.out HBq.out)) 1).trans rfl⟩) | (exact ⟨(blk_cell (blk_below G12.out HBq.out) 0).trans rfl, (blk_cell (blk_below G12.out HBq.out) 1).trans rfl, (blk_cell (blk_below G18.out HBq.out) 0).trans rfl, (blk_cell (blk_below G18.out HBq.out) 1).trans rfl, (blk_cell (blk_below G18.out HBq.out) 2).trans rfl, (blk_cell (blk_below G23.out HBq.out) 0).trans rfl, (blk_cell (blk_below G23.out HBq.out) 1).trans rfl⟩) | (exact ⟨(blk_cell (blk_alloc (blk_below G12.out HBq.out) _) 0).trans rfl, (blk_cell (blk_alloc (blk_below G12.out HBq.out) _) 1).trans rfl, (blk_cell (blk_alloc (blk_below G18.out HBq.out) _) 0).trans rfl, (blk_cell (blk_alloc (blk_below G18.out HBq.out) _) 1).trans rfl, (blk_cell (blk_alloc (blk_below G18.out HBq.out) _) 2).trans rfl, (blk_cell (blk_alloc (blk_below G23.out HBq.out) _) 0).trans rfl, (blk_cell (blk_alloc (blk_below G23.out HBq.out) _) 1).trans rfl⟩) | go_keep) ((go_at_call 21; with_reducible refine (partitalaw05_place.calls k2 own.f0 own.f1 Ao co own.f2 n o p2.f0 p2.f1 _ (Kd.C_below CO.out (by first | exact HBq.out | exact below_drew1 HBq.out)) RO2.out HP2.out).mono ?_; rintro e' W19 ⟨rfl, hb⟩; replace HBq := Aside0.mk (below_step (by first | exact HBq.out | exact below_drew1 HBq.out) hb); clear hb))
     rename_i hH_
     clear hH_ e12_0 e12_1 e18_0 e18_1 e18_2 e23_0 e23_1
     have ZS := Aside0.mk (three26 (x := z) (y := p2) (z := ⟨L1, L2⟩) (blk_new W19 (.cells #[.int .i64 z.f0, .int .i64 z.f1, .int .i64 p2.f0, .int .i64 p2.f1, .int .i64 L1, .int .i64 L2] 26)))
     replace G20 := Aside0.mk (blk_alloc (blk_below G20.out HBq.out) (.cells #[.int .i64 z.f0, .int .i64 z.f1, .int .i64 p2.f0, .int .i64 p2.f1, .int .i64 L1, .int .i64 L2] 26))
     replace G30 := Aside0.mk (blk_alloc (blk_below G30.out HBq.out) (.cells #[.int .i64 z.f0, .int .i64 z.f1, .int .i64 p2.f0, .int .i64 p2.f1, .int .i64 L1, .int .i64 L2] 26))
     replace CM := Aside0.mk (Kd.C_alloc (Kd.C_below CM.out HBq.out) (.cells #[.int .i64 z.f0, .int .i64 z.f1, .int .i64 p2.f0, .int .i64 p2.f1, .int .i64 L1, .int .i64 L2] 26))
     have HB20 := Aside0.mk (below_alloc (below_step HB18.out HBq.out) (.cells #[.int .i64 z.f0, .int .i64 z.f1, .int .i64 p2.f0, .int .i64 p2.f1, .int .i64 L1, .int .i64 L2] 26))
     clear HBq HB18 G12 G18 G23 CO
     generalize (W19.alloc (.cells #[.int .i64 z.f0, .int .i64 z.f1, .int .i64 p2.f0, .int .i64 p2.f1, .int .i64 L1, .int .i64 L2] 26)) = W20 at ZS G20 G30 CM HB20 ⊢
     generalize (⟨W19.heap.size, 0, none⟩ : Addr) = az at ZS ⊢
     go_wp2
     go_loopw [161] (fun v wr => ∃ (h : Nat) (H : Int), v = .int .i64 H ∧ Aside0 (H = h) ∧ h ≤ 3 ∧ Aside0 (Below W20.heap.size W20 wr)) (fun v _ => 3 - (intOf v).toNat)
     case atStart => exact ⟨0, 0, rfl, ⟨rfl⟩, by omega, ⟨Below.refl _ _⟩⟩
     case round =>
      obtain ⟨h, H, rfl, HH, hh3, HBt⟩ := hrel
      by_cases hht : h < 3
      ·have hH := HH.out
       have h0 : 0 ≤ H := by omega
       have h1 : H < 3 := by omega
       have hd : decide (H < 3) = true := decide_eq_true h1
       obtain ⟨az', ea, hx0, hx1⟩ := at_T26 ZS.out H h0 h1
       obtain rfl : az = az' := by injection ea
       have hok := rd_all26 (P := ok2) WY'.out.2 WP'.out.2 (show ok2 ⟨L1, L2⟩ from LW.out) h hht
       rw [← hH] at hok
       obtain ⟨u, hu⟩ : ∃ u, rd_T26 [z, p2, ⟨L1, L2⟩] H = u := ⟨_, rfl⟩
       rw [hu] at hx0 hx1 hok
       replace hx0 := (HBt.out.cell (World.block_lt_of_cell? W20 _ hx0)).trans hx0
       replace hx1 := (HBt.out.cell (World.block_lt_of_cell? W20 _ hx1)).trans hx1
       obtain ⟨KC, ⟨R, re⟩, tc1, tc2⟩ := cut_both (l := m.f2) OK'.out.1 OK'.out.2.1 OQ.out.1 OQ.out.2 hok.1 hok.2 OK'.out.2.2
       have TC1 := Aside0.mk tc1
       have TC2 := Aside0.mk tc2
       obtain ⟨H2, hH2⟩ : ∃ H2, H + 1 = H2 := ⟨_, rfl⟩
       obtain ⟨pw1, pw2⟩ := wboth3 (x := H + 1) (r := H2) (by omega) hH2
       have HREL : Aside0 (H2 = ((h + 1 : Nat) : Int)) := ⟨by omega⟩
       have HM : Aside0 (3 - H2.toNat < 3 - H.toNat) := ⟨by omega⟩
       clear hok tc1 tc2 hu ea hH hH2
       go_upto_region 22 with (fail)
       have G36 := Aside0.mk (blk_new wr (.cells #[.int .i64 u.f0, .int .i64 u.f1] 26))
       have HB21 := Aside0.mk (below_alloc HBt.out (.cells #[.int .i64 u.f0, .int .i64 u.f1] 26))
       generalize (wr.alloc (.cells #[.int .i64 u.f0, .int .i64 u.f1] 26)) = W21 at G36 HB21 ⊢
       generalize wr.heap.size = e36 at G36 ⊢
       clear hx0 hx1
       replace G20 := Aside0.mk (blk_below G20.out HB21.out)
       replace G30 := Aside0.mk (blk_below G30.out HB21.out)
       have m0_ : W21.cell? ⟨e20, 0, none⟩ = some (.int .i64 m.f0) := (blk_cell G20.out 0).trans rfl
       have m1_ : W21.cell? ⟨e20, 1, none⟩ = some (.int .i64 m.f1) := (blk_cell G20.out 1).trans rfl
       have m2_ : W21.cell? ⟨e20, 2, none⟩ = some (.slice A2 m.f2.length c2) := (blk_cell G20.out 2).trans rfl
       have q0_ : W21.cell? ⟨e30, 0, none⟩ = some (.int .i64 q.f0) := (blk_cell G30.out 0).trans rfl
       have q1_ : W21.cell? ⟨e30, 1, none⟩ = some (.int .i64 q.f1) := (blk_cell G30.out 1).trans rfl
       have u0_ : W21.cell? ⟨e36, 0, none⟩ = some (.int .i64 u.f0) := (blk_cell G36.out 0).trans rfl
       have u1_ : W21.cell? ⟨e36, 1, none⟩ = some (.int .i64 u.f1) := (blk_cell G36.out 1).trans rfl
       go_wp2_with (fail)
       refine (meter_Cut.calls KC m.f0 m.f1 A2 c2 m.f2 q.f0 q.f1 u.f0 u.f1 R re _ (Kd.C_below CM.out HB21.out) M3.out TC1.out).mono ?_
       rintro e' W22 ⟨vp, rfl, hR, hb⟩
       obtain ⟨Ap, cp, rfl⟩ := Kd.R_slice hR
       obtain ⟨_, rp2, rp1⟩ := Kd.R_reads' hR
       have RP1 := Aside0.mk rp1
       have RP2 := Aside0.mk rp2
       replace G20 := Aside0.mk (blk_below G20.out hb)
       replace G30 := Aside0.mk (blk_below G30.out hb)
       replace G36 := Aside0.mk (blk_below G36.out hb)
       have HB22 := Aside0.mk (below_step HB21.out hb)
       clear hb hR rp1 rp2 HB21 m0_ m1_ m2_ q0_ q1_ u0_ u1_
       have m0_ : W22.cell? ⟨e20, 0, none⟩ = some (.int .i64 m.f0) := (blk_cell G20.out 0).trans rfl
       have m1_ : W22.cell? ⟨e20, 1, none⟩ = some (.int .i64 m.f1) := (blk_cell G20.out 1).trans rfl
       have m2_ : W22.cell? ⟨e20, 2, none⟩ = some (.slice A2 m.f2.length c2) := (blk_cell G20.out 2).trans rfl
       have q0_ : W22.cell? ⟨e30, 0, none⟩ = some (.int .i64 q.f0) := (blk_cell G30.out 0).trans rfl
       have q1_ : W22.cell? ⟨e30, 1, none⟩ = some (.int .i64 q.f1) := (blk_cell G30.out 1).trans rfl
       have u0_ : W22.cell? ⟨e36, 0, none⟩ = some (.int .i64 u.f0) := (blk_cell G36.out 0).trans rfl
       have u1_ : W22.cell? ⟨e36, 1, none⟩ = some (.int .i64 u.f1) := (blk_cell G36.out 1).trans rfl
       go_wp2_with (fail)
       refine (partitaref05_Cut.calls KC m.f0 m.f1 A2 c2 m.f2 q.f0 q.f1 u.f0 u.f1 R re _ (Kd.C_below CM.out HB22.out) M3.out TC2.out).mono ?_
       rintro e' W23 ⟨vq, rfl, hR, hb⟩
       obtain ⟨Aq, cq, rfl⟩ := Kd.R_slice hR
       obtain ⟨_, rq2, rq1⟩ := Kd.R_reads' hR
       obtain ⟨kr, hkr⟩ := ratios_refl R (by have := Kd.C_max rq1; exact this)
       have TR' := Aside0.mk hkr
       have RQ1 := Aside0.mk rq1
       have RQ2 := Aside0.mk rq2
       replace RP1 := Aside0.mk (Kd.C_below RP1.out hb)
       have HB23 := Aside0.mk (below_step HB22.out hb)
       clear hb hR rq1 rq2 hkr HB22 m0_ m1_ m2_ q0_ q1_ u0_ u1_
       go_wp2_with (fail)
       refine (partitaref05_Ratios.calls kr Ap cp R Aq cq R true _ RP1.out RP2.out RQ1.out RQ2.out TR'.out).mono ?_
       rintro e' W24 ⟨rfl, hdr⟩
       have HB24 := Aside0.mk (below_step HB23.out (Drawn0.below hdr))
       clear hdr
       go_wp2
       go_roundw
       case rel => exact ⟨h + 1, H2, rfl, HREL, by omega, HB24⟩
       case measure => exact HM.out
      ·have hH := HH.out
       have hd : decide (H < 3) = false := decide_eq_false (by omega)
       obtain ⟨J2, hJ2⟩ : ∃ J2, J + 1 = J2 := ⟨_, rfl⟩
       have hJ := HJ.out
       obtain ⟨pw1, pw2⟩ := wboth3 (x := J + 1) (r := J2) (by omega) hJ2
       have HREL : Aside0 (J2 = ((j + 1 : Nat) : Int)) := ⟨by omega⟩
       have HM : Aside0 (3 - J2.toNat < 3 - J.toNat) := ⟨by omega⟩
       have HBz := Aside0.mk (below_step HB20.out HBt.out)
       clear hH hJ hJ2
       go_wp2
       go_roundw
       case rel => exact ⟨j + 1, J2, rfl, HREL, by omega, HBz⟩
       case measure => exact HM.out
    ·have hJ := HJ.out
     have hd : decide (J < 3) = false := decide_eq_false (by omega)
     obtain ⟨I2, hI2⟩ : ∃ I2, I + 1 = I2 := ⟨_, rfl⟩
     have hI := HI.out
     obtain ⟨pw1, pw2⟩ := wboth3 (x := I + 1) (r := I2) (by omega) hI2
     have HREL : Aside0 (I2 = ((i + 1 : Nat) : Int)) := ⟨by omega⟩
     have HM : Aside0 (3 - I2.toNat < 3 - I.toNat) := ⟨by omega⟩
     have HBz := Aside0.mk (below_step HB15.out HBs.out)
     clear hI hJ hI2
     go_wp2
     go_roundw
     case rel => exact ⟨i + 1, I2, rfl, HREL, by omega, HBz⟩
     case measure => exact HM.out
  ·have hI := HI.out
   have hd : decide (I < 3) = false := decide_eq_false (by omega)
   have HBz := Aside0.mk (below_step HB5.out HBr.out)
   clear hI
   go_wp2
   go_ret
   exact ⟨rfl, HBz.out⟩
end Go.Proofs.Ytbncdlnnjhadgaa.Q
