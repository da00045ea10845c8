/- PagesTells: the walk, a straight line of calls. No conditions. -/
import Derived.Test.YtbpcilbplgbonaaDoorPP5
import Derived.Test.YtbpcilbplgbonaaDoorFewP
import Derived.Test.YtbpcilbplgbonaaDoorBreak
set_option linter.unusedVariables false
set_option linter.unusedSimpArgs false
namespace Go.Proofs.YtbpcilbplgbonaaDoor.Q
open Go.RowKit Go.Proofs.YtbpcilbplgbonaaDoorW.PrintWords Go.Proofs.YtbpcilbplgbonaaDoorW.PrintLast Go.Proofs.YtbpcilbplgbonaaDoorW.PrintMore
set_option maxHeartbeats 4000000 in
set_option maxRecDepth 100000 in
theorem tells_walk (K : Nat) (A0 : Option Addr) (c0 : Nat) (hs : List Int) (page gap : Int) (A3 : Option Addr) (c3 : Nat) (l : List S37) (y : List Int) (m b1 : List S37) (b2 q1 : Int) (q2 : Bool) (w : World)
    (hr0 : Kd.C (Kd.int .i64) w A0 hs.length hs) (hc0 : hs.length ≤ c0) (hr3 : Kd.C k37 w A3 l.length l) (hc3 : l.length ≤ c3) (SENTS : Aside0 (SentsE w))
    (hy : y = hs.take 101) (hm : m = fewPg l) (SH : partitalaw26_shown.f K = some true) (BR : breakP y page gap = (b1, b2)) (RB : partitaref26_Break.f K y page gap = some (b1, b2))
    (PC : pages_Cost.f K m y page gap = some (q1, q2)) (RC : partitaref26_Cost.f K m y page gap = some (q1, q2)) (SM : partitaref26_Same.f K b1 b1 = some true) :
    Calls Tryd.prog 3 #[.slice A0 hs.length c0, .int .i64 page, .int .i64 gap, .slice A3 l.length c3] w fun e w' => e = .returned (.bool true) ∧ Below w.heap.size w w' := by
  obtain ⟨j, hj, hjt⟩ := cut_len hs
  have Hy : Aside0 (y = hs.take j.toNat) := ⟨hy.trans hjt⟩
  have Hj := Aside0.mk hj
  have hr1 : Kd.C (Kd.int .i64) w A0 y.length y := by
    have h := Kd.C_take (m := j.toNat) hr0 (by split at hj <;> omega)
    rw [← Hy.out] at h; exact h
  have hc1 : y.length ≤ c0 := by rw [hy, List.length_take]; omega
  have HR0 := Aside0.mk hr0
  have HR1 := Aside0.mk hr1
  have HR3 := Aside0.mk hr3
  have HC0 := Aside0.mk hc0
  have HC1 := Aside0.mk hc1
  have HC3 := Aside0.mk hc3
  have SH' := Aside0.mk SH
  have BR' := Aside0.mk BR
  have RB' := Aside0.mk RB
  have PC' := Aside0.mk PC
  have RC' := Aside0.mk RC
  have SM' := Aside0.mk SM
  have HM := Aside0.mk hm
  clear hj hjt hr0 hr1 hr3 hc0 hc1 hc3 SH BR RB PC RC SM hm hy
  go_enter Tryd.func3, Tryd.ntmps3
  go_wp2_with (first
    | (go_at_call 9; refine (partitalaw26_shown.calls K true _ SH'.out SENTS).mono ?_; rintro e w1 ⟨rfl, hb⟩; have B1 := Aside0.mk hb; have S1 := sents_step SENTS B1.out; have Y1 := Aside0.mk (Kd.C_below HR1.out B1.out); have L1 := Aside0.mk (Kd.C_below HR3.out B1.out); clear hb)
    | (go_at_call 10; refine (Few_cut A0 hs y c0 j _ Hj.out Hy HC0.out).mono ?_; rintro e w2 ⟨rfl, rfl⟩)
    | (go_at_call 11; refine (few_calls A3 c3 l _ L1.out HC3.out).mono ?_; rintro e w3 ⟨v3, rfl, hN, hb⟩; rw [← HM.out] at hN; obtain ⟨Am, cm, rfl, hcm, hCm⟩ := Kd.N_reads hN; have B3 := Aside0.mk hb; have S3 := sents_step S1 B3.out; have Y3 := Aside0.mk (Kd.C_below Y1.out B3.out); have M3 := Aside0.mk hCm; have MC := Aside0.mk hcm; clear hb hN hCm hcm)
    | (go_at_call 12; refine (break_calls A0 c0 y page gap b1 b2 _ Y3.out HC1.out S3.out BR'.out).mono ?_; rintro e w4 ⟨v4, rfl, hS, hb⟩; obtain ⟨Ab, cb, rfl, hcb, hCb⟩ := Kd.S_reads hS; have B4 := Aside0.mk hb; have S4 := sents_step S3 B4.out; have Y4 := Aside0.mk (Kd.C_below Y3.out B4.out); have M4 := Aside0.mk (Kd.C_below M3.out B4.out); have P4 := Aside0.mk hCb; have PCb := Aside0.mk hcb; clear hb hS hCb hcb)
    | (go_at_call 13; refine (partitaref26_Break.calls K A0 c0 y page gap b1 b2 _ Y4.out HC1.out RB'.out).mono ?_; rintro e w5 ⟨v5, rfl, hS, hb⟩; obtain ⟨Ar, cr, rfl, hcr, hCr⟩ := Kd.S_reads hS; have B5 := Aside0.mk hb; have S5 := sents_step S4 B5.out; have Y5 := Aside0.mk (Kd.C_below Y4.out B5.out); have M5 := Aside0.mk (Kd.C_below M4.out B5.out); have P5 := Aside0.mk (Kd.C_below P4.out B5.out); have R5 := Aside0.mk hCr; have RCb := Aside0.mk hcr; clear hb hS hCr hcr)
    | (go_at_call 14; refine (pages_Cost.calls K Am cm m A0 c0 y page gap q1 q2 _ M5.out MC.out Y5.out HC1.out PC'.out S5).mono ?_; rintro e w6 ⟨rfl, hb⟩; have B6 := Aside0.mk hb; have Y6 := Aside0.mk (Kd.C_below Y5.out B6.out); have M6 := Aside0.mk (Kd.C_below M5.out B6.out); have P6 := Aside0.mk (Kd.C_below P5.out B6.out); have R6 := Aside0.mk (Kd.C_below R5.out B6.out); clear hb)
    | (go_at_call 15; refine (partitaref26_Cost.calls K Am cm m A0 c0 y page gap q1 q2 _ M6.out MC.out Y6.out HC1.out RC'.out).mono ?_; rintro e w7 ⟨rfl, ⟨n7, rfl⟩⟩; have P7 := Aside0.mk (Kd.C_drewN P6.out n7); have R7 := Aside0.mk (Kd.C_drewN R6.out n7))
    | (go_at_call 16; refine (partitaref26_Same.calls K Ab cb b1 Ar cr b1 true _ P7.out PCb.out R7.out RCb.out SM'.out).mono ?_; rintro e w8 ⟨rfl, ⟨n8, rfl⟩⟩))
  go_ret
  exact ⟨by first | rfl | (simp; done), by repeat (first | (with_reducible exact below_step (below_step (below_step (below_step B1.out B3.out) B4.out) B5.out) B6.out) | apply below_alloc | apply pw_below_drewN | apply below_drew1 | apply below_drew)⟩
end Go.Proofs.YtbpcilbplgbonaaDoor.Q
