/- PagesTops: the walk. No conditions. -/
import Derived.Test.YtbpcilbplgbonaaDoorPTops
import Derived.Test.YtbpcilbplgbonaaDoorFewP
import Derived.Test.YtbpcilbplgbonaaDoorBreak
import Derived.Deep.QuietTactic
import Derived.BigQuiet
set_option linter.unusedVariables false
set_option linter.unusedSimpArgs false
namespace Go.Proofs.YtbpcilbplgbonaaDoor.Q
open Go.RowKit Go.Proofs.YtbpcilbplgbonaaDoorW.PrintWords Go.Proofs.YtbpcilbplgbonaaDoorW.PrintLast Go.Proofs.YtbpcilbplgbonaaDoorW.PrintMore Go.Proofs.YtbpcilbplgbonaaDoor.Pure
theorem wboth {x r : Int} (h : -9223372036854775808 ≤ x ∧ x ≤ 9223372036854775807) (e : x = r) : IntKind.i64.wrap x = r ∧ wrap64 x = r := by
  have h2 : wrap64 x = r := by unfold wrap64; omega
  exact ⟨(i64_w x).trans h2, h2⟩
theorem below_drewN' {B : Nat} {a w : World} (h : Below B a w) (n : Nat) : Below B a (w.drewN n) := h.trans ⟨rfl, rfl, rfl, Nat.le_refl _, fun _ _ => rfl⟩
set_option maxHeartbeats 8000000 in
set_option maxRecDepth 100000 in
theorem tops_walk (K : Nat) (A0 : Option Addr) (c0 : Nat) (hs : List Int) (page gap : Int) (y : List Int) (b1 : List S37) (b2 : Int) (w : World)
    (hr0 : Kd.C (Kd.int .i64) w A0 hs.length hs) (hc0 : hs.length ≤ c0) (SENTS : Aside0 (SentsE w))
    (hy : y = hs.take 101) (SH : partitalaw26_shown.f K = some true) (BR : breakP y page gap = (b1, b2)) (P0 : b2 ≠ 0 → b1 = [])
    (P1 : b2 = 0 → PgsO y page gap 0 b1) (P2 : b1.length ≤ 1000 ∧ (b2 = 0 → 0 ≤ gap ∧ gap ≤ 100000 ∧ (∀ x ∈ y, 0 ≤ x ∧ x ≤ 100000))) :
    Calls Tryd.prog 5 #[.slice A0 hs.length c0, .int .i64 page, .int .i64 gap] w fun e w' => e = .returned (.bool true) ∧ Below w.heap.size w w' := by
  have hu37 := Tryd.underlying37
  obtain ⟨j, hj, hjt⟩ := cut_len hs
  have Hy : Aside0 (y = hs.take j.toNat) := ⟨hy.trans hjt⟩
  have Hj := Aside0.mk hj
  have hr1 : Kd.C (Kd.int .i64) w A0 y.length y := by
    have h := Kd.C_take (m := j.toNat) hr0 (by split at hj <;> omega)
    rw [← Hy.out] at h; exact h
  have hc1 : y.length ≤ c0 := by rw [hy, List.length_take]; omega
  have HYL : Aside0 (y.length ≤ 101) := ⟨by rw [hy, List.length_take]; omega⟩
  have HR0 := Aside0.mk hr0
  have HR1 := Aside0.mk hr1
  have HC0 := Aside0.mk hc0
  have HC1 := Aside0.mk hc1
  have SH' := Aside0.mk SH
  have BR' := Aside0.mk BR
  have P1' := Aside0.mk P1
  have P2' := Aside0.mk P2
  by_cases hz : b2 = 0
  · subst hz
    clear hj hjt hr0 hr1 hc0 hc1 SH BR hy P0 P1 P2
    go_enter Tryd.func5, Tryd.ntmps5
    go_wp2_with (first
      | (go_at_call 9; refine (partitalaw26_shown.calls K true _ SH'.out SENTS).mono ?_; rintro e w1 ⟨rfl, hb⟩; have B1 := Aside0.mk hb; have S1 := sents_step SENTS B1.out; have Y1 := Aside0.mk (Kd.C_below HR1.out B1.out); clear hb)
      | (go_at_call 10; refine (Few_cut A0 hs y c0 j _ Hj.out Hy HC0.out).mono ?_; rintro e w2 ⟨rfl, rfl⟩)
      | (go_at_call 12; refine (break_calls A0 c0 y page gap b1 0 _ Y1.out HC1.out S1.out BR'.out).mono ?_; rintro e w4 ⟨v4, rfl, hS, hb⟩; obtain ⟨Ab, cb, rfl, hcb, hCb⟩ := Kd.S_reads hS; have B4 := Aside0.mk hb; have Y4 := Aside0.mk (Kd.C_below Y1.out B4.out); have P4 := Aside0.mk hCb; have PCb := Aside0.mk hcb; clear hb hS hCb hcb))
    have HWW : Aside0 (Below w.heap.size w w4) := ⟨below_step B1.out B4.out⟩
    go_loopw [10, 11] (fun va vi wr => ∃ (i a : Nat) (Ii Aa : Int), va = .int .i64 Aa ∧ vi = .int .i64 Ii ∧ Aside0 (Ii = i ∧ Aa = a) ∧ i ≤ b1.length ∧ Aside0 (PgsO y page gap a (b1.drop i)) ∧ Aside0 (Below w4.heap.size w4 wr)) (fun _ vi _ => b1.length - (intOf vi).toNat)
    case atStart => exact ⟨0, 0, 0, 0, rfl, rfl, ⟨rfl, rfl⟩, by omega, ⟨by rw [List.drop_zero]; exact P1'.out trivial⟩, ⟨Below.refl _ _⟩⟩
    case round =>
      obtain ⟨i, a, Ii, Aa, rfl, rfl, HI, hil, HP, HB⟩ := hrel
      obtain ⟨hIi, hAa⟩ := HI.out
      have hsz := (HB.out).size
      by_cases hlt : i < b1.length
      · have hlt' : Ii < (b1.length : Int) := by omega
        have h0' : 0 ≤ Ii := by omega
        have hdr := List.drop_eq_getElem_cons hlt
        have hp := HP.out
        rw [hdr] at hp
        obtain ⟨b, G, hne, hrest⟩ := hp
        obtain ⟨ad, A2, c2, rfl, hx0, hx1, hx2, hx3, hx4⟩ := at_T37 P4.out Ii h0' hlt'
        have hrd : rd_T37 b1 Ii = b1[i] := by rw [hIi]; exact rd37 hlt
        rw [hrd] at hx0 hx1 hx2 hx3 hx4
        obtain ⟨X, hX⟩ : ∃ X, b1[i] = X := ⟨_, rfl⟩
        rw [hX] at hx0 hx1 hx2 hx3 hx4 G
        rw [G.f0] at hx0
        rw [G.f1] at hx1
        replace hx0 := (HB.out.cell (World.block_lt_of_cell? w4 _ hx0)).trans hx0
        replace hx1 := (HB.out.cell (World.block_lt_of_cell? w4 _ hx1)).trans hx1
        replace hx2 := (HB.out.cell (World.block_lt_of_cell? w4 _ hx2)).trans hx2
        obtain ⟨Bb, hBb⟩ : ∃ Bb : Int, Bb = (b : Int) := ⟨_, rfl⟩
        rw [← hAa] at hx0
        rw [← hBb] at hx1
        obtain ⟨NX, hNX⟩ : ∃ NX, X.f2.length = NX := ⟨_, rfl⟩
        rw [hNX] at hx2 hx3
        have E1 := Aside0.mk hIi
        have E2 := Aside0.mk hAa
        have E3 := Aside0.mk hBb
        have E4 := Aside0.mk hNX
        have E5 := Aside0.mk hX
        have HX4 := Aside0.mk hx4
        have HNE := Aside0.mk hne
        have HRE := Aside0.mk hrest
        have G' := Aside0.mk G
        have HSZ := Aside0.mk hsz
        clear hIi hAa hBb hNX hX hx4 hne hrest hrd hdr G hsz
        go_upto_region 11 with (fail)
        have hbox := heap_alloc_new wr (Obj.cells #[Value.int IntKind.i64 Aa, Value.int IntKind.i64 Bb, Value.slice A2 NX c2] 37)
        have hb1 : Below wr.heap.size wr (wr.alloc (Obj.cells #[Value.int IntKind.i64 Aa, Value.int IntKind.i64 Bb, Value.slice A2 NX c2] 37)) := (Below.refl _ wr).alloc (Nat.le_refl _) _
        generalize wr.alloc (Obj.cells #[Value.int IntKind.i64 Aa, Value.int IntKind.i64 Bb, Value.slice A2 NX c2] 37) = W1 at hbox hb1 ⊢
        have HB1 : Aside0 (Below w4.heap.size w4 W1) := ⟨HB.out.trans (hb1.mono HSZ.out)⟩
        obtain ⟨bx, hbx⟩ : ∃ bx, wr.heap.size = bx := ⟨_, rfl⟩
        rw [hbx] at hbox
        simp only [hbx]
        have HBX : Aside0 (w4.heap.size ≤ bx) := ⟨by rw [← hbx]; exact HSZ.out⟩
        have HBX2 := Aside0.mk hbox
        have hc0_ : W1.cell? ⟨bx, 0, none⟩ = some (.int .i64 Aa) := by rw [World.cell?, hbox]; rfl
        have hc1_ : W1.cell? ⟨bx, 1, none⟩ = some (.int .i64 Bb) := by rw [World.cell?, hbox]; rfl
        have hc2_ : W1.cell? ⟨bx, 2, none⟩ = some (.slice A2 NX c2) := by rw [World.cell?, hbox]; rfl
        clear hbox hb1 hbx hx0 hx1 hx2
        have g1 := G'.out.ab
        have g2 := G'.out.bl
        have g3 := G'.out.len
        have g4 := HYL.out
        have z1 := E2.out
        have z2 := E3.out
        have z3 := E4.out
        obtain ⟨Nn, hNn⟩ : ∃ Nn, Bb - Aa = Nn := ⟨_, rfl⟩
        obtain ⟨w1a, w1b⟩ := wboth (x := Bb - Aa) (r := Nn) (by omega) hNn
        have EN : Aside0 (Nn = ((b - a : Nat) : Int)) := ⟨by omega⟩
        have q1 : (Aa != Aa) = false := by simp
        have q1' : (Aa == Aa) = true := by simp
        have q2 : decide (Nn < 1) = false := by rw [decide_eq_false_iff_not]; omega
        have q3 : decide ((y.length : Int) < Bb) = false := by rw [decide_eq_false_iff_not]; omega
        have q4 : ((NX : Int) != Nn) = false := by simp; omega
        have q4' : ((NX : Int) == Nn) = true := by simp; omega
        obtain ⟨ad2, rfl, ht0⟩ := Kd.at_int HX4.out 0 (by omega) (by omega)
        rw [G'.out.top0] at ht0
        replace ht0 := (HB1.out.cell (World.block_lt_of_cell? w4 _ ht0)).trans ht0
        have ht0' : W1.cell? ad2 = some (.int .i64 0) := ht0
        have q5 : 0 < NX := by omega
        have q5' : (0 : Int) < (NX : Int) := by omega
        clear ht0 g1 g2 g3 g4 z1 z2 z3 hNn
        go_upto_region 15 with (fail)
        have HC0_ := Aside0.mk hc0_
        have HC1_ := Aside0.mk hc1_
        have HC2_ := Aside0.mk hc2_
        clear hc0_ hc1_ hc2_ ht0' q1 q1' q2 q3 q4 q4' q5 q5' w1a w1b
        go_wp2
        go_loopw [14] (fun vk wx => ∃ (k : Nat) (Kk : Int), vk = .int .i64 Kk ∧ Aside0 (Kk = k + 1) ∧ Aside0 (k + 1 ≤ b - a) ∧ Aside0 (Below w4.heap.size w4 wx) ∧ Aside0 (wx.cell? ⟨bx, 0, none⟩ = some (.int .i64 Aa)) ∧ Aside0 (wx.cell? ⟨bx, 1, none⟩ = some (.int .i64 Bb)) ∧ Aside0 (wx.cell? ⟨bx, 2, none⟩ = some (.slice (some ad2) NX c2))) (fun vk _ => (b - a + 1) - (intOf vk).toNat)
        case atStart => exact ⟨0, 1, rfl, ⟨by omega⟩, ⟨by have := G'.out.ab; omega⟩, HB1, HC0_, HC1_, HC2_⟩
        case round =>
          obtain ⟨k, Kk, rfl, HK, HK2, HBx, H0, H1, H2⟩ := hrel
          have hc0_ := H0.out
          have hc1_ := H1.out
          have hc2_ := H2.out
          have g1 := G'.out.ab
          have g2 := G'.out.bl
          have g3 := G'.out.len
          have g4 := HYL.out
          have z1 := E2.out
          have z2 := E3.out
          have z3 := E4.out
          have z4 := EN.out
          have z5 := HK.out
          have z6 := HK2.out
          by_cases hk : k + 1 < b - a
          · have hkN : Kk < Nn := by omega
            obtain ⟨P, hP⟩ : ∃ P, Kk - 1 = P := ⟨_, rfl⟩
            obtain ⟨S1, hS1⟩ : ∃ S1, Aa + Kk = S1 := ⟨_, rfl⟩
            obtain ⟨S2, hS2⟩ : ∃ S2, S1 - 1 = S2 := ⟨_, rfl⟩
            obtain ⟨K2, hK2⟩ : ∃ K2, Kk + 1 = K2 := ⟨_, rfl⟩
            obtain ⟨p1, p1'⟩ := wboth (x := Kk - 1) (r := P) (by omega) hP
            obtain ⟨p2, p2'⟩ := wboth (x := Aa + Kk) (r := S1) (by omega) hS1
            obtain ⟨p3, p3'⟩ := wboth (x := S1 - 1) (r := S2) (by omega) hS2
            obtain ⟨p4, p4'⟩ := wboth (x := Kk + 1) (r := K2) (by omega) hK2
            obtain ⟨a1, e1, t1⟩ := Kd.at_int HX4.out Kk (by omega) (by omega)
            obtain ⟨a2, e2, t2⟩ := Kd.at_int HX4.out P (by omega) (by omega)
            obtain ⟨a3, e3, t3⟩ := Kd.at_int Y4.out S2 (by omega) (by omega)
            obtain rfl : ad2 = a1 := by injection e1
            obtain rfl : ad2 = a2 := by injection e2
            subst e3
            have r1 := G'.out.rise k (by omega)
            have r2 := G'.out.range k (by omega)
            have r3 := G'.out.range (k + 1) (by omega)
            have r4 := (P2'.out.2 trivial)
            have r5 : 0 ≤ rd y S2 ∧ rd y S2 ≤ 100000 := by
              have : S2 = ((a + k : Nat) : Int) := by omega
              rw [this, rd_get (show a + k < y.length by omega)]
              exact r4.2.2 _ (List.getElem_mem _)
            rw [show ((a + k : Nat) : Int) = S2 by omega, show ((k : Nat) : Int) = P by omega] at r1
            rw [show ((k + 1 : Nat) : Int) = Kk by omega] at r1 r3
            rw [show ((k : Nat) : Int) = P by omega] at r2
            replace t1 := (HBx.out.cell (World.block_lt_of_cell? w4 _ t1)).trans t1
            replace t2 := (HBx.out.cell (World.block_lt_of_cell? w4 _ t2)).trans t2
            replace t3 := (HBx.out.cell (World.block_lt_of_cell? w4 _ t3)).trans t3
            obtain ⟨T1, hT1⟩ : ∃ T1, rd X.f2 Kk = T1 := ⟨_, rfl⟩
            obtain ⟨T0, hT0⟩ : ∃ T0, rd X.f2 P = T0 := ⟨_, rfl⟩
            obtain ⟨Hh, hHh⟩ : ∃ Hh, rd y S2 = Hh := ⟨_, rfl⟩
            rw [hT1] at t1 r1 r3
            rw [hT0] at t2 r1 r2
            rw [hHh] at t3 r1 r5
            obtain ⟨U1, hU1⟩ : ∃ U1, T0 + Hh = U1 := ⟨_, rfl⟩
            obtain ⟨U2, hU2⟩ : ∃ U2, U1 + gap = U2 := ⟨_, rfl⟩
            obtain ⟨p5, p5'⟩ := wboth (x := T0 + Hh) (r := U1) (by omega) hU1
            obtain ⟨p6, p6'⟩ := wboth (x := U1 + gap) (r := U2) (by omega) hU2
            have q6 : decide (T1 < U2) = false := by rw [decide_eq_false_iff_not]; omega
            have i1 : 0 ≤ Kk := by omega
            have i2 : Kk < (NX : Int) := by omega
            have i3 : 0 ≤ P := by omega
            have i4 : P < (NX : Int) := by omega
            have i5 : 0 ≤ S2 := by omega
            have i6 : S2 < (y.length : Int) := by omega
            have HK3 : Aside0 (K2 = ((k + 1 : Nat) : Int) + 1) := ⟨by omega⟩
            have HK4 : Aside0 (k + 1 + 1 ≤ b - a) := ⟨by omega⟩
            have HM : Aside0 ((b - a + 1) - K2.toNat < (b - a + 1) - Kk.toNat) := ⟨by omega⟩
            clear g1 g2 g3 g4 z1 z2 z3 z4 z5 z6 hk hP hS1 hS2 hK2 hT1 hT0 hHh hU1 hU2 r1 r2 r3 r4 r5 e1 e2
            go_upto_region 18 with (fail)
            go_quiet (fail)
            go_wp2
            go_roundw
            case rel => exact ⟨k + 1, K2, rfl, HK3, HK4, ⟨below_drewN' HBx.out nq⟩, ⟨by simpa using hc0_⟩, ⟨by simpa using hc1_⟩, ⟨by simpa using hc2_⟩⟩
            case measure => exact HM.out
          · have hkN : decide (Kk < Nn) = false := by rw [decide_eq_false_iff_not]; omega
            obtain ⟨M, hM⟩ : ∃ M, Nn - 1 = M := ⟨_, rfl⟩
            obtain ⟨Q, hQ⟩ : ∃ Q, Bb - 1 = Q := ⟨_, rfl⟩
            obtain ⟨I2, hI2⟩ : ∃ I2, Ii + 1 = I2 := ⟨_, rfl⟩
            have hL := P2'.out.1
            have z0 := E1.out
            obtain ⟨p1, p1'⟩ := wboth (x := Nn - 1) (r := M) (by omega) hM
            obtain ⟨p2, p2'⟩ := wboth (x := Bb - 1) (r := Q) (by omega) hQ
            obtain ⟨p3, p3'⟩ := wboth (x := Ii + 1) (r := I2) (by omega) hI2
            obtain ⟨a1, e1, t1⟩ := Kd.at_int HX4.out M (by omega) (by omega)
            obtain ⟨a3, e3, t3⟩ := Kd.at_int Y4.out Q (by omega) (by omega)
            obtain rfl : ad2 = a1 := by injection e1
            subst e3
            have r1 := G'.out.fits
            have r2 := G'.out.range (b - a - 1) (by omega)
            have r3 := G'.out.full
            have r4 := (P2'.out.2 trivial)
            have r5 : 0 ≤ rd y Q ∧ rd y Q ≤ 100000 := by
              have : Q = ((b - 1 : Nat) : Int) := by omega
              rw [this, rd_get (show b - 1 < y.length by omega)]
              exact r4.2.2 _ (List.getElem_mem _)
            rw [show ((b - a - 1 : Nat) : Int) = M by omega, show ((b - 1 : Nat) : Int) = Q by omega] at r1 r3
            rw [show ((b - a - 1 : Nat) : Int) = M by omega] at r2
            replace t1 := (HBx.out.cell (World.block_lt_of_cell? w4 _ t1)).trans t1
            replace t3 := (HBx.out.cell (World.block_lt_of_cell? w4 _ t3)).trans t3
            obtain ⟨T1, hT1⟩ : ∃ T1, rd X.f2 M = T1 := ⟨_, rfl⟩
            obtain ⟨Hh, hHh⟩ : ∃ Hh, rd y Q = Hh := ⟨_, rfl⟩
            rw [hT1] at t1 r1 r2 r3
            rw [hHh] at t3 r1 r3 r5
            obtain ⟨E, hE⟩ : ∃ E, T1 + Hh = E := ⟨_, rfl⟩
            rw [hE] at r1 r3
            obtain ⟨p5, p5'⟩ := wboth (x := T1 + Hh) (r := E) (by omega) hE
            have q6 : decide (page < E) = false := by rw [decide_eq_false_iff_not]; omega
            have i1 : 0 ≤ M := by omega
            have i2 : M < (NX : Int) := by omega
            have i5 : 0 ≤ Q := by omega
            have i6 : Q < (y.length : Int) := by omega
            have HR1 : Aside0 (I2 = ((i + 1 : Nat) : Int) ∧ Bb = (b : Int)) := ⟨by omega, by omega⟩
            have HR2 : i + 1 ≤ b1.length := by omega
            have HM : Aside0 (b1.length - I2.toNat < b1.length - Ii.toNat) := ⟨by omega⟩
            have q7 : (I2 < (b1.length : Int) ∧ 1 < Nn ∧ E = page) ∨ (I2 < (b1.length : Int) ∧ ¬ 1 < Nn) ∨ ¬ I2 < (b1.length : Int) := by
              by_cases u : I2 < (b1.length : Int)
              · by_cases v : 1 < Nn
                · refine .inl ⟨u, v, r3 (HNE.out ?_) (by omega)⟩
                  intro hd
                  have := congrArg List.length hd
                  rw [List.length_drop] at this
                  simp only [List.length_nil] at this
                  omega
                · exact .inr (.inl ⟨u, v⟩)
              · exact .inr (.inr u)
            have HIL := Aside0.mk hL
            clear g1 g2 g3 g4 z0 z1 z2 z3 z4 z5 z6 hk hM hQ hI2 hT1 hHh hE r1 r2 r3 r4 r5 e1 hL
            go_upto_region 20 with (fail)
            go_quiet (fail)
            rcases q7 with ⟨u, v, rfl⟩ | ⟨u, v⟩ | u
            · have u' : decide (I2 < (b1.length : Int)) = true := decide_eq_true u
              have v' : decide (1 < Nn) = true := decide_eq_true v
              go_wp2
              go_roundw
              case rel => exact ⟨i + 1, b, I2, Bb, rfl, rfl, HR1, HR2, HRE, ⟨below_drewN' HBx.out nq⟩⟩
              case measure => exact HM.out
            · have u' : decide (I2 < (b1.length : Int)) = true := decide_eq_true u
              have v' : decide (1 < Nn) = false := decide_eq_false v
              go_wp2
              go_roundw
              case rel => exact ⟨i + 1, b, I2, Bb, rfl, rfl, HR1, HR2, HRE, ⟨below_drewN' HBx.out nq⟩⟩
              case measure => exact HM.out
            · have u' : decide (I2 < (b1.length : Int)) = false := decide_eq_false u
              go_wp2
              go_roundw
              case rel => exact ⟨i + 1, b, I2, Bb, rfl, rfl, HR1, HR2, HRE, ⟨below_drewN' HBx.out nq⟩⟩
              case measure => exact HM.out
      · have hd : b1.drop i = [] := List.drop_eq_nil_of_le (by omega)
        have hp := HP.out
        rw [hd] at hp
        have hp2 : a = y.length := hp
        have hq : decide (Ii < (b1.length : Int)) = false := by rw [decide_eq_false_iff_not]; omega
        have hq2 : Aa = (y.length : Int) := by omega
        subst hq2
        have HBB : Aside0 (Below w.heap.size w wr) := ⟨below_step HWW.out HB.out⟩
        clear hIi hAa hp hp2 hd HI HP hil hlt hsz
        go_wp2
        go_ret
        exact ⟨rfl, HBB.out⟩
  · have hb1 := P0 hz
    subst hb1
    have hz' : (b2 == 0) = false := by simpa using hz
    have hz2 : (b2 != 0) = true := by simpa using hz
    clear hj hjt hr0 hr1 hc0 hc1 SH BR hy P0 P1 P2 hz
    go_enter Tryd.func5, Tryd.ntmps5
    go_wp2_with (first
      | (go_at_call 9; refine (partitalaw26_shown.calls K true _ SH'.out SENTS).mono ?_; rintro e w1 ⟨rfl, hb⟩; have B1 := Aside0.mk hb; have S1 := sents_step SENTS B1.out; have Y1 := Aside0.mk (Kd.C_below HR1.out B1.out); clear hb)
      | (go_at_call 10; refine (Few_cut A0 hs y c0 j _ Hj.out Hy HC0.out).mono ?_; rintro e w2 ⟨rfl, rfl⟩)
      | (go_at_call 12; refine (break_calls A0 c0 y page gap [] b2 _ Y1.out HC1.out S1.out BR'.out).mono ?_; rintro e w4 ⟨v4, rfl, hS, hb⟩; obtain ⟨Ab, cb, rfl, hcb, hCb⟩ := Kd.S_reads hS; have B4 := Aside0.mk hb; clear hb hS hCb hcb))
    go_ret
    exact ⟨rfl, below_step B1.out B4.out⟩
end Go.Proofs.YtbpcilbplgbonaaDoor.Q
