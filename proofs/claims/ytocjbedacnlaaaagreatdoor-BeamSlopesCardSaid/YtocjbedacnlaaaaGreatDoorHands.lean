/- Hand texts, laid as one (merge23.py). No conditions. -/
import Derived.Test.YtocjbedacnlaaaaGreatDoorQ13
import Derived.Test.YtocjbedacnlaaaaGreatDoorQ7
import Derived.Test.YtocjbedacnlaaaaGreatDoorQ15
import Derived.Test.YtocjbedacnlaaaaGreatDoorHandA
import Derived.RegionTactic
import Derived.ChangeAlike
import Derived.BigRegion
/- What the chapter's own examples are, in plain Lean. No conditions. -/
namespace Go.Proofs.YtocjbedacnlaaaaGreatDoor.Q
open Go.RowKit Go.Shelf Go.Proofs.YtocjbedacnlaaaaGreatDoorW.PrintWords Go.Proofs.YtocjbedacnlaaaaGreatDoorW.PrintLast
set_option linter.unusedVariables false
def E8 : S41 := ⟨1, [⟨0, 0, 4⟩], [false], ⟨3, 0, 0, 0⟩, [], ⟨#[]⟩⟩
def LB : List S49 := [⟨0, 1, [1, 1]⟩, ⟨2, 3, [1, 1]⟩]
deriving instance DecidableEq for S49
theorem sg1 : beam_Groups.f 40 2 4 [] [E8, E8, E8, E8] = some (LB, 0) := by decide +kernel
theorem sg2 : beam_Groups.f 40 1 8 [] [E8, E8] = some ([], 230) := by decide +kernel
theorem ss1 : beam_Slope.f 40 [0, 4, 2] true = some ([8, 9, 10], 0) := by decide +kernel
theorem ss2 : beam_Slope.f 40 [0, -4, -2] false = some ([-8, -9, -10], 0) := by decide +kernel
theorem ss3 : beam_Slope.f 40 [0] true = some ([], 230) := by decide +kernel
theorem sa1 : partitaref23_Same.f 40 LB LB = some true := by decide +kernel
theorem si1 : partitaref23_Ints.f 40 [8, 9, 10] [8, 9, 10] = some true := by decide +kernel
theorem si2 : partitaref23_Ints.f 40 [-8, -9, -10] [-8, -9, -10] = some true := by decide +kernel
/-- An eighth's cells. -/
def e8c (A1 : Option Addr) (c1 : Nat) (A2 : Option Addr) (c2 : Nat) (A7 : Option Addr) (c7 : Nat) : List Value := [.int .i64 1, .slice A1 1 c1, .slice A2 1 c2, .int .i64 3, .int .i64 0, .int .i64 0, .int .i64 0, .slice A7 0 c7, .string ⟨#[]⟩]
theorem e8_K {W : World} {A1 c1 A2 c2 A7 c7} (l1 : 1 ≤ c1) (g1 : k43.C W A1 1 [⟨0, 0, 4⟩]) (l2 : 1 ≤ c2) (g2 : Kd.bool.C W A2 1 [false]) (l7 : 0 ≤ c7) (g7 : (Kd.int .i64).C W A7 0 []) : k41.K W E8 (e8c A1 c1 A2 c2 A7 c7) := k41_mk W E8 l1 g1 l2 g2 l7 g7
theorem e8_C {W : World} {b t : Nat} {A1 c1 A2 c2 A7 c7} (n : Nat) (hn : n ≤ 9) (hK : k41.K W E8 (e8c A1 c1 A2 c2 A7 c7)) (h : W.heap[b]? = some (.cells ((List.replicate n (e8c A1 c1 A2 c2 A7 c7)).flatten).toArray t (0, 0))) : k41.C W (some ⟨b, 0, none⟩) n (List.replicate n E8) := by
  refine ⟨by simp, by omega, fun _ => ⟨_, rfl, fun j p hp => ?_⟩⟩
  obtain ⟨hj, rfl⟩ := List.getElem?_eq_some_iff.1 hp
  rw [List.length_replicate] at hj
  rw [List.getElem_replicate]
  refine ⟨_, rfl, hK, fun i u hu => ?_⟩
  rw [Addr.add_lit]
  refine (blk_cell h _).trans ?_
  rw [Nat.zero_add, List.getElem?_toArray]
  have hi : i < 9 := (List.getElem?_eq_some_iff.1 hu).1
  show ((List.replicate n (e8c A1 c1 A2 c2 A7 c7)).flatten)[j * 9 + i]? = some u
  rw [← hu]
  clear h hp hK hu u
  revert hn hj hi
  have key : ∀ (n j : Nat), j < n → i < 9 → ((List.replicate n (e8c A1 c1 A2 c2 A7 c7)).flatten)[j * 9 + i]? = (e8c A1 c1 A2 c2 A7 c7)[i]? := by
    intro n
    induction n with
    | zero => intro j h; omega
    | succ n ih =>
      intro j hj hi
      rw [List.replicate_succ, List.flatten_cons]
      cases j with
      | zero => rw [Nat.zero_mul, Nat.zero_add, List.getElem?_append_left hi]
      | succ j =>
        rw [List.getElem?_append_right (by show 9 ≤ _; omega)]
        rw [show (j + 1) * 9 + i - (e8c A1 c1 A2 c2 A7 c7).length = j * 9 + i from by show (j + 1) * 9 + i - 9 = _; omega]
        exact ih j (by omega) hi
  intro _ hj hi
  exact key n j hj hi
theorem C_three {W : World} {b : Nat} {x y z : Int} {t : TypeId} (h : W.heap[b]? = some (.cells #[.int .i64 x, .int .i64 y, .int .i64 z] t (0, 0))) : Kd.C (Kd.int .i64) W (some ⟨b, 0, none⟩) [x, y, z].length [x, y, z] := by
  refine Kd.C_of_reads (enc := Value.int .i64) (d := (0 : Int)) (h1 := fun _ => rfl) ⟨rfl, by simp, fun _ => ⟨_, rfl, fun j hj => ?_⟩⟩
  simp only [List.length_cons, List.length_nil] at hj
  rw [Addr.add_mid, Nat.zero_add]
  match j, hj with
  | 0, _ => exact (blk_cell h 0).trans rfl
  | 1, _ => exact (blk_cell h 1).trans rfl
  | 2, _ => exact (blk_cell h 2).trans rfl
theorem C_one {W : World} {b : Nat} {x : Int} {t : TypeId} (h : W.heap[b]? = some (.cells #[.int .i64 x] t (0, 0))) : Kd.C (Kd.int .i64) W (some ⟨b, 0, none⟩) [x].length [x] := by
  refine Kd.C_of_reads (enc := Value.int .i64) (d := (0 : Int)) (h1 := fun _ => rfl) ⟨rfl, by simp, fun _ => ⟨_, rfl, fun j hj => ?_⟩⟩
  simp only [List.length_cons, List.length_nil] at hj
  rw [Addr.add_mid, Nat.zero_add]
  match j, hj with
  | 0, _ => exact (blk_cell h 0).trans rfl
/-- The known beams, where they lie. -/
theorem LB_C {W : World} {b d1 d2 : Nat} {t : TypeId} (h1 : Kd.C (Kd.int .i64) W (some ⟨d1, 0, none⟩) 2 [1, 1]) (h2 : Kd.C (Kd.int .i64) W (some ⟨d2, 0, none⟩) 2 [1, 1]) (h : W.heap[b]? = some (.cells #[.int .i64 0, .int .i64 1, .slice (some ⟨d1, 0, none⟩) 2 2, .int .i64 2, .int .i64 3, .slice (some ⟨d2, 0, none⟩) 2 2] t (0, 0))) : k49.C W (some ⟨b, 0, none⟩) 2 LB := by
  refine ⟨rfl, by omega, fun _ => ⟨_, rfl, fun j p hp => ?_⟩⟩
  match j, hp with
  | 0, hp =>
    obtain rfl := Option.some.inj hp
    refine ⟨_, rfl, k49_mk W ⟨0, 1, [1, 1]⟩ (Nat.le_refl 2) h1, fun i u hu => ?_⟩
    rw [Addr.add_lit]
    refine (blk_cell h _).trans ?_
    match i, hu with
    | 0, hu => exact hu
    | 1, hu => exact hu
    | 2, hu => exact hu
    | i + 3, hu => simp at hu
  | 1, hp =>
    obtain rfl := Option.some.inj hp
    refine ⟨_, rfl, k49_mk W ⟨2, 3, [1, 1]⟩ (Nat.le_refl 2) h2, fun i u hu => ?_⟩
    rw [Addr.add_lit]
    refine (blk_cell h _).trans ?_
    match i, hu with
    | 0, hu => exact hu
    | 1, hu => exact hu
    | 2, hu => exact hu
    | i + 3, hu => simp at hu
  | j + 2, hp => simp [LB] at hp
end Go.Proofs.YtocjbedacnlaaaaGreatDoor.Q
/- The chapter's own examples: the walk. No conditions. -/
namespace Go.Proofs.YtocjbedacnlaaaaGreatDoor.Q
open Go.RowKit Go.Shelf Go.Proofs.YtocjbedacnlaaaaGreatDoorW.PrintWords Go.Proofs.YtocjbedacnlaaaaGreatDoorW.PrintLast
set_option linter.unusedVariables false
set_option linter.unusedSimpArgs false
set_option maxHeartbeats 8000000 in
set_option maxRecDepth 100000 in
theorem shown_calls (w : World) (hS : SentsE w) (hE : Calls Tryz.prog 21 #[] w fun e w' => ∃ v1_ v2_ v7_ : Value, e = .returned (.agg #[.int .i64 1, v1_, v2_, .int .i64 3, .int .i64 0, .int .i64 0, .int .i64 0, v7_, .string ⟨#[]⟩]) ∧ Kd.R k43 43 w' w.heap.size (fun _ => True) v1_ [⟨0, 0, 4⟩] ∧ Kd.R Kd.bool 4 w' w.heap.size (fun _ => True) v2_ [false] ∧ Kd.R (Kd.int .i64) 3 w' w.heap.size (fun _ => True) v7_ [] ∧ Below w.heap.size w w') : Calls Tryz.prog 11 #[] w fun e w' => e = .returned (.bool true) ∧ Below w.heap.size w w' := by
  have hu29 := Tryz.underlying29
  have hu30 := Tryz.underlying30
  have hu32 := Tryz.underlying32
  have hu33 := Tryz.underlying33
  have hu41 := Tryz.underlying41
  have hu49 := Tryz.underlying49
  have HSE := Aside0.mk hS
  have HEI := Aside0.mk hE
  clear hS hE
  go_enter Tryz.func11, Tryz.ntmps11
  go_wp2_with (fail)
  go_at_call 21
  refine HEI.out.mono ?_
  rintro e w1 ⟨v1, v2, v7, rfl, h1, h2, h7, hb1⟩
  obtain ⟨A1, c1, rfl⟩ := Kd.R_slice h1
  obtain ⟨A2, c2, rfl⟩ := Kd.R_slice h2
  obtain ⟨A7, c7, rfl⟩ := Kd.R_slice h7
  have HB1 := Aside0.mk hb1
  have HE := Aside0.mk (e8_K (Kd.R_reads' h1).2.1 (Kd.R_reads' h1).2.2 (Kd.R_reads' h2).2.1 (Kd.R_reads' h2).2.2 (Kd.R_reads' h7).2.1 (Kd.R_reads' h7).2.2)
  simp only [List.length_cons, List.length_nil, Nat.reduceAdd]
  clear h1 h2 h7 hb1
  go_wp2_with (fail)
  have hE2 : k41.K ((w1.alloc (.cells (e8c A1 c1 A2 c2 A7 c7).toArray 41)).alloc (.cells ((List.replicate 4 (e8c A1 c1 A2 c2 A7 c7)).flatten).toArray 41)) E8 (e8c A1 c1 A2 c2 A7 c7) := k41.K_below (below_alloc (below_alloc (Below.refl _ _) _) _) HE.out
  have hL2 := blk_new (w1.alloc (.cells (e8c A1 c1 A2 c2 A7 c7).toArray 41)) (.cells ((List.replicate 4 (e8c A1 c1 A2 c2 A7 c7)).flatten).toArray 41)
  have hM2 := blk_alloc (blk_new w1 (.cells (e8c A1 c1 A2 c2 A7 c7).toArray 41)) (.cells ((List.replicate 4 (e8c A1 c1 A2 c2 A7 c7)).flatten).toArray 41)
  have hB2 := below_alloc (below_alloc HB1.out (.cells (e8c A1 c1 A2 c2 A7 c7).toArray 41)) (.cells ((List.replicate 4 (e8c A1 c1 A2 c2 A7 c7)).flatten).toArray 41)
  refine (beam_Groups.calls 40 2 4 none 0 [] _ 4 [E8, E8, E8, E8] LB 0 ((w1.alloc (.cells (e8c A1 c1 A2 c2 A7 c7).toArray 41)).alloc (.cells ((List.replicate 4 (e8c A1 c1 A2 c2 A7 c7)).flatten).toArray 41)) (Kd.C_nil _ _) (Nat.le_refl _) (e8_C 4 (by omega) hE2 (by rw [World.size_alloc] at hL2; exact hL2)) (Nat.le_refl _) sg1 ⟨HSE.out.below hB2⟩).mono ?_
  rintro e w2 ⟨v, rfl, hS2, hb2⟩
  obtain ⟨Al, cl, rfl⟩ := Kd.S_slice hS2
  have HLB := Aside0.mk (Kd.R_reads' (Kd.S_R hS2)).2
  have HM2 := Aside0.mk (blk_below hM2 hb2)
  have HE2 := Aside0.mk (k41.K_below hb2 hE2)
  have HB2 := Aside0.mk (below_step hB2 hb2)
  have a0 : w2.cell? ⟨w1.heap.size, 0, none⟩ = some (.int .i64 1) := (blk_cell HM2.out 0).trans rfl
  have a1 : w2.cell? ⟨w1.heap.size, 1, none⟩ = some (.slice A1 1 c1) := (blk_cell HM2.out 1).trans rfl
  have a2 : w2.cell? ⟨w1.heap.size, 2, none⟩ = some (.slice A2 1 c2) := (blk_cell HM2.out 2).trans rfl
  have a3 : w2.cell? ⟨w1.heap.size, 3, none⟩ = some (.int .i64 3) := (blk_cell HM2.out 3).trans rfl
  have a4 : w2.cell? ⟨w1.heap.size, 4, none⟩ = some (.int .i64 0) := (blk_cell HM2.out 4).trans rfl
  have a5 : w2.cell? ⟨w1.heap.size, 5, none⟩ = some (.int .i64 0) := (blk_cell HM2.out 5).trans rfl
  have a6 : w2.cell? ⟨w1.heap.size, 6, none⟩ = some (.int .i64 0) := (blk_cell HM2.out 6).trans rfl
  have a7 : w2.cell? ⟨w1.heap.size, 7, none⟩ = some (.slice A7 0 c7) := (blk_cell HM2.out 7).trans rfl
  have a8 : w2.cell? ⟨w1.heap.size, 8, none⟩ = some (.string ⟨#[]⟩) := (blk_cell HM2.out 8).trans rfl
  clear hE2 hL2 hM2 hB2 hb2 hS2
  go_wp2_with (fail)
  clear a0 a1 a2 a3 a4 a5 a6 a7 a8
  have hE3 := k41.K_below (below_alloc (Below.refl w2.heap.size w2) (.cells ((List.replicate 2 (e8c A1 c1 A2 c2 A7 c7)).flatten).toArray 41)) HE2.out
  have hL3 := blk_new w2 (.cells ((List.replicate 2 (e8c A1 c1 A2 c2 A7 c7)).flatten).toArray 41)
  have hB3 := below_alloc HB2.out (.cells ((List.replicate 2 (e8c A1 c1 A2 c2 A7 c7)).flatten).toArray 41)
  refine (beam_Groups.calls 40 1 8 none 0 [] _ 2 [E8, E8] [] 230 (w2.alloc (.cells ((List.replicate 2 (e8c A1 c1 A2 c2 A7 c7)).flatten).toArray 41)) (Kd.C_nil _ _) (Nat.le_refl _) (e8_C 2 (by omega) hE3 hL3) (Nat.le_refl _) sg2 ⟨HSE.out.below hB3⟩).mono ?_
  rintro e w3 ⟨v3, rfl, hS3, hb3⟩
  have HLB3 := Aside0.mk (And.intro HLB.out.1 (Kd.C_below (Kd.C_below HLB.out.2 (below_alloc (Below.refl _ _) _)) hb3))
  have HB3 := Aside0.mk (below_step hB3 hb3)
  clear hE3 hL3 hB3 hb3 hS3 HLB HM2 HE2 HB2
  go_wp2_with (fail)
  have hL4 := blk_new w3 (.cells #[.int .i64 0, .int .i64 4, .int .i64 2] 3)
  have hB4 := below_alloc HB3.out (.cells #[.int .i64 0, .int .i64 4, .int .i64 2] 3)
  refine (beam_Slope.calls 40 (some ⟨w3.heap.size, 0, none⟩) 3 [0, 4, 2] true [8, 9, 10] 0 _ (C_three hL4) (Nat.le_refl _) ss1 ⟨HSE.out.below hB4⟩).mono ?_
  rintro e w4 ⟨v4, rfl, hS4, hb4⟩
  obtain ⟨As, cs, rfl⟩ := Kd.R_slice hS4
  have HS4 := Aside0.mk (Kd.R_reads' hS4).2
  have HLB4 := Aside0.mk (And.intro HLB3.out.1 (Kd.C_below (Kd.C_below HLB3.out.2 (below_alloc (Below.refl _ _) _)) hb4))
  have HB4 := Aside0.mk (below_step hB4 hb4)
  clear hL4 hB4 hb4 hS4 HLB3 HB3
  go_wp2_with (fail)
  have hL5 := blk_new w4 (.cells #[.int .i64 0, .int .i64 (-4), .int .i64 (-2)] 3)
  have hB5 := below_alloc HB4.out (.cells #[.int .i64 0, .int .i64 (-4), .int .i64 (-2)] 3)
  refine (beam_Slope.calls 40 (some ⟨w4.heap.size, 0, none⟩) 3 [0, -4, -2] false [-8, -9, -10] 0 _ (C_three hL5) (Nat.le_refl _) ss2 ⟨HSE.out.below hB5⟩).mono ?_
  rintro e w5 ⟨v5, rfl, hS5, hb5⟩
  obtain ⟨At, ct, rfl⟩ := Kd.R_slice hS5
  have HT5 := Aside0.mk (Kd.R_reads' hS5).2
  have HS5 := Aside0.mk (And.intro HS4.out.1 (Kd.C_below (Kd.C_below HS4.out.2 (below_alloc (Below.refl _ _) _)) hb5))
  have HLB5 := Aside0.mk (And.intro HLB4.out.1 (Kd.C_below (Kd.C_below HLB4.out.2 (below_alloc (Below.refl _ _) _)) hb5))
  have HB5 := Aside0.mk (below_step hB5 hb5)
  clear hL5 hB5 hb5 hS5 HLB4 HS4 HB4
  go_wp2_with (fail)
  have hL6 := blk_new w5 (.cells #[.int .i64 0] 3)
  have hB6 := below_alloc HB5.out (.cells #[.int .i64 0] 3)
  refine (beam_Slope.calls 40 (some ⟨w5.heap.size, 0, none⟩) 1 [0] true [] 230 _ (C_one hL6) (Nat.le_refl _) ss3 ⟨HSE.out.below hB6⟩).mono ?_
  rintro e w6 ⟨v6, rfl, hS6, hb6⟩
  have HT6 := Aside0.mk (And.intro HT5.out.1 (Kd.C_below (Kd.C_below HT5.out.2 (below_alloc (Below.refl _ _) _)) hb6))
  have HS6 := Aside0.mk (And.intro HS5.out.1 (Kd.C_below (Kd.C_below HS5.out.2 (below_alloc (Below.refl _ _) _)) hb6))
  have HLB6 := Aside0.mk (And.intro HLB5.out.1 (Kd.C_below (Kd.C_below HLB5.out.2 (below_alloc (Below.refl _ _) _)) hb6))
  have HB6 := Aside0.mk (below_step hB6 hb6)
  clear hL6 hB6 hb6 hS6 HLB5 HS5 HT5 HB5
  go_wp2_with (fail)
  have hM7 := blk_alloc (blk_alloc (blk_new w6 (.cells #[.int .i64 1, .int .i64 1] 3)) (.cells #[.int .i64 1, .int .i64 1] 3)) (.cells #[.int .i64 0, .int .i64 1, .slice (some ⟨w6.heap.size, 0, none⟩) 2 2, .int .i64 2, .int .i64 3, .slice (some ⟨w6.heap.size + 1, 0, none⟩) 2 2] 49)
  have hN7 := blk_alloc (blk_new (w6.alloc (.cells #[.int .i64 1, .int .i64 1] 3)) (.cells #[.int .i64 1, .int .i64 1] 3)) (.cells #[.int .i64 0, .int .i64 1, .slice (some ⟨w6.heap.size, 0, none⟩) 2 2, .int .i64 2, .int .i64 3, .slice (some ⟨w6.heap.size + 1, 0, none⟩) 2 2] 49)
  have hL7 := blk_new ((w6.alloc (.cells #[.int .i64 1, .int .i64 1] 3)).alloc (.cells #[.int .i64 1, .int .i64 1] 3)) (.cells #[.int .i64 0, .int .i64 1, .slice (some ⟨w6.heap.size, 0, none⟩) 2 2, .int .i64 2, .int .i64 3, .slice (some ⟨w6.heap.size + 1, 0, none⟩) 2 2] 49)
  have hB67 := below_alloc (below_alloc (below_alloc (Below.refl w6.heap.size w6) (.cells #[.int .i64 1, .int .i64 1] 3)) (.cells #[.int .i64 1, .int .i64 1] 3)) (.cells #[.int .i64 0, .int .i64 1, .slice (some ⟨w6.heap.size, 0, none⟩) 2 2, .int .i64 2, .int .i64 3, .slice (some ⟨w6.heap.size + 1, 0, none⟩) 2 2] 49)
  rw [World.size_alloc] at hN7
  rw [World.size_alloc, World.size_alloc] at hL7
  generalize (((w6.alloc (.cells #[.int .i64 1, .int .i64 1] 3)).alloc (.cells #[.int .i64 1, .int .i64 1] 3)).alloc (.cells #[.int .i64 0, .int .i64 1, .slice (some ⟨w6.heap.size, 0, none⟩) 2 2, .int .i64 2, .int .i64 3, .slice (some ⟨w6.heap.size + 1, 0, none⟩) 2 2] 49)) = X7 at *
  refine (partitaref23_Same.calls 40 Al cl LB (some ⟨w6.heap.size + 1 + 1, 0, none⟩) 2 LB true X7 (Kd.C_below HLB6.out.2 hB67) HLB6.out.1 (LB_C (C_two hM7) (C_two hN7) hL7) (Nat.le_refl _) sa1).mono ?_
  rintro e w7 ⟨rfl, hb7⟩
  have HT7 := Aside0.mk (And.intro HT6.out.1 (Kd.C_below (Kd.C_below HT6.out.2 hB67) hb7))
  have HS7 := Aside0.mk (And.intro HS6.out.1 (Kd.C_below (Kd.C_below HS6.out.2 hB67) hb7))
  have HB7 := Aside0.mk (below_step (HB6.out.trans (hB67.mono HB6.out.size)) hb7)
  clear hM7 hN7 hL7 hB67 hb7 HT6 HS6 HLB6 HB6
  go_wp2_with (fail)
  have hL8 := blk_new w7 (.cells #[.int .i64 8, .int .i64 9, .int .i64 10] 3)
  have hB8 := below_alloc (Below.refl w7.heap.size w7) (.cells #[.int .i64 8, .int .i64 9, .int .i64 10] 3)
  refine (partitaref23_Ints.calls 40 As cs [8, 9, 10] (some ⟨w7.heap.size, 0, none⟩) 3 [8, 9, 10] true _ (Kd.C_below HS7.out.2 hB8) HS7.out.1 (C_three hL8) (Nat.le_refl _) si1).mono ?_
  rintro e w8 ⟨rfl, hd8⟩
  have hb8 : Below (w7.alloc (.cells #[.int .i64 8, .int .i64 9, .int .i64 10] 3)).heap.size (w7.alloc (.cells #[.int .i64 8, .int .i64 9, .int .i64 10] 3)) w8 := by obtain ⟨n, rfl⟩ := hd8; exact pw_below_drewN (Below.refl _ _) _
  have HT8 := Aside0.mk (And.intro HT7.out.1 (Kd.C_below (Kd.C_below HT7.out.2 hB8) hb8))
  have HB8 := Aside0.mk (below_step (HB7.out.trans (hB8.mono HB7.out.size)) hb8)
  clear hL8 hB8 hd8 hb8 HT7 HS7 HB7
  go_wp2_with (fail)
  have hL9 := blk_new w8 (.cells #[.int .i64 (-8), .int .i64 (-9), .int .i64 (-10)] 3)
  have hB9 := below_alloc (Below.refl w8.heap.size w8) (.cells #[.int .i64 (-8), .int .i64 (-9), .int .i64 (-10)] 3)
  refine (partitaref23_Ints.calls 40 At ct [-8, -9, -10] (some ⟨w8.heap.size, 0, none⟩) 3 [-8, -9, -10] true _ (Kd.C_below HT8.out.2 hB9) HT8.out.1 (C_three hL9) (Nat.le_refl _) si2).mono ?_
  rintro e w9 ⟨rfl, hd9⟩
  have hb9 : Below (w8.alloc (.cells #[.int .i64 (-8), .int .i64 (-9), .int .i64 (-10)] 3)).heap.size (w8.alloc (.cells #[.int .i64 (-8), .int .i64 (-9), .int .i64 (-10)] 3)) w9 := by obtain ⟨n, rfl⟩ := hd9; exact pw_below_drewN (Below.refl _ _) _
  have HB9 := Aside0.mk (below_step (HB8.out.trans (hB9.mono HB8.out.size)) hb9)
  clear hL9 hB9 hd9 hb9 HT8 HB8
  go_wp2
  go_ret
  exact ⟨rfl, HB9.out⟩
end Go.Proofs.YtocjbedacnlaaaaGreatDoor.Q
