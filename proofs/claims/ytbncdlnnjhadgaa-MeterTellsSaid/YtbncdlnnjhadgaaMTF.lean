/- Literals of meters and of ratios in the heap; what program and document tell of them. No conditions. -/
import Derived.Test.YtbncdlnnjhadgaaMT3
import Derived.Test.YtbncdlnnjhadgaaQ5
namespace Go.Proofs.Ytbncdlnnjhadgaa.Q
open Go.RowKit Go.Proofs.YtbncdlnnjhadgaaW.PrintWords Go.Proofs.YtbncdlnnjhadgaaW.PrintMore
set_option linter.unusedVariables false
set_option linter.unusedSimpArgs false
theorem three24 {W : World} {blk : Nat} {x y z : S24} {A B C : Option Addr} {ca cb cc : Nat}
    (h : W.heap[blk]? = some (.cells #[.int .i64 x.f0, .int .i64 x.f1, .slice A x.f2.length ca, .int .i64 y.f0, .int .i64 y.f1, .slice B y.f2.length cb, .int .i64 z.f0, .int .i64 z.f1, .slice C z.f2.length cc] 24 (0, 0)))
    (la : x.f2.length ≤ ca) (lb : y.f2.length ≤ cb) (lc : z.f2.length ≤ cc) (ha : Kd.C (Kd.int .i64) W A x.f2.length x.f2) (hb : Kd.C (Kd.int .i64) W B y.f2.length y.f2) (hc : Kd.C (Kd.int .i64) W C z.f2.length z.f2) :
    Kd.C k24 W (some ⟨blk, 0, none⟩) 3 [x, y, z] := by
  refine ⟨rfl, by omega, fun _ => ⟨_, rfl, fun j p hj => ?_⟩⟩
  match j, hj with
  | 0, hj =>
    obtain rfl := Option.some.inj hj
    refine ⟨_, rfl, k24_mk W x la ha, fun i u hi => ?_⟩
    match i, hi with
    | 0, hi => obtain rfl := Option.some.inj hi; exact (blk_cell h 0).trans rfl
    | 1, hi => obtain rfl := Option.some.inj hi; exact (blk_cell h 1).trans rfl
    | 2, hi => obtain rfl := Option.some.inj hi; exact (blk_cell h 2).trans rfl
    | i + 3, hi => cases hi
  | 1, hj =>
    obtain rfl := Option.some.inj hj
    refine ⟨_, rfl, k24_mk W y lb hb, fun i u hi => ?_⟩
    match i, hi with
    | 0, hi => obtain rfl := Option.some.inj hi; exact (blk_cell h 3).trans rfl
    | 1, hi => obtain rfl := Option.some.inj hi; exact (blk_cell h 4).trans rfl
    | 2, hi => obtain rfl := Option.some.inj hi; exact (blk_cell h 5).trans rfl
    | i + 3, hi => cases hi
  | 2, hj =>
    obtain rfl := Option.some.inj hj
    refine ⟨_, rfl, k24_mk W z lc hc, fun i u hi => ?_⟩
    match i, hi with
    | 0, hi => obtain rfl := Option.some.inj hi; exact (blk_cell h 6).trans rfl
    | 1, hi => obtain rfl := Option.some.inj hi; exact (blk_cell h 7).trans rfl
    | 2, hi => obtain rfl := Option.some.inj hi; exact (blk_cell h 8).trans rfl
    | i + 3, hi => cases hi
  | j + 3, hj => cases hj
theorem three26 {W : World} {blk : Nat} {x y z : S26}
    (h : W.heap[blk]? = some (.cells #[.int .i64 x.f0, .int .i64 x.f1, .int .i64 y.f0, .int .i64 y.f1, .int .i64 z.f0, .int .i64 z.f1] 26 (0, 0))) :
    Kd.C k26 W (some ⟨blk, 0, none⟩) 3 [x, y, z] := by
  refine ⟨rfl, by omega, fun _ => ⟨_, rfl, fun j p hj => ?_⟩⟩
  match j, hj with
  | 0, hj =>
    obtain rfl := Option.some.inj hj
    refine ⟨_, rfl, k26_mk W x, fun i u hi => ?_⟩
    match i, hi with
    | 0, hi => obtain rfl := Option.some.inj hi; exact (blk_cell h 0).trans rfl
    | 1, hi => obtain rfl := Option.some.inj hi; exact (blk_cell h 1).trans rfl
    | i + 2, hi => cases hi
  | 1, hj =>
    obtain rfl := Option.some.inj hj
    refine ⟨_, rfl, k26_mk W y, fun i u hi => ?_⟩
    match i, hi with
    | 0, hi => obtain rfl := Option.some.inj hi; exact (blk_cell h 2).trans rfl
    | 1, hi => obtain rfl := Option.some.inj hi; exact (blk_cell h 3).trans rfl
    | i + 2, hi => cases hi
  | 2, hj =>
    obtain rfl := Option.some.inj hj
    refine ⟨_, rfl, k26_mk W z, fun i u hi => ?_⟩
    match i, hi with
    | 0, hi => obtain rfl := Option.some.inj hi; exact (blk_cell h 4).trans rfl
    | 1, hi => obtain rfl := Option.some.inj hi; exact (blk_cell h 5).trans rfl
    | i + 2, hi => cases hi
  | j + 3, hj => cases hj
theorem four_new (w : World) (a b c d : Array Value) : (((((w.alloc (.cells a 24)).alloc (.cells b 24)).alloc (.cells c 26)).alloc (.cells d 26)).heap[w.heap.size]? = some (.cells a 24 (0, 0))) ∧ (((((w.alloc (.cells a 24)).alloc (.cells b 24)).alloc (.cells c 26)).alloc (.cells d 26)).heap[w.heap.size + 1]? = some (.cells b 24 (0, 0))) ∧ (((((w.alloc (.cells a 24)).alloc (.cells b 24)).alloc (.cells c 26)).alloc (.cells d 26)).heap[w.heap.size + 1 + 1]? = some (.cells c 26 (0, 0))) ∧ (((((w.alloc (.cells a 24)).alloc (.cells b 24)).alloc (.cells c 26)).alloc (.cells d 26)).heap[w.heap.size + 1 + 1 + 1]? = some (.cells d 26 (0, 0))) ∧ Below w.heap.size w ((((w.alloc (.cells a 24)).alloc (.cells b 24)).alloc (.cells c 26)).alloc (.cells d 26)) := by
  refine ⟨blk_alloc (blk_alloc (blk_alloc (blk_new w _) _) _) _, ?_, ?_, ?_, below_alloc (below_alloc (below_alloc (below_alloc (Below.refl _ _) _) _) _) _⟩
  · have h := blk_new (w.alloc (.cells a 24)) (.cells b 24)
    rw [World.size_alloc] at h
    exact blk_alloc (blk_alloc h _) _
  · have h := blk_new ((w.alloc (.cells a 24)).alloc (.cells b 24)) (.cells c 26)
    rw [World.size_alloc, World.size_alloc] at h
    exact blk_alloc h _
  · have h := blk_new (((w.alloc (.cells a 24)).alloc (.cells b 24)).alloc (.cells c 26)) (.cells d 26)
    rw [World.size_alloc, World.size_alloc, World.size_alloc] at h
    exact h
def okM (x : S24) : Prop := i64 x.f0 ∧ i64 x.f1 ∧ x.f2.length ≤ 17592186044416
def ok2 (y : S26) : Prop := i64 y.f0 ∧ i64 y.f1
theorem ok2_zero : ok2 ⟨0, 0⟩ := ⟨by unfold i64; simp, by unfold i64; simp⟩
theorem wboth3 {x r : Int} (h : -9223372036854775808 ≤ x ∧ x ≤ 9223372036854775807) (e : x = r) : IntKind.i64.wrap x = r ∧ wrap64 x = r := by
  have h2 : wrap64 x = r := by unfold wrap64; omega
  have h3 : IntKind.i64.wrap x = wrap64 x := by unfold Go.RowKit.wrap64; exact IntKind.wrap_i64 x
  exact ⟨h3.trans h2, h2⟩
theorem rd_all24 {P : S24 → Prop} {x y z : S24} (hx : P x) (hy : P y) (hz : P z) (i : Nat) (hi : i < 3) : P (rd_T24 [x, y, z] (i : Int)) := by
  match i, hi with
  | 0, _ => exact hx
  | 1, _ => exact hy
  | 2, _ => exact hz
theorem rd_all26 {P : S26 → Prop} {x y z : S26} (hx : P x) (hy : P y) (hz : P z) (i : Nat) (hi : i < 3) : P (rd_T26 [x, y, z] (i : Int)) := by
  match i, hi with
  | 0, _ => exact hx
  | 1, _ => exact hy
  | 2, _ => exact hz
/-- A list of ratios is as itself. -/
theorem ratios_refl_l0 {P : List S26} (hP : P.length ≤ 9223372036854775807) : ∀ (m k i : Nat), i + m = P.length → m + 1 ≤ k → partitaref05_Ratios.l0 k P P (i : Int) = some true := by
  intro m
  induction m with
  | zero =>
    intro k i hi hk
    obtain ⟨k, rfl⟩ : ∃ j, k = j + 1 := ⟨k - 1, by omega⟩
    rw [partitaref05_Ratios.l0, if_neg (by omega)]
  | succ m ih =>
    intro k i hi hk
    obtain ⟨k, rfl⟩ : ∃ j, k = j + 1 := ⟨k - 1, by omega⟩
    rw [partitaref05_Ratios.l0, if_pos (by omega), if_pos (by omega), if_pos (by omega), if_neg (by simp), wrap64_id (n := (i : Int) + 1) (by unfold i64; omega), show ((i : Int) + 1) = ((i + 1 : Nat) : Int) by omega]
    exact ih k (i + 1) (by omega) (by omega)
theorem ratios_refl (P : List S26) (hP : P.length ≤ 9223372036854775807) : ∃ k, partitaref05_Ratios.f k P P = some true := by
  refine ⟨P.length + 1, ?_⟩
  unfold partitaref05_Ratios.f
  rw [if_pos rfl]
  exact ratios_refl_l0 hP P.length _ 0 (by omega) (by omega)
/-- What both tell of one meter. -/
structure Tm (x b o : S24) (L : Int × Int × Int) (P : List S26) (e : Int) (r s1 s2 : Bool) (K : Nat) : Prop where
  len : meter_Length.f K x.f0 x.f1 x.f2 = some L
  rlen : partitaref05_Length.f K x.f0 x.f1 x.f2 = some L
  bea : meter_Beats.f K x.f0 x.f1 x.f2 = some (P, e)
  rbea : partitaref05_Beats.f K x.f0 x.f1 x.f2 = some (P, e)
  rig : meter_Right.f K x.f0 x.f1 x.f2 = some r
  rrig : partitaref05_Right.f K x.f0 x.f1 x.f2 = some r
  sa : meter_Same.f K x.f0 x.f1 x.f2 b.f0 b.f1 b.f2 = some s1
  rsa : partitaref05_Same.f K x.f0 x.f1 x.f2 b.f0 b.f1 b.f2 = some s1
  sb : meter_Same.f K o.f0 o.f1 o.f2 x.f0 x.f1 x.f2 = some s2
  rsb : partitaref05_Same.f K o.f0 o.f1 o.f2 x.f0 x.f1 x.f2 = some s2
  lw : i64 L.1 ∧ i64 L.2.1
theorem tm_of {x b o : S24} (hx : okM x) (hb : okM b) (ho : okM o) : ∃ L1 L2 L3 P e r s1 s2 K, Tm x b o (L1, L2, L3) P e r s1 s2 K ∧ ∃ kr, partitaref05_Ratios.f kr P P = some true := by
  obtain ⟨hn, hd, hl⟩ := hx
  obtain ⟨L, hL⟩ : ∃ L, lenP x.f0 x.f1 x.f2 = L := ⟨_, rfl⟩
  obtain ⟨B, hB⟩ : ∃ B, beatP x.f0 x.f1 x.f2 = B := ⟨_, rfl⟩
  have hw : i64 L.1 ∧ i64 L.2.1 := by
    rw [← hL]; unfold lenP; split
    · exact ofQ_w _ _
    · exact ⟨by unfold i64; simp, by unfold i64; simp⟩
  have hP : B.1.length ≤ 17592186044416 := by
    rw [← hB]; unfold beatP; split
    · rename_i h; have := beatsP_len (gm_of h); show (rowsP _).length ≤ _; rw [rows_len]; omega
    · simp
  obtain ⟨K, hK⟩ : ∃ K : Nat, K = x.f2.length + o.f2.length + 40 := ⟨_, rfl⟩
  obtain ⟨L1, L2, L3⟩ := L
  obtain ⟨P, e⟩ := B
  refine ⟨L1, L2, L3, P, e, _, _, _, K, ⟨?_, ?_, ?_, ?_, right_f hl (by omega), refRight_f hl (by omega), sameL_f _ _ _ _ _ _ hl (by omega), refSame_f _ _ _ _ _ _ hl (by omega), sameL_f _ _ _ _ _ _ ho.2.2 (by omega), refSame_f _ _ _ _ _ _ ho.2.2 (by omega), hw⟩, ratios_refl P (Nat.le_trans hP (by omega))⟩
  · rw [len_f hn hd hl (by omega), hL]
  · rw [refLen_f hn hd hl (by omega), hL]
  · rw [beat_f hl (by omega), hB]
  · rw [refBeat_f hl (by omega), hB]
theorem tw_of {x : S24} {y : S26} (hx : okM x) (hy : ok2 y) : ∃ v i K, meter_Weight.f K x.f0 x.f1 x.f2 y.f0 y.f1 = some (v, i) ∧ partitaref05_Weight.f K x.f0 x.f1 x.f2 y.f0 y.f1 = some (v, i) := by
  obtain ⟨hn, hd, hl⟩ := hx
  obtain ⟨B, hB⟩ : ∃ B, weightP x.f0 x.f1 x.f2 y.f0 y.f1 = B := ⟨_, rfl⟩
  obtain ⟨v, i⟩ := B
  exact ⟨v, i, x.f2.length + 40, by rw [wei_f hn hd hy.1 hy.2 hl (by omega), hB], by rw [refWei_f hn hd hy.1 hy.2 hl (by omega), hB]⟩
end Go.Proofs.Ytbncdlnnjhadgaa.Q
