-- Written by a program of this session (myprint.py), function by function.
import Derived.Test.YtchjlkokfgmjaaaQ0
import Derived.Test.YtchjlkokfgmjaaaQ2
namespace Go.Proofs.Ytchjlkokfgmjaaa.Q
open Go.RowKit Go.Proofs.YtchjlkokfgmjaaaW.PrintWords Go.Proofs.YtchjlkokfgmjaaaW.PrintLast Go.Proofs.YtchjlkokfgmjaaaW.PrintMore
attribute [local go_sem] max2_int min2_int max_two min_two max_three min_three max_four min_four   -- for this text's walks alone
set_option linter.unusedVariables false
set_option linter.unusedSimpArgs false

-- NOT PRINTED: function 8 (partitalaw11_TempoSplit)

-- NOT PRINTED: function 9 (partitalaw11_TempoCheck)

/-! ### ratio_Add: function 21 -/
set_option maxRecDepth 100000 in
theorem Add_terms (a b c d : Int) (w : World) :
    Calls Try.prog 38 #[.agg #[.int .i64 a, .int .i64 b], .agg #[.int .i64 c, .int .i64 d]] w fun e w' => e = .returned (.tuple #[.int .i64 (wrap64 (wrap64 (a * d) + wrap64 (c * b))), .int .i64 (wrap64 (b * d))]) ∧ Below w.heap.size w w' := by
  have HB := Aside0.mk (Below.refl w.heap.size w)
  go_enter Try.func38, Try.ntmps38
  go_wp2
  go_quiet (fail)
  go_wp2
  go_ret2
  exact ⟨by first | rfl | (simp only [i64_w]; done) | (simp only [i64_w]; rfl), by repeat (first | exact HB.out | apply below_alloc | apply pw_below_drewN | apply below_drew1)⟩
def ratio_Add.f (a b c d : Int) : Option (Int × Int × Int) := doI a b c d (wrap64 (wrap64 (a * d) + wrap64 (c * b))) (wrap64 (b * d))
theorem ratio_Add.new (w : World) (x y : Obj) (cs : Array Value) (t : TypeId) : (((w.alloc x).alloc y).alloc (.cells cs t)).heap[w.heap.size + 1 + 1]? = some (.cells cs t (0, 0)) := by
  have h := blk_new ((w.alloc x).alloc y) (.cells cs t)
  simpa only [World.size_alloc] using h
set_option maxHeartbeats 1000000 in
set_option maxRecDepth 100000 in
theorem ratio_Add.calls (a b c d r1 r2 r3 : Int) (w : World) (h : ratio_Add.f a b c d = some (r1, r2, r3)) :
    Calls Try.prog 21 #[.agg #[.int .i64 a, .int .i64 b], .agg #[.int .i64 c, .int .i64 d]] w fun e w' => e = .returned (.tuple #[.agg #[.int .i64 r1, .int .i64 r2], .int .i64 r3]) ∧ Below w.heap.size w w' := by
  have HB := Aside0.mk (Below.refl w.heap.size w)
  have hu := Try.underlying27
  have hu54 := Try.underlying65
  have HD := Aside0.mk (fun W => deed_do_any 38 (enters_of Try.func38 (by kernel_rfl) rfl) _ _ a b c d r1 r2 r3 W (fun W => Add_terms a b c d W) h)
  have HX := Aside0.mk (ratio_Add.new w (.cells #[.int .i64 a, .int .i64 b] 27) (.cells #[.int .i64 c, .int .i64 d] 27) #[.int .i64 0, .int .i64 0] 27)
  clear h
  go_enter Try.func21, Try.ntmps21
  go_wp2_with (go_at_call 39; (with_reducible refine (HD.out _).mono ?_); rintro e w1 ⟨rfl, hb⟩; have BX := Aside0.mk (blk_below HX.out hb); have HB1 := Aside0.mk ((by repeat (first | exact HB.out | apply below_alloc) : Below w.heap.size w _).trans (hb.mono (by simp; omega))); have q5 : w1.cell? ⟨w.heap.size + 1 + 1, 0, none⟩ = some (.int .i64 0) := (blk_cell BX.out 0).trans rfl; have q6 : w1.cell? ⟨w.heap.size + 1 + 1, 1, none⟩ = some (.int .i64 0) := (blk_cell BX.out 1).trans rfl; have q7 := blk_frozen BX.out 0; have q8 := blk_frozen BX.out 1; clear hb)
  refine bodyPost_ret (results_ct rfl _ _ (w.heap.size + 1 + 1) 27 #[.int .i64 r1, .int .i64 r2] (0, 0) _ rfl (blk_put (cs := #[.int .i64 r1, .int .i64 0]) (blk_put BX.out 0 _ rfl) 1 _ rfl) Try.underlying27 rfl (by kernel_rfl)) rfl ?_
  exact ⟨rfl, below_set (below_set HB1.out (by omega)) (by omega)⟩

end Go.Proofs.Ytchjlkokfgmjaaa.Q
