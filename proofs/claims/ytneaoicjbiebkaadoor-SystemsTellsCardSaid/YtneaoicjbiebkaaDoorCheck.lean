import Derived.Test.YtneaoicjbiebkaaDoorTold
import Derived.Maps.AppendAt
import Derived.RangeFuncBox
namespace Go.Proofs.YtneaoicjbiebkaaDoor.Q
open Go.RowKit Go.Proofs.YtneaoicjbiebkaaDoorW.PrintWords Go.Proofs.YtneaoicjbiebkaaDoorW.PrintLast
set_option linter.unusedVariables false
set_option linter.unusedSimpArgs false
def inB (lo hi : Int) (l : List Int) : Bool := l.all fun n => decide (lo ≤ n) && decide (n ≤ hi)
theorem isFrom_l0 (lo hi : Int) (l : List Int) (hl : l.length ≤ 9000000) : ∀ (d k i : Nat), l.length = i + d → d + 1 ≤ k → systems_isFrom.l0 k lo hi l (l.length : Int) i = some (inB lo hi (l.drop i))
  | d, 0, i, _, h => absurd h (by omega)
  | 0, k + 1, i, h, _ => by
    simp only [systems_isFrom.l0]
    rw [if_neg (by omega), List.drop_eq_nil_of_le (by omega)]; rfl
  | d + 1, k + 1, i, h, hk => by
    simp only [systems_isFrom.l0]
    have hi' : i < l.length := by omega
    rw [if_pos (by omega), if_pos (by omega), if_pos (by omega)]
    have e : rd l (i : Int) = l[i] := by
      unfold rd; rw [show ((i : Nat) : Int).toNat = i from Int.toNat_natCast _, List.getD_eq_getElem?_getD, List.getElem?_eq_getElem hi']; rfl
    have ew : wrap64 ((i : Int) + 1) = ((i + 1 : Nat) : Int) := by unfold wrap64; omega
    rw [e, ew, isFrom_l0 lo hi l hl d k (i + 1) (by omega) (by omega), List.drop_eq_getElem_cons hi']
    unfold inB
    rw [List.all_cons]
    by_cases h1 : l[i] < lo
    · rw [if_pos h1]; simp; omega
    · rw [if_neg h1]
      by_cases h2 : l[i] > hi
      · rw [if_pos h2]; simp; omega
      · rw [if_neg h2]; congr 1; simp; omega
theorem isFrom_f (lo hi : Int) (l : List Int) (k : Nat) (hl : l.length ≤ 9000000) (hk : l.length + 1 ≤ k) : systems_isFrom.f k lo hi l = some (inB lo hi l) := by
  unfold systems_isFrom.f
  have := isFrom_l0 lo hi l hl l.length k 0 (by omega) hk
  simpa using this
/-- What is wrong with bars: 2, 250, or nothing. -/
def chkI (ws ss : List Int) (line : Int) : Int :=
  if ws.length > 100 then 2 else if ws.length ≠ ss.length then 2 else if inB 1 100000 [line] = false then 2 else if inB 1 100000 ws = false then 2 else if inB 0 100000 ss = false then 2 else if inB 1 line ws = false then 250 else 0
def errV (a0 a1 : Addr) (n : Int) : Value := if n = 0 then .nilIface else if n = 2 then .iface 84 (.pointer (some a0)) else .iface 84 (.pointer (some a1))
theorem C_single {W : World} {g : Nat} {t : TypeId} {x : Int} (h : W.heap[g]? = some (.cells #[.int .i64 x] t (0, 0))) : Kd.C (Kd.int .i64) W (some ⟨g, 0, none⟩) 1 [x] := by
  refine ⟨rfl, by omega, fun _ => ⟨_, rfl, fun j p hj => ?_⟩⟩
  rcases j with _ | j
  · obtain rfl : x = p := by simpa using hj
    refine ⟨[.int .i64 x], rfl, rfl, fun i u hu => ?_⟩
    rcases i with _ | i
    · obtain rfl := Option.some.inj hu
      exact (blk_cell h 0).trans rfl
    · simp at hu
  · simp at hj
set_option maxHeartbeats 2000000 in
set_option maxRecDepth 100000 in
theorem check_calls (a0 a1 : Addr) (A B : Option Addr) (cA cB : Nat) (ws ss : List Int) (line : Int) (w : World) (hS : Sents w a0 a1) (hA : Kd.C (Kd.int .i64) w A ws.length ws) (hcA : ws.length ≤ cA) (hB : Kd.C (Kd.int .i64) w B ss.length ss) (hcB : ss.length ≤ cB) :
    Calls Tryd.prog 21 #[.agg #[.slice A ws.length cA, .slice B ss.length cB, .int .i64 line]] w fun e w' => e = .returned (errV a0 a1 (chkI ws ss line)) ∧ Below w.heap.size w w' := by
  have hu46 := Tryd.underlying46
  obtain ⟨h0, h1, -⟩ := id hS
  have l0 := cell_lt h0
  have l1 := cell_lt h1
  have n0 : (0 : Nat) ≠ w.heap.size := by have : 0 < w.heap.size := l0; omega
  have n1 : (1 : Nat) ≠ w.heap.size := by have : 1 < w.heap.size := l1; omega
  have HB : ∀ v, Below w.heap.size w (w.alloc (.cells v 46)) := fun v => (Below.refl _ w).alloc (Nat.le_refl _) _
  clear h0 h1 l0 l1
  obtain ⟨W1, hW1⟩ : ∃ W1, w.alloc (.cells #[.slice A ws.length cA, .slice B ss.length cB, .int .i64 line] 46) = W1 := ⟨_, rfl⟩
  have b1 : Below w.heap.size w W1 := by rw [← hW1]; exact HB _
  have bx : W1.heap[w.heap.size]? = some (.cells #[.slice A ws.length cA, .slice B ss.length cB, .int .i64 line] 46 (0, 0)) := by rw [← hW1]; exact World.alloc_heap_new w _
  have fin : ∀ (W : World), Below w.heap.size w W → W.heap[w.heap.size]? = some (.cells #[.slice A ws.length cA, .slice B ss.length cB, .int .i64 line] 46 (0, 0)) →
      W.cell? ⟨0, 0, none⟩ = some (.iface 84 (.pointer (some a0))) ∧ W.cell? ⟨1, 0, none⟩ = some (.iface 84 (.pointer (some a1))) ∧ W.cell? ⟨w.heap.size, 0, none⟩ = some (.slice A ws.length cA) ∧ W.cell? ⟨w.heap.size, 1, none⟩ = some (.slice B ss.length cB) ∧ W.cell? ⟨w.heap.size, 2, none⟩ = some (.int .i64 line) := by
    intro W hb hx
    have := hS.below hb
    exact ⟨this.1, this.2.1, (blk_cell hx 0).trans rfl, (blk_cell hx 1).trans rfl, (blk_cell hx 2).trans rfl⟩
  obtain ⟨x0, x1, x2, x3, x4⟩ := fin W1 b1 bx
  unfold chkI
  by_cases c1 : ws.length > 100
  · rw [if_pos c1]
    go_enter Tryd.func21, Tryd.ntmps21
    go_wp2
    go_ret
    exact ⟨rfl, b1⟩
  rw [if_neg c1]
  by_cases c2 : ws.length ≠ ss.length
  · rw [if_pos c2]
    have c2' : (ws.length == ss.length) = false := beq_eq_false_iff_ne.mpr c2
    go_enter Tryd.func21, Tryd.ntmps21
    go_wp2
    go_ret
    exact ⟨rfl, b1⟩
  rw [if_neg c2]
  have c2' : (ws.length == ss.length) = true := by rw [beq_iff_eq]; omega
  have z1 : W1.heap.size = w.heap.size + 1 := by rw [← hW1]; simp
  obtain ⟨W2, hW2⟩ : ∃ W2, W1.alloc (.cells #[.int .i64 line] 3) = W2 := ⟨_, rfl⟩
  have b12 : Below W1.heap.size W1 W2 := by rw [← hW2]; exact (Below.refl _ W1).alloc (Nat.le_refl _) _
  have b2 : Below w.heap.size w W2 := b1.trans (b12.mono (by omega))
  have bx2 := (b12.block w.heap.size (by omega)).trans bx
  have g2 : W2.heap[w.heap.size + 1]? = some (.cells #[.int .i64 line] 3 (0, 0)) := by rw [← hW2, ← z1]; exact World.alloc_heap_new W1 _
  obtain ⟨y0, y1, y2, y3, y4⟩ := fin W2 b2 bx2
  have k1 := isFrom_f 1 100000 [line] 9000000 (by simp) (by simp)
  have k2 := isFrom_f 1 100000 ws 9000000 (by omega) (by omega)
  have k3 := isFrom_f 0 100000 ss 9000000 (by omega) (by omega)
  have k4 := isFrom_f 1 line ws 9000000 (by omega) (by omega)
  obtain ⟨p1, hp1⟩ : ∃ p, inB 1 100000 [line] = p := ⟨_, rfl⟩
  obtain ⟨p2, hp2⟩ : ∃ p, inB 1 100000 ws = p := ⟨_, rfl⟩
  obtain ⟨p3, hp3⟩ : ∃ p, inB 0 100000 ss = p := ⟨_, rfl⟩
  obtain ⟨p4, hp4⟩ : ∃ p, inB 1 line ws = p := ⟨_, rfl⟩
  rw [hp1] at k1
  rw [hp2] at k2
  rw [hp3] at k3
  rw [hp4] at k4
  rw [hp1, hp2, hp3, hp4]
  have H1 : Calls Tryd.prog 19 #[.int .i64 1, .int .i64 100000, .slice (some ⟨w.heap.size + 1, 0, none⟩) 1 1] W2 (fun e w' => e = .returned (.bool p1) ∧ Drawn0 W2 w') := systems_isFrom.calls 9000000 1 100000 (some ⟨w.heap.size + 1, 0, none⟩) 1 [line] p1 _ (C_single g2) (by simp) k1
  have H2 : ∀ W, Below w.heap.size w W → Calls Tryd.prog 19 #[.int .i64 1, .int .i64 100000, .slice A ws.length cA] W (fun e w' => e = .returned (.bool p2) ∧ Drawn0 W w') := fun W hb => systems_isFrom.calls 9000000 1 100000 A cA ws p2 W (Kd.C_below hA hb) hcA k2
  have H3 : ∀ W, Below w.heap.size w W → Calls Tryd.prog 19 #[.int .i64 0, .int .i64 100000, .slice B ss.length cB] W (fun e w' => e = .returned (.bool p3) ∧ Drawn0 W w') := fun W hb => systems_isFrom.calls 9000000 0 100000 B cB ss p3 W (Kd.C_below hB hb) hcB k3
  have H4 : ∀ W, Below w.heap.size w W → Calls Tryd.prog 19 #[.int .i64 1, .int .i64 line, .slice A ws.length cA] W (fun e w' => e = .returned (.bool p4) ∧ Drawn0 W w') := fun W hb => systems_isFrom.calls 9000000 1 line A cA ws p4 W (Kd.C_below hA hb) hcA k4
  have H1' := Aside0.mk H1
  have H2' := Aside0.mk H2
  have H3' := Aside0.mk H3
  have H4' := Aside0.mk H4
  have b2' := Aside0.mk b2
  have b1' := Aside0.mk b1
  clear k1 k2 k3 k4 hA hB hp1 hp2 hp3 hp4 hS b12 HB fin b1 b2 bx2 g2 H1 H2 H3 H4
  have d1 : decide ((100 : Int) < (ws.length : Int)) = false := decide_eq_false (by omega)
  have d2 : ((ws.length : Int) != (ss.length : Int)) = false := by rw [bne_eq_false_iff_eq]; omega
  clear c1 c2 c2'
  go_enter Tryd.func21, Tryd.ntmps21
  cases p1 <;> cases p2 <;> cases p3 <;> cases p4
  all_goals go_wp2_with (first
    | (go_at_call 19; (with_reducible refine H1'.out.mono ?_); rintro e w' ⟨rfl, ⟨m1, rfl⟩⟩)
    | (go_at_call 19; (with_reducible refine (H2'.out _ (by repeat (first | exact b2'.out | exact b1'.out | apply pw_below_drewN))).mono ?_); rintro e w' ⟨rfl, ⟨m2, rfl⟩⟩)
    | (go_at_call 19; (with_reducible refine (H3'.out _ (by repeat (first | exact b2'.out | exact b1'.out | apply pw_below_drewN))).mono ?_); rintro e w' ⟨rfl, ⟨m3, rfl⟩⟩)
    | (go_at_call 19; (with_reducible refine (H4'.out _ (by repeat (first | exact b2'.out | exact b1'.out | apply pw_below_drewN))).mono ?_); rintro e w' ⟨rfl, ⟨m4, rfl⟩⟩))
  all_goals go_ret
  all_goals exact ⟨by simp [errV], by repeat (first | exact b2'.out | exact b1'.out | apply pw_below_drewN)⟩
end Go.Proofs.YtneaoicjbiebkaaDoor.Q
