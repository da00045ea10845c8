/- A text within quotes: the walk. No conditions but for the two tables of package utf8. -/
import Derived.Test.YtllccnijipgncaaDoorQuoted
namespace Go.Proofs.YtllccnijipgncaaDoor.Q
open Go.RowKit Go.Shelf Go.Proofs.YtllccnijipgncaaDoorW.PrintWords
set_option linter.unusedVariables false
set_option linter.unusedSimpArgs false
/-- What 'Quote' answers. -/
def resU (s : ByteArray) : Bool → Value
  | false => .tuple #[.string ⟨#[]⟩, .int .i64 180]
  | true => .tuple #[.string ⟨(quoL s.data.toList).toArray⟩, .int .i64 0]
theorem ret_u {l l' : List UInt8} {n : Int} (h : l = l') : Ending.returned (.tuple #[.string ⟨l.toArray⟩, .int .i64 n]) = .returned (.tuple #[.string ⟨l'.toArray⟩, .int .i64 n]) := by rw [h]
set_option maxHeartbeats 8000000 in
set_option maxRecDepth 100000 in
theorem quote_calls (s : ByteArray) (w : World) (hs : s.size ≤ 35184372088832) (hT : TabsW w) :
    Calls Tryd.prog 19 #[.string s] w fun e w' => e = .returned (resU s (insB s)) ∧ Below w.heap.size w w' := by
  have cI := inside_calls s w (by omega) hT
  cases hin : insB s with
  | false =>
    rw [hin] at cI
    clear hin hT
    go_enter Tryd.func19, Tryd.ntmps19
    go_wp2_with (go_at_call 32; ((with_reducible refine cI.mono ?_); rintro e w1 ⟨rfl, hb1⟩))
    go_ret2
    exact ⟨rfl, hb1⟩
  | true =>
    rw [hin] at cI
    clear hin hT
    obtain ⟨R, hR⟩ : ∃ R, quoL s.data.toList = R := ⟨_, rfl⟩
    unfold resU
    rw [hR]
    have HR := Aside0.mk hR
    clear hR
    go_enter Tryd.func19, Tryd.ntmps19
    go_wp2_with (go_at_call 32; ((with_reducible refine cI.mono ?_); rintro e w1 ⟨rfl, hb1⟩))
    have hI0 : Lib.IsBuilderF 44 5 w1.heap.size w1.heap.size [] (w1.alloc (.cells #[.pointer none, .slice none 0 0] 44)) := Lib.IsBuilderF.of (Lib.fresh_isBuilder 44 5 w1)
    have cB0 := bld_byte w1.heap.size w1.heap.size [] 34 _ hI0 (by simp) (by simp)
    clear cI
    go_wp2_with (go_at_call 28; ((with_reducible refine cB0.mono ?_); rintro e w2 ⟨rfl, hw2⟩))
    have hB2 : Below w1.heap.size w1 w2 := ((Below.refl _ w1).alloc (Nat.le_refl _) _).trans hw2.2.1
    go_loopw [13] (fun v wr => ∃ (i : Nat) (acc : List UInt8), v = .int .i64 i ∧ i ≤ s.size ∧ Lib.IsBuilderF 44 5 w1.heap.size w1.heap.size (Lib.byteCells acc) wr ∧ Below w1.heap.size w1 wr ∧ acc.length ≤ 2 * i + 1 ∧ Aside0 (acc ++ (s.data.toList.drop i).flatMap qtB ++ [34] = R)) (fun v wr => s.size - (intOf v).toNat)
    case atStart =>
      exact ⟨0, [34], rfl, by omega, hw2.1, hB2, by simp, ⟨by rw [← HR.out]; rfl⟩⟩
    case round =>
      obtain ⟨i, acc, rfl, his, hI, hbw, hal, HQ⟩ := hrel
      have hsz := hbw.size
      have hlen : (Lib.byteCells acc).length + 1 ≤ 140737488355328 := by rw [Lib.byteCells_length]; omega
      have cB := fun (bs : List Value) (x : Int) (W : World) hI hl hb => bld_byte w1.heap.size w1.heap.size bs x W hI hl hb
      have cS := fun (bs : List Value) (x : ByteArray) (W : World) hI hl hb => bld_string w1.heap.size w1.heap.size bs x W hI hl hb
      by_cases hlt : i < s.size
      · have hQ := HQ.out
        rw [drop_cons s i hlt, List.flatMap_cons] at hQ
        have hlt' : (i : Int) < (s.size : Int) := by omega
        have hcl : s[i].toNat < 256 := s[i].toNat_lt
        have fin : ∀ (q : List UInt8) (W : World), Aside0 (q = qtB s[i]) → Wrote w1.heap.size w1.heap.size (Lib.byteCells acc ++ Lib.byteCells q) wr W → ∃ (i_1 : Nat) (acc_1 : List UInt8), Value.int .i64 ((i : Int) + 1) = .int .i64 i_1 ∧ i_1 ≤ s.size ∧ Lib.IsBuilderF 44 5 w1.heap.size w1.heap.size (Lib.byteCells acc_1) W ∧ Below w1.heap.size w1 W ∧ acc_1.length ≤ 2 * i_1 + 1 ∧ Aside0 (acc_1 ++ (s.data.toList.drop i_1).flatMap qtB ++ [34] = R) := by
          intro q W hq hw
          have hl2 := qtB_le s[i]
          refine ⟨i + 1, acc ++ q, by go_num, by omega, by rw [Lib.byteCells_append]; exact hw.1, hbw.trans hw.2.1, ?_, ⟨by rw [← hQ, hq.out]; simp⟩⟩
          rw [hq.out, List.length_append]; omega
        clear hQ HQ
        by_cases c1 : s[i].toNat = 34
        · have c1' : ((s[i].toNat : Int) == 34) = true := by simp; omega
          have HN : Aside0 ([92, s[i]] = qtB s[i]) := ⟨by unfold qtB; rw [if_pos c1, show s[i] = 34 from UInt8.toNat_inj.1 c1]⟩
          clear c1
          have hlen2 : (Lib.byteCells acc ++ [Value.int .u8 92]).length + 1 ≤ 140737488355328 := by rw [List.length_append, Lib.byteCells_length]; simp; omega
          go_wp2_with (go_at_call 28; ((with_reducible refine (cB _ _ _ hI hlen hsz).mono ?_); rintro e w2 ⟨rfl, hv1⟩))
          have hsz2 : w1.heap.size ≤ w2.heap.size := Nat.le_trans hsz hv1.2.1.size
          go_wp2_with (go_at_call 28; ((with_reducible refine (cB _ _ _ hv1.1 hlen2 hsz2).mono ?_); rintro e w3 ⟨rfl, hv2⟩))
          go_roundw
          case rel => exact fin [92, s[i]] _ HN ⟨by have := hv2.1; rw [List.append_assoc] at this; exact this, hv1.2.1.trans hv2.2.1, hv1.2.2.trans hv2.2.2⟩
          case measure => simp [intOf]; omega
        have c1' : ((s[i].toNat : Int) == 34) = false := by simp; omega
        by_cases c2 : s[i].toNat = 92
        · have c2' : ((s[i].toNat : Int) == 92) = true := by simp; omega
          have HN : Aside0 ([92, s[i]] = qtB s[i]) := ⟨by unfold qtB; rw [if_neg c1, if_pos c2, show s[i] = 92 from UInt8.toNat_inj.1 c2]⟩
          clear c1 c2
          have hlen2 : (Lib.byteCells acc ++ [Value.int .u8 92]).length + 1 ≤ 140737488355328 := by rw [List.length_append, Lib.byteCells_length]; simp; omega
          go_wp2_with (go_at_call 28; ((with_reducible refine (cB _ _ _ hI hlen hsz).mono ?_); rintro e w2 ⟨rfl, hv1⟩))
          have hsz2 : w1.heap.size ≤ w2.heap.size := Nat.le_trans hsz hv1.2.1.size
          go_wp2_with (go_at_call 28; ((with_reducible refine (cB _ _ _ hv1.1 hlen2 hsz2).mono ?_); rintro e w3 ⟨rfl, hv2⟩))
          go_roundw
          case rel => exact fin [92, s[i]] _ HN ⟨by have := hv2.1; rw [List.append_assoc] at this; exact this, hv1.2.1.trans hv2.2.1, hv1.2.2.trans hv2.2.2⟩
          case measure => simp [intOf]; omega
        have c2' : ((s[i].toNat : Int) == 92) = false := by simp; omega
        by_cases c3 : s[i].toNat = 10
        · have c3' : ((s[i].toNat : Int) == 10) = true := by simp; omega
          have HN : Aside0 ([92, 110] = qtB s[i]) := ⟨by unfold qtB; rw [if_neg c1, if_neg c2, if_pos c3]⟩
          have hlen2 : (Lib.byteCells acc).length + (⟨#[92, 110]⟩ : ByteArray).size ≤ 140737488355328 := by rw [Lib.byteCells_length]; show _ + 2 ≤ _; omega
          clear c1 c2 c3
          go_wp2_with (go_at_call 29; ((with_reducible refine (cS _ _ _ hI hlen2 hsz).mono ?_); rintro e w2 ⟨rfl, hv1⟩))
          go_roundw
          case rel => exact fin [92, 110] _ HN hv1
          case measure => simp [intOf]; omega
        have c3' : ((s[i].toNat : Int) == 10) = false := by simp; omega
        by_cases c4 : s[i].toNat = 9
        · have c4' : ((s[i].toNat : Int) == 9) = true := by simp; omega
          have HN : Aside0 ([92, 116] = qtB s[i]) := ⟨by unfold qtB; rw [if_neg c1, if_neg c2, if_neg c3, if_pos c4]⟩
          have hlen2 : (Lib.byteCells acc).length + (⟨#[92, 116]⟩ : ByteArray).size ≤ 140737488355328 := by rw [Lib.byteCells_length]; show _ + 2 ≤ _; omega
          clear c1 c2 c3 c4
          go_wp2_with (go_at_call 29; ((with_reducible refine (cS _ _ _ hI hlen2 hsz).mono ?_); rintro e w2 ⟨rfl, hv1⟩))
          go_roundw
          case rel => exact fin [92, 116] _ HN hv1
          case measure => simp [intOf]; omega
        have c4' : ((s[i].toNat : Int) == 9) = false := by simp; omega
        have HN : Aside0 ([s[i]] = qtB s[i]) := ⟨by unfold qtB; rw [if_neg c1, if_neg c2, if_neg c3, if_neg c4]⟩
        clear c1 c2 c3 c4
        go_wp2_with (go_at_call 28; ((with_reducible refine (cB _ _ _ hI hlen hsz).mono ?_); rintro e w2 ⟨rfl, hv1⟩))
        go_roundw
        case rel => exact fin [s[i]] _ HN hv1
        case measure => simp [intOf]; omega
      · have hQ := HQ.out
        rw [List.drop_of_length_le (by rw [size_list]; omega), List.flatMap_nil, List.append_nil] at hQ
        have hlt' : ¬ (i : Int) < (s.size : Int) := by omega
        have HN := Aside0.mk hQ
        clear hQ HQ
        go_wp2_with (go_at_call 28; ((with_reducible refine (cB _ _ _ hI hlen hsz).mono ?_); rintro e w2 ⟨rfl, hv1⟩))
        have hI2 : Lib.IsBuilderF 44 5 w1.heap.size w1.heap.size (Lib.byteCells (acc ++ [34])) w2 := by rw [Lib.byteCells_append]; exact hv1.1
        have hsz2 : w1.heap.size ≤ w2.heap.size := Nat.le_trans hsz hv1.2.1.size
        have cT := Tryd.Builder_String_any_k w1.heap.size w1.heap.size (acc ++ [34]) w2 hI2 hsz2
        go_wp2_with (go_at_call 30; ((with_reducible refine cT.mono ?_); rintro e w3 ⟨rfl, hI3, hb3, hk3⟩))
        go_ret2
        exact ⟨ret_u HN.out, hb1.trans ((hbw.trans (hv1.2.1.trans hb3)).mono hb1.size)⟩
end Go.Proofs.YtllccnijipgncaaDoor.Q
