/- What is within the quotes that begin at a place: the walk. No conditions but for the two tables of package utf8. -/
import Derived.Test.YtllccnijipgncaaDoorQtd
import Derived.Test.YtllccnijipgncaaDoorBld
namespace Go.Proofs.YtllccnijipgncaaDoor.Q
open Go.RowKit Go.Shelf Go.Proofs.YtllccnijipgncaaDoorW.PrintWords
set_option linter.unusedVariables false
set_option linter.unusedSimpArgs false
/-- What 'quoted' answers. -/
def resQ : Option (List UInt8 × Nat) → Value
  | none => .tuple #[.string ⟨#[]⟩, .int .i64 0]
  | some (t, n) => .tuple #[.string ⟨t.toArray⟩, .int .i64 n]
theorem resQ_none : resQ none = .tuple #[.string ⟨#[]⟩, .int .i64 0] := rfl
theorem ret_q {t : List UInt8} {n : Nat} {m : Int} (h : m = (n : Int)) : Ending.returned (.tuple #[.string ⟨t.toArray⟩, .int .i64 m]) = .returned (resQ (some (t, n))) := by rw [h]; rfl
def PostQ (R : Option (List UInt8 × Nat)) (w : World) (e : Ending) (w' : World) : Prop := e = .returned (resQ R) ∧ Below w.heap.size w w'
theorem idx_w (d : UInt8) (w : World) : Calls Tryd.prog 51 #[.string ⟨#[34, 92, 110, 116]⟩, .int .u8 (d.toNat : Int)] w fun e w' => e = .returned (.int .i64 (Lib.indexByte [34, 92, 110, 116] d)) ∧ w = w' := by
  refine (Tryd.strings_IndexByte _ _ w).mono ?_
  rintro e w' ⟨rfl, rfl⟩
  refine ⟨?_, rfl⟩
  have : ((d.toNat : Int)).toNat.toUInt8 = d := by
    rw [Int.toNat_natCast]; exact UInt8.ofNat_toNat
  rw [this]
theorem idx_at (d : UInt8) : (d.toNat = 34 → Lib.indexByte [34, 92, 110, 116] d = 0) ∧ (d.toNat = 92 → Lib.indexByte [34, 92, 110, 116] d = 1) ∧ (d.toNat = 110 → Lib.indexByte [34, 92, 110, 116] d = 2) ∧ (d.toNat = 116 → Lib.indexByte [34, 92, 110, 116] d = 3) ∧ (d.toNat ≠ 34 → d.toNat ≠ 92 → d.toNat ≠ 110 → d.toNat ≠ 116 → Lib.indexByte [34, 92, 110, 116] d = -1) := by
  have e (k : UInt8) (h : d.toNat = k.toNat) : d = k := UInt8.toNat_inj.1 h
  refine ⟨fun h => by rw [e 34 h]; rfl, fun h => by rw [e 92 h]; rfl, fun h => by rw [e 110 h]; rfl, fun h => by rw [e 116 h]; rfl, fun h1 h2 h3 h4 => ?_⟩
  have n (k : UInt8) (h : d.toNat ≠ k.toNat) : (k == d) = false := by rw [beq_eq_false_iff_ne]; intro h'; exact h (by rw [h'])
  simp [Lib.indexByte, n 34 h1, n 92 h2, n 110 h3, n 116 h4]
theorem drop_cons (s : ByteArray) (i : Nat) (h : i < s.size) : s.data.toList.drop i = s[i] :: s.data.toList.drop (i + 1) := List.drop_eq_getElem_cons (by rw [size_list]; exact h)
set_option maxHeartbeats 8000000 in
set_option maxRecDepth 100000 in
theorem quoted_calls (s : ByteArray) (a : Nat) (w : World) (hs : s.size ≤ 140737488355327) (ha : a < s.size) (hT : TabsW w) :
    Calls Tryd.prog 38 #[.string s, .int .i64 a] w (PostQ (qtd (s.data.toList.drop (a + 1)) [] 1) w) := by
  obtain ⟨R, hR⟩ : ∃ R, qtd (s.data.toList.drop (a + 1)) [] 1 = R := ⟨_, rfl⟩
  rw [hR]
  have HR := Aside0.mk hR
  have HT := Aside0.mk hT
  clear hR hT
  have a1 : (0 : Int) ≤ (a : Int) + 1 := by omega
  go_enter Tryd.func38, Tryd.ntmps38
  go_wp2
  go_loopw [7] (fun v wr => ∃ (i : Nat) (acc : List UInt8), v = .int .i64 i ∧ a + 1 ≤ i ∧ i ≤ s.size ∧ Lib.IsBuilderF 44 5 w.heap.size w.heap.size (Lib.byteCells acc) wr ∧ Below w.heap.size w wr ∧ acc.length ≤ i ∧ Aside0 (qtd (s.data.toList.drop i) acc (i - a) = R)) (fun v wr => s.size - (intOf v).toNat)
  case atStart =>
    exact ⟨a + 1, [], by go_num, by omega, by omega, Lib.IsBuilderF.of (Lib.fresh_isBuilder 44 5 w), (Below.refl _ w).alloc (Nat.le_refl _) _, by simp, ⟨by rw [← HR.out]; congr 1; omega⟩⟩
  case round =>
    obtain ⟨i, acc, rfl, hai, his, hI, hbw, hal, HQ⟩ := hrel
    clear HR
    by_cases hlt : i < s.size
    · have hQ := HQ.out
      rw [drop_cons s i hlt] at hQ
      have hlt' : (i : Int) < (s.size : Int) := by omega
      unfold qtd at hQ
      have hcl : s[i].toNat < 256 := s[i].toNat_lt
      by_cases c1 : s[i].toNat < 32
      · rw [if_pos c1] at hQ
        have c1' : (s[i].toNat : Int) < 32 := by omega
        have HN := Aside0.mk hQ
        clear hQ HQ c1
        go_wp2
        go_ret2
        exact ⟨by rw [← HN.out]; rfl, hbw⟩
      · rw [if_neg c1] at hQ
        have c1' : ¬ (s[i].toNat : Int) < 32 := by omega
        by_cases c2 : s[i].toNat = 34
        · rw [if_pos c2] at hQ
          have c2' : ((s[i].toNat : Int) == 34) = true := by simp; omega
          have hsz := hbw.size
          have cS := Tryd.Builder_String_any_k w.heap.size w.heap.size acc wr hI hsz
          have HT2 := tabs_step HT hbw
          have hal' : (⟨acc.toArray⟩ : ByteArray).size ≤ 9223372036854775807 := by rw [← size_list]; simp; omega
          have e1 : ((i + 1 : Nat) : Int) - (a : Int) = ((i - a + 1 : Nat) : Int) := by omega
          cases hin : insL acc with
          | true =>
            rw [hin, if_pos rfl] at hQ
            have HN := Aside0.mk hQ
            have HIN := Aside0.mk hin
            clear hQ HQ c1 c2 hin
            go_wp2_with (first | (go_at_call 30; ((with_reducible refine cS.mono ?_); rintro e w1 ⟨rfl, hI1, hb1, hk1⟩; have cI := inside_calls ⟨acc.toArray⟩ w1 hal' (HT.out.below (hbw.trans hb1)); rw [show insB ⟨acc.toArray⟩ = true from HIN.out] at cI)) | (go_at_call 32; ((with_reducible refine cI.mono ?_); rintro e w2 ⟨rfl, hb2⟩)))
            go_ret2
            exact ⟨by rw [← HN.out]; exact ret_q (by omega), hbw.trans (hb1.trans (hb2.mono (by have := hb1.size; omega)))⟩
          | false =>
            rw [hin, if_neg (by simp)] at hQ
            have HN := Aside0.mk hQ
            have HIN := Aside0.mk hin
            clear hQ HQ c1 c2 hin
            go_wp2_with (first | (go_at_call 30; ((with_reducible refine cS.mono ?_); rintro e w1 ⟨rfl, hI1, hb1, hk1⟩; have cI := inside_calls ⟨acc.toArray⟩ w1 hal' (HT.out.below (hbw.trans hb1)); rw [show insB ⟨acc.toArray⟩ = false from HIN.out] at cI)) | (go_at_call 32; ((with_reducible refine cI.mono ?_); rintro e w2 ⟨rfl, hb2⟩)))
            go_ret2
            exact ⟨by rw [← HN.out]; rfl, hbw.trans (hb1.trans (hb2.mono (by have := hb1.size; omega)))⟩
        · rw [if_neg c2] at hQ
          have c2' : ((s[i].toNat : Int) == 34) = false := by simp; omega
          have hsz := hbw.size
          have hlen : (Lib.byteCells acc).length + 1 ≤ 140737488355328 := by rw [Lib.byteCells_length]; omega
          have w2i : IntKind.i64.wrap ((i : Int) + 1) = ((i + 1 : Nat) : Int) := by rw [IntWalk.i64_in _ (by omega)]; omega
          by_cases c3 : s[i].toNat = 92
          · have c3' : ((s[i].toNat : Int) != 92) = false := by simp; omega
            have c3'' : ((s[i].toNat : Int) == 92) = true := by simp; omega
            rw [if_neg (by omega)] at hQ
            by_cases c4 : i + 1 < s.size
            · rw [drop_cons s (i + 1) c4] at hQ
              have c4' : ((i : Int) + 1 == (s.size : Int)) = false := by simp; omega
              have c4'' : (i : Int) + 1 < (s.size : Int) := by omega
              have hx := idx_at s[i + 1]
              have cX := idx_w s[i + 1]
              have hd2 : (((i : Int) + 1).toNat) = i + 1 := by omega
              simp only [] at hQ
              unfold escB at hQ
              have fin : ∀ (x : UInt8) (w1 : World), Aside0 (qtd (s.data.toList.drop (i + 1 + 1)) (acc ++ [x]) (i - a + 2) = R) → Wrote w.heap.size w.heap.size (Lib.byteCells acc ++ [.int .u8 (x.toNat : Int)]) wr w1 → ∃ (i_1 : Nat) (acc_1 : List UInt8), Value.int .i64 ((i : Int) + 1 + 1) = .int .i64 i_1 ∧ a + 1 ≤ i_1 ∧ i_1 ≤ s.size ∧ Lib.IsBuilderF 44 5 w.heap.size w.heap.size (Lib.byteCells acc_1) w1 ∧ Below w.heap.size w w1 ∧ acc_1.length ≤ i_1 ∧ Aside0 (qtd (s.data.toList.drop i_1) acc_1 (i_1 - a) = R) := by
                intro x w1 hq hw
                refine ⟨i + 1 + 1, acc ++ [x], by go_num, by omega, by omega, ?_, hbw.trans hw.2.1, by simp; omega, ⟨by rw [← hq.out]; congr 1; omega⟩⟩
                rw [Lib.byteCells_append]
                exact hw.1
              by_cases d34 : s[i + 1].toNat = 34
              · rw [if_pos d34] at hQ
                have HN := Aside0.mk hQ
                rw [hx.1 d34] at cX
                have cB := fun (x : Int) (W : World) hI hb => bld_byte w.heap.size w.heap.size (Lib.byteCells acc) x W hI hlen hb
                clear hQ HQ c1 c2 c3 d34 hx
                go_wp2_with (first | (go_at_call 51; ((with_reducible refine (cX _).mono ?_); rintro e w1 ⟨rfl, rfl⟩)) | (go_at_call 28; ((with_reducible refine (cB _ _ hI hsz).mono ?_); rintro e w1 ⟨rfl, hw1⟩)))
                go_roundw
                case rel => exact fin 34 _ HN hw1
                case measure => simp [intOf]; omega
              rw [if_neg d34] at hQ
              by_cases d92 : s[i + 1].toNat = 92
              · rw [if_pos d92] at hQ
                have HN := Aside0.mk hQ
                rw [hx.2.1 d92] at cX
                have cB := fun (x : Int) (W : World) hI hb => bld_byte w.heap.size w.heap.size (Lib.byteCells acc) x W hI hlen hb
                clear hQ HQ c1 c2 c3 d92 hx
                go_wp2_with (first | (go_at_call 51; ((with_reducible refine (cX _).mono ?_); rintro e w1 ⟨rfl, rfl⟩)) | (go_at_call 28; ((with_reducible refine (cB _ _ hI hsz).mono ?_); rintro e w1 ⟨rfl, hw1⟩)))
                go_roundw
                case rel => exact fin 92 _ HN hw1
                case measure => simp [intOf]; omega
              rw [if_neg d92] at hQ
              by_cases d110 : s[i + 1].toNat = 110
              · rw [if_pos d110] at hQ
                have HN := Aside0.mk hQ
                rw [hx.2.2.1 d110] at cX
                have cB := fun (x : Int) (W : World) hI hb => bld_byte w.heap.size w.heap.size (Lib.byteCells acc) x W hI hlen hb
                clear hQ HQ c1 c2 c3 d110 hx
                go_wp2_with (first | (go_at_call 51; ((with_reducible refine (cX _).mono ?_); rintro e w1 ⟨rfl, rfl⟩)) | (go_at_call 28; ((with_reducible refine (cB _ _ hI hsz).mono ?_); rintro e w1 ⟨rfl, hw1⟩)))
                go_roundw
                case rel => exact fin 10 _ HN hw1
                case measure => simp [intOf]; omega
              rw [if_neg d110] at hQ
              by_cases d116 : s[i + 1].toNat = 116
              · rw [if_pos d116] at hQ
                have HN := Aside0.mk hQ
                rw [hx.2.2.2.1 d116] at cX
                have cB := fun (x : Int) (W : World) hI hb => bld_byte w.heap.size w.heap.size (Lib.byteCells acc) x W hI hlen hb
                clear hQ HQ c1 c2 c3 d116 hx
                go_wp2_with (first | (go_at_call 51; ((with_reducible refine (cX _).mono ?_); rintro e w1 ⟨rfl, rfl⟩)) | (go_at_call 28; ((with_reducible refine (cB _ _ hI hsz).mono ?_); rintro e w1 ⟨rfl, hw1⟩)))
                go_roundw
                case rel => exact fin 9 _ HN hw1
                case measure => simp [intOf]; omega
              rw [if_neg d116] at hQ
              have HN := Aside0.mk hQ
              rw [hx.2.2.2.2 d34 d92 d110 d116] at cX
              clear hQ HQ c1 c2 c3 hx fin d34 d92 d110 d116
              go_wp2_with (first | (go_at_call 51; ((with_reducible refine (cX _).mono ?_); rintro e w1 ⟨rfl, rfl⟩)))
              go_ret2
              exact ⟨by rw [← HN.out]; rfl, hbw⟩
            · rw [List.drop_of_length_le (by rw [size_list]; omega)] at hQ
              have c4' : ((i : Int) + 1 == (s.size : Int)) = true := by simp; omega
              have HN := Aside0.mk hQ
              clear hQ HQ c1 c2 c3
              go_wp2
              go_ret2
              exact ⟨by rw [← HN.out]; rfl, hbw⟩
          · have c3' : ((s[i].toNat : Int) != 92) = true := by simp; omega
            have c3'' : ((s[i].toNat : Int) == 92) = false := by simp; omega
            rw [if_pos c3] at hQ
            have HN := Aside0.mk hQ
            have cB := fun (W : World) hI hb => bld_byte w.heap.size w.heap.size (Lib.byteCells acc) (s[i].toNat : Int) W hI hlen hb
            clear hQ HQ c1 c2 c3
            go_wp2_with (first | (go_at_call 28; ((with_reducible refine (cB _ hI hsz).mono ?_); rintro e w1 ⟨rfl, hw1⟩)))
            go_roundw
            case rel =>
              refine ⟨i + 1, acc ++ [s[i]], by go_num, by omega, by omega, ?_, hbw.trans hw1.2.1, by simp; omega, ⟨by rw [← HN.out]; congr 1; omega⟩⟩
              rw [Lib.byteCells_append]
              exact hw1.1
            case measure => simp [intOf]; omega
    · have hQ := HQ.out
      rw [List.drop_of_length_le (by rw [size_list]; omega)] at hQ
      have hlt' : ¬ (i : Int) < (s.size : Int) := by omega
      have HN := Aside0.mk hQ
      clear hQ HQ
      go_wp2
      go_ret2
      exact ⟨by rw [← HN.out]; rfl, hbw⟩
end Go.Proofs.YtllccnijipgncaaDoor.Q
