/- Pieces as they stand: the walk. No conditions but for the two tables of package utf8. -/
import Derived.Test.YtllccnijipgncaaDoorQuote
import Derived.Test.YtllccnijipgncaaDoorQ4
import Derived.Deep.CutBlock
import Derived.Deep.DeepCutAuto
namespace Go.Proofs.YtllccnijipgncaaDoor.Q
open Go.RowKit Go.Shelf Go.Proofs.YtllccnijipgncaaDoorW.PrintWords
set_option linter.unusedVariables false
set_option linter.unusedSimpArgs false
/-- A builder stands where all blocks that lay stand. -/
theorem bldAt_below {T e B b : Nat} {p : Value} {bs : List Value} {w w' : World} (h : Lib.BuilderAtF T e B b p bs w) (hb : Below w.heap.size w w') : Lib.BuilderAtF T e B b p bs w' := by
  have hlt := h.lt
  obtain ⟨hB, v, hbk, hown, hne⟩ := h
  refine ⟨hB, v, (hb.block b hlt).trans hbk, ?_, hne⟩
  obtain ⟨hl, hn | ⟨g, cap, cur, fz, hv, hg, hh, rest⟩⟩ := hown
  · exact ⟨hl, .inl hn⟩
  · have hg2 : g < w.heap.size := (Array.getElem?_eq_some_iff.1 hh).1
    exact ⟨hl, .inr ⟨g, cap, cur, fz, hv, hg, (hb.block g hg2).trans hh, rest⟩⟩
theorem bld_below {T e B b : Nat} {bs : List Value} {w w' : World} (h : Lib.IsBuilderF T e B b bs w) (hb : Below w.heap.size w w') : Lib.IsBuilderF T e B b bs w' := by
  rcases h with h | h
  · exact .inl (bldAt_below h hb)
  · exact .inr (bldAt_below h hb)
/-- What stands ahead of a piece, and the piece. -/
def sepL (p k : Int) : List UInt8 := if k ≠ 5 ∧ p ≠ 5 then [32] else []
def bodL (k : Int) (s : ByteArray) : List UInt8 := if k = 3 then (if insB s = true then quoL s.data.toList else []) else s.data.toList
def prL : Int → List S35 → List UInt8 → Option (ByteArray × Int)
  | _, [], acc => some (⟨acc.toArray⟩, 0)
  | p, x :: r, acc => (lex_right.f x.f0 x.f1 x.f2).bind fun t => if t = true then prL x.f0 r (acc ++ sepL p x.f0 ++ bodL x.f0 x.f1) else some (⟨#[]⟩, 180)
theorem bod_le (k : Int) (s : ByteArray) (h : s.size ≤ 1000000) : (bodL k s).length ≤ 2000002 := by
  have := quoL_le s.data.toList
  have e := size_list s
  unfold bodL
  (repeat' split) <;> first | omega | simp
theorem sep_le (p k : Int) : (sepL p k).length ≤ 1 := by unfold sepL; split <;> simp
theorem rd_getd (l : List S35) (i : Nat) (h : i < l.length) : rd_T35 l (i : Int) = l[i] := by
  unfold rd_T35; rw [Int.toNat_natCast, List.getD_eq_getElem?_getD, List.getElem?_eq_getElem h]; rfl
theorem res_bod (k : Int) (s : ByteArray) (hk : k = 3) : ∃ (b : List UInt8) (n : Int), resU s (insB s) = .tuple #[.string ⟨b.toArray⟩, .int .i64 n] ∧ b = bodL k s := by
  unfold bodL
  rw [if_pos hk]
  cases insB s with
  | true => exact ⟨quoL s.data.toList, 0, rfl, rfl⟩
  | false => exact ⟨[], 180, rfl, rfl⟩
set_option maxHeartbeats 8000000 in
set_option maxRecDepth 100000 in
theorem print_calls (A0 : Option Addr) (c0 : Nat) (l0 : List S35) (r1 : ByteArray) (r2 : Int) (w : World) (hr0 : Kd.C k35 w A0 l0.length l0) (hc0 : l0.length ≤ c0) (hn : l0.length ≤ 100000) (hz : ∀ x ∈ l0, x.f1.size ≤ 1000000) (h : prL 5 l0 [] = some (r1, r2)) (hT : TabsW w) :
    Calls Tryd.prog 17 #[.slice A0 l0.length c0] w fun e w' => e = .returned (.tuple #[.string r1, .int .i64 r2]) ∧ Below w.heap.size w w' := by
  have hu35 := Tryd.underlying35
  have HR0 := Aside0.mk hr0
  have HC0 := Aside0.mk hc0
  have HT := Aside0.mk hT
  have HH := Aside0.mk h
  have HZ := Aside0.mk hz
  clear hr0 hc0 hT h hz
  go_enter Tryd.func17, Tryd.ntmps17
  go_wp2
  go_loopw [11] (fun v wr => ∃ (i : Nat) (acc : List UInt8) (p : Int), v = .int .i64 i ∧ i ≤ l0.length ∧ Lib.IsBuilderF 44 5 w.heap.size w.heap.size (Lib.byteCells acc) wr ∧ Below w.heap.size w wr ∧ acc.length ≤ i * 2000010 ∧ Aside0 (p = if i = 0 then 5 else (rd_T35 l0 ((i - 1 : Nat) : Int)).f0) ∧ Aside0 (prL p (l0.drop i) acc = some (r1, r2))) (fun v wr => l0.length - (intOf v).toNat)
  case atStart =>
    exact ⟨0, [], 5, rfl, by omega, Lib.IsBuilderF.of (Lib.fresh_isBuilder 44 5 w), (Below.refl _ w).alloc (Nat.le_refl _) _, by simp, ⟨rfl⟩, HH⟩
  case round =>
    obtain ⟨i, acc, p, rfl, hil, hI, hbw, hal, HP, HQ⟩ := hrel
    have hsz := hbw.size
    clear HH
    by_cases hlt : i < l0.length
    · have hlt' : (i : Int) < (l0.length : Int) := by omega
      have hlt0 : (0 : Int) ≤ (i : Int) := by omega
      have hQ := HQ.out
      rw [List.drop_eq_getElem_cons hlt] at hQ
      unfold prL at hQ
      have hx := rd_getd l0 i hlt
      have hzx := HZ.out l0[i] (List.getElem_mem hlt)
      obtain ⟨ad, rfl, hx0, hx1, hx2⟩ := at_T35 HR0.out (i : Int) hlt0 hlt'
      rw [hx] at hx0 hx1 hx2
      rw [Int.toNat_natCast] at hx0 hx1 hx2
      obtain ⟨X, hX⟩ : ∃ X, l0[i] = X := ⟨_, rfl⟩
      rw [hX] at hx0 hx1 hx2 hQ hzx hx
      have HX := Aside0.mk hx
      clear hx hX
      obtain ⟨k, s, a⟩ := X
      simp only [] at hx0 hx1 hx2 hQ hzx
      replace hx0 := (hbw.cell (World.block_lt_of_cell? w _ hx0)).trans hx0
      replace hx1 := (hbw.cell (World.block_lt_of_cell? w _ hx1)).trans hx1
      replace hx2 := (hbw.cell (World.block_lt_of_cell? w _ hx2)).trans hx2
      rw [Option.bind_eq_some_iff] at hQ
      obtain ⟨t, ht, hQ⟩ := hQ
      have HF := Aside0.mk ht
      have HQ2 := Aside0.mk hQ
      clear ht hQ HQ
      go_upto_region 5 with (fail)
      have hb1 : Below wr.heap.size wr (wr.alloc (Obj.cells #[Value.int IntKind.i64 k, Value.string s, Value.int IntKind.i64 a] 35)) := (Below.refl _ wr).alloc (Nat.le_refl _) _
      have hbox1 : (wr.alloc (Obj.cells #[Value.int IntKind.i64 k, Value.string s, Value.int IntKind.i64 a] 35)).heap[wr.heap.size]? = some (Obj.cells #[Value.int IntKind.i64 k, Value.string s, Value.int IntKind.i64 a] 35) := heap_alloc_new wr _
      have hsz1 : wr.heap.size < (wr.alloc (Obj.cells #[Value.int IntKind.i64 k, Value.string s, Value.int IntKind.i64 a] 35)).heap.size := by simp
      generalize hW : wr.alloc (Obj.cells #[Value.int IntKind.i64 k, Value.string s, Value.int IntKind.i64 a] 35) = W1 at hb1 hbox1 hsz1 ⊢
      clear hW
      have hI1 := bld_below hI hb1
      have hbw1 := hbw.trans (hb1.mono hsz)
      obtain ⟨bx, hbx⟩ : ∃ bx, wr.heap.size = bx := ⟨_, rfl⟩
      rw [hbx] at hbox1 hsz1
      have hbB : w.heap.size ≤ bx := by omega
      have HBX := Aside0.mk hbx
      have HBL : Aside0 (w.heap.size < bx) := ⟨by rw [← hbx]; obtain h | h := hI <;> exact h.lt⟩
      have cR := lex_right.calls k s a t W1 HF.out (tabs_step HT hbw1)
      replace hx0 := (hb1.cell (World.block_lt_of_cell? wr _ hx0)).trans hx0
      replace hx1 := (hb1.cell (World.block_lt_of_cell? wr _ hx1)).trans hx1
      replace hx2 := (hb1.cell (World.block_lt_of_cell? wr _ hx2)).trans hx2
      have hc0 : W1.cell? ⟨bx, 0, none⟩ = some (.int .i64 k) := by rw [Lib.cell_of_heap hbox1]; rfl
      have hc1 : W1.cell? ⟨bx, 1, none⟩ = some (.string s) := by rw [Lib.cell_of_heap hbox1]; rfl
      have hc2 : W1.cell? ⟨bx, 2, none⟩ = some (.int .i64 a) := by rw [Lib.cell_of_heap hbox1]; rfl
      simp only [hbx]
      clear hx0 hx1 hx2 hI hbw hsz hbx
      cases t with
      | false =>
        have hq : some ((⟨#[]⟩ : ByteArray), (180 : Int)) = some (r1, r2) := HQ2.out
        obtain ⟨rfl, rfl⟩ := Prod.mk.inj (Option.some.inj hq)
        clear hq HQ2
        go_wp2_with (go_at_call 27; ((with_reducible refine cR.mono ?_); rintro e w2 ⟨rfl, hb2⟩))
        go_ret2
        exact ⟨rfl, hbw1.trans (hb2.mono (by have := hbw1.size; omega))⟩
      | true =>
        have hq : prL k (List.drop (i + 1) l0) (acc ++ sepL p k ++ bodL k s) = some (r1, r2) := HQ2.out
        have HQ := Aside0.mk hq
        clear hq HQ2
        go_upto_region 7 with (go_at_call 27; ((with_reducible refine cR.mono ?_); rintro e w2 ⟨rfl, hb2⟩))
        have hI2 := bld_below hI1 hb2
        have hbw2 := hbw1.trans (hb2.mono (by have := hbw1.size; omega))
        have hbox2 := (hb2.block bx hsz1).trans hbox1
        have hsz2 : w.heap.size ≤ w2.heap.size := hbw2.size
        have hd0 : w2.cell? ⟨bx, 0, none⟩ = some (.int .i64 k) := by rw [Lib.cell_of_heap hbox2]; rfl
        clear cR hb2 hc0 hc1 hc2 hI1 hbw1 hbox1 hsz1 hb1
        go_cut [34] (fun v wc => v = .bool (decide (k ≠ 5 ∧ p ≠ 5)) ∧ Below w.heap.size w wc ∧ Lib.IsBuilderF 44 5 w.heap.size w.heap.size (Lib.byteCells acc) wc ∧ wc.heap[bx]? = some (Obj.cells #[Value.int IntKind.i64 k, Value.string s, Value.int IntKind.i64 a] 35))
        case first =>
          have fin0 : ∀ b : Bool, Aside0 (decide (k ≠ 5 ∧ p ≠ 5) = b) → Value.bool b = .bool (decide (k ≠ 5 ∧ p ≠ 5)) ∧ Below w.heap.size w w2 ∧ Lib.IsBuilderF 44 5 w.heap.size w.heap.size (Lib.byteCells acc) w2 ∧ w2.heap[bx]? = some (Obj.cells #[Value.int IntKind.i64 k, Value.string s, Value.int IntKind.i64 a] 35) := by
            intro b h0; rw [h0.out]; exact ⟨rfl, hbw2, hI2, hbox2⟩
          by_cases hi0 : i = 0
          · have g0 : decide (0 < i) = false := by rw [decide_eq_false_iff_not]; omega
            have HS : Aside0 (decide (k ≠ 5 ∧ p ≠ 5) = false) := ⟨by rw [HP.out, if_pos hi0]; simp⟩
            clear hi0
            go_wp2
            go_meet
            case rel => exact fin0 _ HS
          · have g0 : decide (0 < i) = true := by rw [decide_eq_true_iff]; omega
            by_cases hk5 : k = 5
            · have g1 : (k == 5) = true := beq_iff_eq.mpr hk5
              have g2 : (k != 5) = false := bne_eq_false_iff_eq.mpr hk5
              have HS : Aside0 (decide (k ≠ 5 ∧ p ≠ 5) = false) := ⟨by rw [decide_eq_false_iff_not]; intro h; exact h.1 hk5⟩
              clear hi0 hk5
              go_wp2
              go_meet
              case rel => exact fin0 _ HS
            · have g1 : (k == 5) = false := beq_eq_false_iff_ne.mpr hk5
              have g2 : (k != 5) = true := bne_iff_ne.mpr hk5
              have hp0 : (0 : Int) ≤ ((i - 1 : Nat) : Int) := by omega
              have hp1 : ((i - 1 : Nat) : Int) < (l0.length : Int) := by omega
              obtain ⟨ad', e', hq0, hq1, hq2⟩ := at_T35 HR0.out ((i - 1 : Nat) : Int) hp0 hp1
              obtain rfl : ad = ad' := by injection e'
              have HP2 : Aside0 (p = (rd_T35 l0 ((i - 1 : Nat) : Int)).f0) := ⟨by rw [HP.out, if_neg hi0]⟩
              rw [← HP2.out, Int.toNat_natCast] at hq0
              replace hq0 := (hbw2.cell (World.block_lt_of_cell? w _ hq0)).trans hq0
              have g4 : (1 : Int) ≤ (i : Int) := by omega
              have g5 : (i : Int) - 1 < (l0.length : Int) := by omega
              clear hq1 hq2 hp0 hp1 hi0
              by_cases hp5 : p = 5
              · have g6 : (p == 5) = true := beq_iff_eq.mpr hp5
                have g7 : (p != 5) = false := bne_eq_false_iff_eq.mpr hp5
                have HS : Aside0 (decide (k ≠ 5 ∧ p ≠ 5) = false) := ⟨by rw [decide_eq_false_iff_not]; intro h; exact h.2 hp5⟩
                clear hk5 hp5
                go_wp2
                go_meet
                case rel => exact fin0 _ HS
              · have g6 : (p == 5) = false := beq_eq_false_iff_ne.mpr hp5
                have g7 : (p != 5) = true := bne_iff_ne.mpr hp5
                have HS : Aside0 (decide (k ≠ 5 ∧ p ≠ 5) = true) := ⟨by rw [decide_eq_true_iff]; exact ⟨hk5, hp5⟩⟩
                clear hk5 hp5
                go_wp2
                go_meet
                case rel => exact fin0 _ HS
        case rest =>
          obtain ⟨rfl, hbw3, hI3, hbox3⟩ := hcut
          have fin : ∀ (wz : World) (q : List UInt8), Aside0 (q = acc ++ sepL p k ++ bodL k s) → Below w.heap.size w wz → Lib.IsBuilderF 44 5 w.heap.size w.heap.size (Lib.byteCells q) wz → ∃ (i_1 : Nat) (acc_1 : List UInt8) (p_1 : Int), Value.int .i64 ((i : Int) + 1) = .int .i64 i_1 ∧ i_1 ≤ l0.length ∧ Lib.IsBuilderF 44 5 w.heap.size w.heap.size (Lib.byteCells acc_1) wz ∧ Below w.heap.size w wz ∧ acc_1.length ≤ i_1 * 2000010 ∧ Aside0 (p_1 = if i_1 = 0 then 5 else (rd_T35 l0 ((i_1 - 1 : Nat) : Int)).f0) ∧ Aside0 (prL p_1 (l0.drop i_1) acc_1 = some (r1, r2)) := by
            intro wz q hq hb hi
            have h1 := sep_le p k
            have h2 := bod_le k s hzx
            refine ⟨i + 1, q, k, by go_num, by omega, hi, hb, ?_, ⟨?_⟩, ⟨by rw [hq.out]; exact HQ.out⟩⟩
            · rw [hq.out]; simp only [List.length_append]; omega
            · rw [if_neg (by omega), show i + 1 - 1 = i from rfl, HX.out]
          clear hI2 hbw2 hbox2 hsz2 hd0
          obtain ⟨sp, hsp⟩ : ∃ sp, decide (k ≠ 5 ∧ p ≠ 5) = sp := ⟨_, rfl⟩
          have HSP := Aside0.mk hsp
          simp only [hsp]
          clear hsp
          cases sp with
          | false =>
            have HS : Aside0 (sepL p k = []) := ⟨by unfold sepL; rw [if_neg (of_decide_eq_false HSP.out)]⟩
            have hsz4 : w.heap.size ≤ wc.heap.size := hbw3.size
            have hd0 : wc.cell? ⟨bx, 0, none⟩ = some (.int .i64 k) := by rw [Lib.cell_of_heap hbox3]; rfl
            have hd1 : wc.cell? ⟨bx, 1, none⟩ = some (.string s) := by rw [Lib.cell_of_heap hbox3]; rfl
            by_cases hk3 : k = 3
            · have g1 : (k == 3) = true := beq_iff_eq.mpr hk3
              have g2 : (k != 3) = false := bne_eq_false_iff_eq.mpr hk3
              obtain ⟨b, n, hres, hb⟩ := res_bod k s hk3
              have cQ := quote_calls s wc (by omega) (HT.out.below hbw3)
              rw [hres] at cQ
              have hbl : b.length ≤ 2000002 := by rw [hb]; exact bod_le k s hzx
              have hlen5 : (Lib.byteCells (acc)).length + (⟨b.toArray⟩ : ByteArray).size ≤ 140737488355328 := by
                rw [Lib.byteCells_length, ← size_list]; (try simp only [List.length_append, List.length_cons, List.length_nil]); omega
              have HB := Aside0.mk hb
              clear hk3 hres hb
              go_wp2_with (first | (go_at_call 19; ((with_reducible refine cQ.mono ?_); rintro e w5 ⟨rfl, hb5⟩; have hI5 := bld_below hI3 hb5; have cS := bld_string w.heap.size w.heap.size (Lib.byteCells (acc)) ⟨b.toArray⟩ w5 hI5 hlen5 (Nat.le_trans hsz4 hb5.size))) | (go_at_call 29; ((with_reducible refine cS.mono ?_); rintro e w6 ⟨rfl, hv6⟩)))
              go_roundw
              case rel => exact fin _ (acc ++ b) ⟨by rw [HB.out, HS.out, List.append_nil]⟩ (hbw3.trans ((hb5.mono hsz4).trans hv6.2.1)) (by rw [Lib.byteCells_append]; exact hv6.1)
              case measure => simp [intOf]; omega
            · have g1 : (k == 3) = false := beq_eq_false_iff_ne.mpr hk3
              have g2 : (k != 3) = true := bne_iff_ne.mpr hk3
              have HB : Aside0 (s.data.toList = bodL k s) := ⟨by unfold bodL; rw [if_neg hk3]⟩
              have hlen5 : (Lib.byteCells (acc)).length + s.size ≤ 140737488355328 := by
                rw [Lib.byteCells_length]; (try simp only [List.length_append, List.length_cons, List.length_nil]); omega
              have cS := bld_string w.heap.size w.heap.size (Lib.byteCells (acc)) s wc hI3 hlen5 hsz4
              clear hk3
              go_wp2_with (first | (go_at_call 29; ((with_reducible refine cS.mono ?_); rintro e w6 ⟨rfl, hv6⟩)))
              go_roundw
              case rel => exact fin _ (acc ++ s.data.toList) ⟨by rw [HB.out, HS.out, List.append_nil]⟩ (hbw3.trans hv6.2.1) (by rw [Lib.byteCells_append]; exact hv6.1)
              case measure => simp [intOf]; omega
          | true =>
            have HS : Aside0 (sepL p k = [32]) := ⟨by unfold sepL; rw [if_pos (of_decide_eq_true HSP.out)]⟩
            have hlen : (Lib.byteCells acc).length + 1 ≤ 140737488355328 := by rw [Lib.byteCells_length]; omega
            have cB := bld_byte w.heap.size w.heap.size (Lib.byteCells acc) 32 wc hI3 hlen hbw3.size
            go_upto_region 9 with (go_at_call 28; ((with_reducible refine cB.mono ?_); rintro e w4 ⟨rfl, hv⟩))
            have hbw4 := hbw3.trans hv.2.1
            have hI4 : Lib.IsBuilderF 44 5 w.heap.size w.heap.size (Lib.byteCells (acc ++ [32])) w4 := by rw [Lib.byteCells_append]; exact hv.1
            have hbox4 := hv.2.2 bx _ hbox3 (by intro e; have := Option.some.inj e; have := HBX.out; have := HBL.out; omega) (by intro c fz h; cases h)
            clear hv cB hI3 hbw3 hbox3
            have hsz4 : w.heap.size ≤ w4.heap.size := hbw4.size
            have hd0 : w4.cell? ⟨bx, 0, none⟩ = some (.int .i64 k) := by rw [Lib.cell_of_heap hbox4]; rfl
            have hd1 : w4.cell? ⟨bx, 1, none⟩ = some (.string s) := by rw [Lib.cell_of_heap hbox4]; rfl
            by_cases hk3 : k = 3
            · have g1 : (k == 3) = true := beq_iff_eq.mpr hk3
              have g2 : (k != 3) = false := bne_eq_false_iff_eq.mpr hk3
              obtain ⟨b, n, hres, hb⟩ := res_bod k s hk3
              have cQ := quote_calls s w4 (by omega) (HT.out.below hbw4)
              rw [hres] at cQ
              have hbl : b.length ≤ 2000002 := by rw [hb]; exact bod_le k s hzx
              have hlen5 : (Lib.byteCells (acc ++ [32])).length + (⟨b.toArray⟩ : ByteArray).size ≤ 140737488355328 := by
                rw [Lib.byteCells_length, ← size_list]; (try simp only [List.length_append, List.length_cons, List.length_nil]); omega
              have HB := Aside0.mk hb
              clear hk3 hres hb
              go_wp2_with (first | (go_at_call 19; ((with_reducible refine cQ.mono ?_); rintro e w5 ⟨rfl, hb5⟩; have hI5 := bld_below hI4 hb5; have cS := bld_string w.heap.size w.heap.size (Lib.byteCells (acc ++ [32])) ⟨b.toArray⟩ w5 hI5 hlen5 (Nat.le_trans hsz4 hb5.size))) | (go_at_call 29; ((with_reducible refine cS.mono ?_); rintro e w6 ⟨rfl, hv6⟩)))
              go_roundw
              case rel => exact fin _ (acc ++ [32] ++ b) ⟨by rw [HB.out, HS.out]⟩ (hbw4.trans ((hb5.mono hsz4).trans hv6.2.1)) (by rw [Lib.byteCells_append]; exact hv6.1)
              case measure => simp [intOf]; omega
            · have g1 : (k == 3) = false := beq_eq_false_iff_ne.mpr hk3
              have g2 : (k != 3) = true := bne_iff_ne.mpr hk3
              have HB : Aside0 (s.data.toList = bodL k s) := ⟨by unfold bodL; rw [if_neg hk3]⟩
              have hlen5 : (Lib.byteCells (acc ++ [32])).length + s.size ≤ 140737488355328 := by
                rw [Lib.byteCells_length]; (try simp only [List.length_append, List.length_cons, List.length_nil]); omega
              have cS := bld_string w.heap.size w.heap.size (Lib.byteCells (acc ++ [32])) s w4 hI4 hlen5 hsz4
              clear hk3
              go_wp2_with (first | (go_at_call 29; ((with_reducible refine cS.mono ?_); rintro e w6 ⟨rfl, hv6⟩)))
              go_roundw
              case rel => exact fin _ (acc ++ [32] ++ s.data.toList) ⟨by rw [HB.out, HS.out]⟩ (hbw4.trans hv6.2.1) (by rw [Lib.byteCells_append]; exact hv6.1)
              case measure => simp [intOf]; omega
    · have hlt' : ¬ (i : Int) < (l0.length : Int) := by omega
      have hQ := HQ.out
      rw [List.drop_of_length_le (by omega)] at hQ
      unfold prL at hQ
      obtain ⟨rfl, rfl⟩ := Prod.mk.inj (Option.some.inj hQ)
      have cS := Tryd.Builder_String_any_k w.heap.size w.heap.size acc wr hI hsz
      clear hQ HQ
      go_wp2_with (go_at_call 30; ((with_reducible refine cS.mono ?_); rintro e w1 ⟨rfl, hI1, hb1, hk1⟩))
      go_ret2
      exact ⟨rfl, hbw.trans hb1⟩
end Go.Proofs.YtllccnijipgncaaDoor.Q
