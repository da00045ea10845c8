/- few: pages of one's own, whose lines' tops are the caller's. -/
import Derived.Test.YtbpcilbplgbonaaDoorFew
import Derived.Test.YtbpcilbplgbonaaDoorWN
import Derived.Test.YtbpcilbplgbonaaDoorWNEv
import Derived.Test.YtbpcilbplgbonaaDoorWAt
set_option linter.unusedVariables false
set_option linter.unusedSimpArgs false
namespace Go.Proofs.YtbpcilbplgbonaaDoor.Q
open Go.RowKit Go.Proofs.YtbpcilbplgbonaaDoorW.PrintWords Go.Proofs.YtbpcilbplgbonaaDoorW.PrintLast Go.Proofs.YtbpcilbplgbonaaDoorW.PrintMore
theorem F_int_old {w W : World} {A : Option Addr} {n : Nat} {l : List Int} (h : Kd.C (Kd.int .i64) w A n l) (hb : Below w.heap.size w W) : Kd.F (Kd.int .i64) W (fun k => k < w.heap.size) A n l := fun W' hW => by
  obtain ⟨hl, hm, hn⟩ := h
  refine ⟨hl, hm, fun hp => ?_⟩
  obtain ⟨ad, rfl, hc⟩ := hn hp
  refine ⟨ad, rfl, fun j p hj => ?_⟩
  obtain ⟨c, hcl, hK, hcc⟩ := hc j p hj
  refine ⟨c, hcl, hK, fun i u hu => ?_⟩
  have h6 := hcc i u hu
  have hlt := World.block_lt_of_cell? w _ h6
  rw [add_block] at hlt
  have hbk := hb.block _ hlt
  have h8 : W'.heap[ad.block]? = w.heap[ad.block]? := (hW _ hlt (heap_lt hbk hlt)).trans hbk
  have h7 : W'.cell? (ad.add (j * (Kd.int .i64).sz + i)) = w.cell? (ad.add (j * (Kd.int .i64).sz + i)) := by simp [World.cell?, add_block, h8]
  exact h7.trans h6
/-- A page whose tops are cut at 101. -/
def cutPg (x : S37) : S37 := ⟨x.f0, x.f1, x.f2.take (101 : Nat)⟩
def fewPg (l : List S37) : List S37 := (l.take 110).map cutPg
theorem fewPg_step (l : List S37) (n : Nat) (h : n < l.length) : (l.take n).map cutPg ++ [cutPg (rd_T37 l n)] = (l.take (n + 1)).map cutPg := by
  have e : rd_T37 l n = l[n] := by
    unfold rd_T37
    rw [Int.toNat_natCast, List.getD_eq_getElem?_getD, List.getElem?_eq_getElem h]; rfl
  rw [List.take_succ_eq_append_getElem h, List.map_append, e]; rfl
theorem cut_len (l : List Int) : ∃ j : Int, (if 101 < (l.length : Int) then 101 else (l.length : Int)) = j ∧ l.take 101 = l.take j.toNat := by
  refine ⟨_, rfl, ?_⟩
  split
  · rfl
  · rw [List.take_of_length_le (by omega), List.take_of_length_le (by omega)]
theorem drew_alloc (w : World) (o : Obj) : (w.alloc o).drew = w.drew.alloc o := rfl
set_option maxHeartbeats 4000000 in
set_option maxRecDepth 100000 in
theorem few_calls (A : Option Addr) (c : Nat) (l : List S37) (w : World) (hr : Kd.C k37 w A l.length l) (hc : l.length ≤ c) :
    Calls Tryd.prog 11 #[.slice A l.length c] w fun e w' => ∃ v0_ : Value, e = .returned v0_ ∧ Kd.N k37 37 w' w.heap.size (fun _ => True) v0_ (fewPg l) ∧ Below w.heap.size w w' := by
  have hu37 := Tryd.underlying37
  have HR0 := Aside0.mk hr
  have HC0 := Aside0.mk hc
  clear hr hc
  have HB := Aside0.mk (Below.refl w.heap.size w)
  go_enter Tryd.func11, Tryd.ntmps11
  go_wp2
  go_loopg [3, 4] 110 (fun kq v3 v4 w' => ∃ n : Nat, v4 = .int .i64 (n : Int) ∧ Aside0 (n + kq = 110) ∧ Aside0 (n ≤ l.length) ∧ Aside0 (Kd.N k37 37 w' w.heap.size (fun _ => True) v3 ((l.take n).map cutPg)) ∧ Aside0 (Below w.heap.size w w'))
  case atStart => exact ⟨0, rfl, ⟨rfl⟩, ⟨Nat.zero_le _⟩, ⟨Kd.N_nil _ _ _ _ _⟩, ⟨by repeat (first | (with_reducible first | exact HB.out | apply below_alloc | apply pw_below_drewN | apply below_drew1 | apply below_drew) | exact HB.out)⟩⟩
  case round =>
    obtain ⟨n, rfl, HK, HL, HO, HB⟩ := hrel
    by_cases c3 : (n : Int) < (l.length : Int)
    · by_cases c4 : (n : Int) < 110
      · have c3b := decide_eq_true c3
        have c4b := decide_eq_true c4
        obtain ⟨ad, A2, c2, eA, h0, h1, h2, hl2, hC2⟩ := at_T37 HR0.out (n : Int) (by omega) c3
        cases eA
        simp only [Int.toNat_natCast] at h0 h1 h2
        obtain ⟨x, hx⟩ : ∃ x, Aside0 (rd_T37 l n = x) := ⟨_, ⟨rfl⟩⟩
        rw [hx.out] at h0 h1 h2 hl2 hC2
        have Z := Aside0.mk (And.intro h0 (And.intro h1 h2))
        replace h0 := (HB.out.cell (World.block_lt_of_cell? w _ h0)).trans h0
        replace h1 := (HB.out.cell (World.block_lt_of_cell? w _ h1)).trans h1
        replace h2 := (HB.out.cell (World.block_lt_of_cell? w _ h2)).trans h2
        have p0 : (0 ≤ (n : Int)) = True := eq_true (by omega)
        have q0 : ((n : Int) < (l.length : Int)) = True := eq_true c3
        obtain ⟨j, hj, hjt⟩ := cut_len x.f2
        have hC3 := Kd.C_take (m := j.toNat) hC2 (by split at hj <;> omega)
        rw [← hjt] at hC3
        have HC2 := Aside0.mk hC3
        have HL2 := Aside0.mk hl2
        have Hj := Aside0.mk hj
        have Hjt := Aside0.mk hjt
        clear hC2 hC3 hl2 hj hjt
        go_wp2
        go_region_held3 (fun w' => w'.cell? (ad.add (n * 3)) = some (.int .i64 x.f0) ∧ w'.cell? ⟨(ad.add (n * 3)).block, (ad.add (n * 3)).off + 1, none⟩ = some (.int .i64 x.f1) ∧ w'.cell? ⟨(ad.add (n * 3)).block, (ad.add (n * 3)).off + 2, none⟩ = some (.slice A2 x.f2.length c2)) (first | go_keep | (go_split_ands; exact ⟨(HB.out.cell (World.block_lt_of_cell? w _ Z.out.1)).trans Z.out.1, (HB.out.cell (World.block_lt_of_cell? w _ Z.out.2.1)).trans Z.out.2.1, (HB.out.cell (World.block_lt_of_cell? w _ Z.out.2.2)).trans Z.out.2.2⟩)) (first | (go_at_call 10; refine (Few_cut A2 x.f2 (x.f2.take 101) c2 j _ Hj.out ⟨Hjt.out⟩ HL2.out).mono ?_; rintro e w2 ⟨rfl, rfl⟩) | (rw [drew_alloc]; refine Kd.N_append_step k37 (w0 := w) w.heap.size (by rfl) (.tmp 15) (.tmp 33) 23 37 (.agg #[(.int .i64 0), (.int .i64 0), (.slice none 0 0)]) 40 rfl Tryd.underlying23 info37 rfl (by decide) (by omega) u3 ((l.take n).map cutPg) (cutPg x) [.int .i64 x.f0, .int .i64 x.f1, .slice A2 (min 101 x.f2.length) c2] (fun _ => True) (fun k => k < w.heap.size) (by rfl) (by rfl) ?aP ?aK (fun _ _ => trivial) ?aO ?aB ?aS ?aL ?_; (case aP => have e_ : (x.f2.take 101).length = min 101 x.f2.length := List.length_take; rw [← e_]; exact k37_mkF _ _ (cutPg x) (by have := HL2.out; simp only [cutPg, List.length_take]; omega) (F_int_old HC2.out (by repeat (first | (with_reducible first | exact HB.out | apply below_alloc | apply pw_below_drewN | apply below_drew1 | apply below_drew) | exact HB.out)))); (case aK => exact (fun k hk => ⟨trivial, fun he => by have := Kd.N_base HO.out k he.symm; omega⟩)); (case aB => exact (by repeat (first | (with_reducible first | exact HB.out | apply below_alloc | apply pw_below_drewN | apply below_drew1 | apply below_drew) | exact HB.out))); (case aO => exact (by (with_reducible repeat (first | apply Kd.N_alloc | apply Kd.N_drewN | apply Kd.N_drew)); exact HO.out)); (case aS => exact (below_size (by repeat (first | (with_reducible first | exact HB.out | apply below_alloc | apply pw_below_drewN | apply below_drew1 | apply below_drew) | exact HB.out)))); (case aL => have := HL.out; have e_ : ((l.take n).map cutPg).length = n := (by rw [List.length_map, List.length_take]; omega); rw [e_]; omega); intro v1 w7 ho hb hg hat; have n0_ := Aside0.mk (hb); have n1_ := Aside0.mk (ho); clear HB; clear HO; have HB := n0_; have HO := n1_; clear n0_ n1_; clear ho hb hg hat))
        go_wp2
        cases gk with
        | zero => exact absurd HK.out (by omega)
        | succ k1 =>
          go_roundg k1
          case measure => have := HK.out; omega
          case rel => exact ⟨n + 1, (by first | rfl | (simp [wrap64]; omega)), ⟨by have := HK.out; omega⟩, ⟨by omega⟩, ⟨by rw [← fewPg_step l n (by omega), hx.out]; (with_reducible repeat (first | apply Kd.N_alloc | apply Kd.N_drewN | apply Kd.N_drew)); exact HO.out⟩, ⟨by repeat (first | (with_reducible first | exact HB.out | apply below_alloc | apply pw_below_drewN | apply below_drew1 | apply below_drew) | exact HB.out)⟩⟩
      · have c3b := decide_eq_true c3
        have c4b := decide_eq_false c4
        have HF := Aside0.mk (show (l.take n).map cutPg = fewPg l by unfold fewPg; rw [show n = 110 by have := HK.out; omega])
        go_wp2
        go_ret
        exact ⟨_, rfl, by (with_reducible repeat (first | apply Kd.N_alloc | apply Kd.N_drewN | apply Kd.N_drew)); rw [← HF.out]; exact HO.out, by repeat (first | (with_reducible first | exact HB.out | apply below_alloc | apply pw_below_drewN | apply below_drew1 | apply below_drew) | exact HB.out)⟩
    · have c3b := decide_eq_false c3
      have HF := Aside0.mk (show (l.take n).map cutPg = fewPg l by unfold fewPg; rw [List.take_of_length_le (by omega), List.take_of_length_le (by have := HK.out; omega)])
      go_wp2
      go_ret
      exact ⟨_, rfl, by (with_reducible repeat (first | apply Kd.N_alloc | apply Kd.N_drewN | apply Kd.N_drew)); rw [← HF.out]; exact HO.out, by repeat (first | (with_reducible first | exact HB.out | apply below_alloc | apply pw_below_drewN | apply below_drew1 | apply below_drew) | exact HB.out)⟩
end Go.Proofs.YtbpcilbplgbonaaDoor.Q
