/- The piece that begins at a place: the walk. No conditions but for the two tables of package utf8. -/
import Derived.Test.YtllccnijipgncaaDoorPcs
import Derived.Test.YtllccnijipgncaaDoorQuoted
namespace Go.Proofs.YtllccnijipgncaaDoor.Q
open Go.RowKit Go.Shelf Go.Proofs.YtllccnijipgncaaDoorW.PrintWords
set_option linter.unusedVariables false
set_option linter.unusedSimpArgs false
/-- What 'piece' answers. -/
def resP (a : Int) (x : Int × List UInt8 × Nat) : Value := .tuple #[.agg #[.int .i64 x.1, .string ⟨x.2.1.toArray⟩, .int .i64 a], .int .i64 (x.2.2 : Int)]
def PostP (a : Int) (x : Int × List UInt8 × Nat) (w : World) (e : Ending) (w' : World) : Prop := e = .returned (resP a x) ∧ Below w.heap.size w w'
theorem whole_w (L : List UInt8) (h : L.length ≤ 140737488355328) (w : World) : Calls Tryd.prog 37 #[.string ⟨L.toArray⟩] w fun e w' => e = .returned (.bool (whoL L)) ∧ Drawn0 w w' := lex_whole.calls _ _ w (whole_f L h)
theorem ret_p {a k m : Int} {x : Int × List UInt8 × Nat} {s : ByteArray} (h1 : k = x.1) (h2 : s = ⟨x.2.1.toArray⟩) (h3 : m = (x.2.2 : Int)) : Ending.returned (.tuple #[.agg #[.int .i64 k, .string s, .int .i64 a], .int .i64 m]) = .returned (resP a x) := by rw [h1, h2, h3]; rfl
theorem boxes_at {w w2 : World} {x4 x6 : Array Value} (hb : Below ((w.alloc (.cells x4 35)).alloc (.cells x6 35)).heap.size ((w.alloc (.cells x4 35)).alloc (.cells x6 35)) w2) :
    w2.heap[w.heap.size]? = some (.cells x4 35) ∧ w2.heap[w.heap.size + 1]? = some (.cells x6 35) ∧ Below w.heap.size w w2 ∧ w.heap.size + 1 < w2.heap.size := by
  have h0 : ((w.alloc (.cells x4 35)).alloc (.cells x6 35)).heap.size = w.heap.size + 2 := by simp
  refine ⟨(hb.block _ (by rw [h0]; omega)).trans ?_, (hb.block _ (by rw [h0]; omega)).trans ?_, ?_, by have := hb.size; rw [h0] at this; omega⟩
  · rw [Lib.alloc_old _ _ _ (by simp)]; exact heap_alloc_new w _
  · have := heap_alloc_new (w.alloc (.cells x4 35)) (.cells x6 35)
    rwa [show (w.alloc (.cells x4 35)).heap.size = w.heap.size + 1 by simp] at this
  · exact (((Below.refl _ w).alloc (Nat.le_refl _) _).alloc (by simp) _).trans (hb.mono (by rw [h0]; omega))
set_option maxHeartbeats 8000000 in
set_option maxRecDepth 100000 in
theorem piece_word (s : ByteArray) (a : Nat) (w : World) (hs : s.size ≤ 140737488355327) (ha : a < s.size) (hl : letB s[a] = true) :
    Calls Tryd.prog 25 #[.string s, .int .i64 a] w (PostP a (1, (s.data.toList.drop a).takeWhile innB, ((s.data.toList.drop a).takeWhile innB).length) w) := by
  have hu35 := Tryd.underlying35
  have cL := letter_w s[a]
  rw [hl] at cL
  have cR := run_calls 35 innB ans_inner s a
  have hle := runL_le innB s.data.toList a (by rw [size_list]; omega)
  rw [size_list] at hle
  have he : Aside0 (s.extract a (a + runL innB s.data.toList a) = ⟨((s.data.toList.drop a).takeWhile innB).toArray⟩) := ⟨by rw [ext_eq]; unfold runL; rw [take_while]⟩
  have hrl : Aside0 (((s.data.toList.drop a).takeWhile innB).length = runL innB s.data.toList a) := ⟨rfl⟩
  generalize (s.data.toList.drop a).takeWhile innB = W at he hrl ⊢
  generalize runL innB s.data.toList a = n at cR hle he hrl
  have ha' : (a : Int) < (s.size : Int) := by omega
  have ha0 : (0 : Int) ≤ (a : Int) := by omega
  have h4 : (a : Int) ≤ (s.size : Int) := by omega
  have h5 : ((a : Int)).toNat = a := Int.toNat_natCast a
  have h1 : (a : Int) + (n : Int) ≤ (s.size : Int) := by omega
  have h2 : (0 : Int) ≤ (a : Int) + (n : Int) := by omega
  have h3 : (a : Int) ≤ (a : Int) + (n : Int) := by omega
  clear hl
  go_enter Tryd.func25, Tryd.ntmps25
  go_wp2_with (first | (go_at_call 34; ((with_reducible refine (cL _).mono ?_); rintro e w1 ⟨rfl, rfl⟩)) | (go_at_call 23; ((with_reducible refine (cR _ (by omega) (by omega)).mono ?_); rintro e w1 ⟨rfl, rfl⟩)))
  exact bodyPost_ret (v := .tuple #[.agg #[.int .i64 1, .string (s.extract a (a + n)), .int .i64 a], .int .i64 n]) (by simp [results, Tryd.results25, go_sem]) rfl ⟨ret_p rfl he.out (by rw [hrl.out]), ((Below.refl _ w).alloc (Nat.le_refl _) _).alloc (by simp) _⟩
set_option maxHeartbeats 8000000 in
set_option maxRecDepth 100000 in
theorem piece_dd (s : ByteArray) (a : Nat) (w : World) (hs : s.size ≤ 140737488355327) (ha : a < s.size) (hl : letB s[a] = false) (hd : digB s[a] = true) (hw : whoL (s[a] :: (s.data.toList.drop (a + 1)).takeWhile digB) = true) :
    Calls Tryd.prog 25 #[.string s, .int .i64 a] w (PostP a (2, s[a] :: (s.data.toList.drop (a + 1)).takeWhile digB, ((s.data.toList.drop (a + 1)).takeWhile digB).length + 1) w) := by
  have hu35 := Tryd.underlying35
  have cL := letter_w s[a]
  rw [hl] at cL
  have cD := digit_w s[a]
  rw [hd] at cD
  have cR := run_calls 36 digB ans_digit s (a + 1)
  have hle := runL_le digB s.data.toList (a + 1) (by rw [size_list]; omega)
  rw [size_list] at hle
  have cW := whole_w (s[a] :: (s.data.toList.drop (a + 1)).takeWhile digB) (by have : runL digB s.data.toList (a + 1) = ((s.data.toList.drop (a + 1)).takeWhile digB).length := rfl; rw [List.length_cons]; omega)
  rw [hw] at cW
  have he : Aside0 (s.extract a (a + (1 + runL digB s.data.toList (a + 1))) = ⟨(s[a] :: (s.data.toList.drop (a + 1)).takeWhile digB).toArray⟩) := ⟨by rw [ext_eq, drop_cons s a ha, Nat.add_comm 1, List.take_succ_cons]; unfold runL; rw [take_while]⟩
  have hrl : Aside0 (((s.data.toList.drop (a + 1)).takeWhile digB).length = runL digB s.data.toList (a + 1)) := ⟨rfl⟩
  generalize (s.data.toList.drop (a + 1)).takeWhile digB = W at he hrl cW ⊢
  generalize runL digB s.data.toList (a + 1) = n at cR hle he hrl 
  rw [← he.out] at cW
  have ha' : (a : Int) < (s.size : Int) := by omega
  have ha0 : (0 : Int) ≤ (a : Int) := by omega
  have h4 : (a : Int) ≤ (s.size : Int) := by omega
  have h5 : ((a : Int)).toNat = a := Int.toNat_natCast a
  have h1 : (a : Int) + (1 + (n : Int)) ≤ (s.size : Int) := by omega
  have h2 : (0 : Int) ≤ (a : Int) + (1 + (n : Int)) := by omega
  have h3 : (a : Int) ≤ (a : Int) + (1 + (n : Int)) := by omega
  have e1 : IntKind.i64.wrap ((a : Int) + 1) = ((a + 1 : Nat) : Int) := by rw [IntWalk.i64_in _ (by omega)]; omega
  have hn : ((a : Int) + (1 + (n : Int))).toNat = a + (1 + n) := by omega
  clear hl hd hw
  have ec : ((a + 1 : Nat) : Int) = (a : Int) + 1 := by omega
  rw [ec] at cR
  clear ec e1
  go_enter Tryd.func25, Tryd.ntmps25
  go_wp2_with (first | (go_at_call 34; ((with_reducible refine (cL _).mono ?_); rintro e w1 ⟨rfl, rfl⟩)) | (go_at_call 36; ((with_reducible refine (cD _).mono ?_); rintro e w1 ⟨rfl, rfl⟩)) | (go_at_call 23; ((with_reducible refine (cR _ (by omega) (by omega)).mono ?_); rintro e w1 ⟨rfl, rfl⟩)) | (go_at_call 37; ((with_reducible refine (cW _).mono ?_); rintro e w1 ⟨rfl, ⟨nd, rfl⟩⟩)))
  refine bodyPost_ret (v := .tuple #[.agg #[.int .i64 2, .string (s.extract a (a + (1 + n))), .int .i64 a], .int .i64 (1 + n)]) (by simp [results, Tryd.results25, go_sem]) rfl ⟨ret_p rfl he.out (by show (1 + (n : Int)) = ((W.length + 1 : Nat) : Int); rw [hrl.out]; omega), (by repeat (first | (refine Below.setCell ?_ (by simp) _) | apply pw_below_drewN | (refine Below.alloc ?_ (by simp) _) | exact Below.refl _ _))⟩
set_option maxHeartbeats 8000000 in
set_option maxRecDepth 100000 in
theorem piece_dn (s : ByteArray) (a : Nat) (w : World) (hs : s.size ≤ 140737488355327) (ha : a < s.size) (hl : letB s[a] = false) (hd : digB s[a] = true) (hw : whoL (s[a] :: (s.data.toList.drop (a + 1)).takeWhile digB) = false) :
    Calls Tryd.prog 25 #[.string s, .int .i64 a] w (PostP a (2, [], 0) w) := by
  have hu35 := Tryd.underlying35
  have cL := letter_w s[a]
  rw [hl] at cL
  have cD := digit_w s[a]
  rw [hd] at cD
  have cR := run_calls 36 digB ans_digit s (a + 1)
  have hle := runL_le digB s.data.toList (a + 1) (by rw [size_list]; omega)
  rw [size_list] at hle
  have cW := whole_w (s[a] :: (s.data.toList.drop (a + 1)).takeWhile digB) (by have : runL digB s.data.toList (a + 1) = ((s.data.toList.drop (a + 1)).takeWhile digB).length := rfl; rw [List.length_cons]; omega)
  rw [hw] at cW
  have he : Aside0 (s.extract a (a + (1 + runL digB s.data.toList (a + 1))) = ⟨(s[a] :: (s.data.toList.drop (a + 1)).takeWhile digB).toArray⟩) := ⟨by rw [ext_eq, drop_cons s a ha, Nat.add_comm 1, List.take_succ_cons]; unfold runL; rw [take_while]⟩
  have hrl : Aside0 (((s.data.toList.drop (a + 1)).takeWhile digB).length = runL digB s.data.toList (a + 1)) := ⟨rfl⟩
  generalize (s.data.toList.drop (a + 1)).takeWhile digB = W at he hrl cW ⊢
  generalize runL digB s.data.toList (a + 1) = n at cR hle he hrl 
  rw [← he.out] at cW
  have ha' : (a : Int) < (s.size : Int) := by omega
  have ha0 : (0 : Int) ≤ (a : Int) := by omega
  have h4 : (a : Int) ≤ (s.size : Int) := by omega
  have h5 : ((a : Int)).toNat = a := Int.toNat_natCast a
  have h1 : (a : Int) + (1 + (n : Int)) ≤ (s.size : Int) := by omega
  have h2 : (0 : Int) ≤ (a : Int) + (1 + (n : Int)) := by omega
  have h3 : (a : Int) ≤ (a : Int) + (1 + (n : Int)) := by omega
  have e1 : IntKind.i64.wrap ((a : Int) + 1) = ((a + 1 : Nat) : Int) := by rw [IntWalk.i64_in _ (by omega)]; omega
  have hn : ((a : Int) + (1 + (n : Int))).toNat = a + (1 + n) := by omega
  clear hl hd hw
  have ec : ((a + 1 : Nat) : Int) = (a : Int) + 1 := by omega
  rw [ec] at cR
  clear ec e1
  go_enter Tryd.func25, Tryd.ntmps25
  go_wp2_with (first | (go_at_call 34; ((with_reducible refine (cL _).mono ?_); rintro e w1 ⟨rfl, rfl⟩)) | (go_at_call 36; ((with_reducible refine (cD _).mono ?_); rintro e w1 ⟨rfl, rfl⟩)) | (go_at_call 23; ((with_reducible refine (cR _ (by omega) (by omega)).mono ?_); rintro e w1 ⟨rfl, rfl⟩)) | (go_at_call 37; ((with_reducible refine (cW _).mono ?_); rintro e w1 ⟨rfl, ⟨nd, rfl⟩⟩)))
  refine bodyPost_ret (v := .tuple #[.agg #[.int .i64 2, .string ByteArray.empty, .int .i64 a], .int .i64 0]) (by simp [results, Tryd.results25, go_sem]) rfl ⟨ret_p rfl rfl rfl, (by repeat (first | (refine Below.setCell ?_ (by simp) _) | apply pw_below_drewN | (refine Below.alloc ?_ (by simp) _) | exact Below.refl _ _))⟩
set_option maxHeartbeats 8000000 in
set_option maxRecDepth 100000 in
theorem piece_md (s : ByteArray) (a : Nat) (w : World) (hs : s.size ≤ 140737488355327) (ha : a < s.size) (hl : letB s[a] = false) (hd : digB s[a] = false) (hm : s[a].toNat = 45) (hr : 0 < ((s.data.toList.drop (a + 1)).takeWhile digB).length) (hw : whoL (s[a] :: (s.data.toList.drop (a + 1)).takeWhile digB) = true) :
    Calls Tryd.prog 25 #[.string s, .int .i64 a] w (PostP a (2, s[a] :: (s.data.toList.drop (a + 1)).takeWhile digB, ((s.data.toList.drop (a + 1)).takeWhile digB).length + 1) w) := by
  have hu35 := Tryd.underlying35
  have cL := letter_w s[a]
  rw [hl] at cL
  have cD := digit_w s[a]
  rw [hd] at cD
  have cR := run_calls 36 digB ans_digit s (a + 1)
  have hle := runL_le digB s.data.toList (a + 1) (by rw [size_list]; omega)
  rw [size_list] at hle
  have cW := whole_w (s[a] :: (s.data.toList.drop (a + 1)).takeWhile digB) (by have : runL digB s.data.toList (a + 1) = ((s.data.toList.drop (a + 1)).takeWhile digB).length := rfl; rw [List.length_cons]; omega)
  rw [hw] at cW
  have he : Aside0 (s.extract a (a + (1 + runL digB s.data.toList (a + 1))) = ⟨(s[a] :: (s.data.toList.drop (a + 1)).takeWhile digB).toArray⟩) := ⟨by rw [ext_eq, drop_cons s a ha, Nat.add_comm 1, List.take_succ_cons]; unfold runL; rw [take_while]⟩
  have hrl : Aside0 (((s.data.toList.drop (a + 1)).takeWhile digB).length = runL digB s.data.toList (a + 1)) := ⟨rfl⟩
  have hr' : 0 < runL digB s.data.toList (a + 1) := hr
  have hm' : ((s[a].toNat : Int) == 45) = true := by simp; omega
  clear hr hm
  generalize (s.data.toList.drop (a + 1)).takeWhile digB = W at he hrl cW ⊢
  generalize runL digB s.data.toList (a + 1) = n at cR hle he hrl hr'
  rw [← he.out] at cW
  have ha' : (a : Int) < (s.size : Int) := by omega
  have ha0 : (0 : Int) ≤ (a : Int) := by omega
  have h4 : (a : Int) ≤ (s.size : Int) := by omega
  have h5 : ((a : Int)).toNat = a := Int.toNat_natCast a
  have h1 : (a : Int) + (1 + (n : Int)) ≤ (s.size : Int) := by omega
  have h2 : (0 : Int) ≤ (a : Int) + (1 + (n : Int)) := by omega
  have h3 : (a : Int) ≤ (a : Int) + (1 + (n : Int)) := by omega
  have e1 : IntKind.i64.wrap ((a : Int) + 1) = ((a + 1 : Nat) : Int) := by rw [IntWalk.i64_in _ (by omega)]; omega
  have hn : ((a : Int) + (1 + (n : Int))).toNat = a + (1 + n) := by omega
  have hr2 : decide (0 < n) = true := decide_eq_true hr'
  clear hl hd hw
  have ec : ((a + 1 : Nat) : Int) = (a : Int) + 1 := by omega
  rw [ec] at cR
  clear ec e1
  go_enter Tryd.func25, Tryd.ntmps25
  go_wp2_with (first | (go_at_call 34; ((with_reducible refine (cL _).mono ?_); rintro e w1 ⟨rfl, rfl⟩)) | (go_at_call 36; ((with_reducible refine (cD _).mono ?_); rintro e w1 ⟨rfl, rfl⟩)) | (go_at_call 23; ((with_reducible refine (cR _ (by omega) (by omega)).mono ?_); rintro e w1 ⟨rfl, rfl⟩)) | (go_at_call 37; ((with_reducible refine (cW _).mono ?_); rintro e w1 ⟨rfl, ⟨nd, rfl⟩⟩)))
  refine bodyPost_ret (v := .tuple #[.agg #[.int .i64 2, .string (s.extract a (a + (1 + n))), .int .i64 a], .int .i64 (1 + n)]) (by simp [results, Tryd.results25, go_sem]) rfl ⟨ret_p rfl he.out (by show (1 + (n : Int)) = ((W.length + 1 : Nat) : Int); rw [hrl.out]; omega), (by repeat (first | (refine Below.setCell ?_ (by simp) _) | apply pw_below_drewN | (refine Below.alloc ?_ (by simp) _) | exact Below.refl _ _))⟩
set_option maxHeartbeats 8000000 in
set_option maxRecDepth 100000 in
theorem piece_mn (s : ByteArray) (a : Nat) (w : World) (hs : s.size ≤ 140737488355327) (ha : a < s.size) (hl : letB s[a] = false) (hd : digB s[a] = false) (hm : s[a].toNat = 45) (hr : 0 < ((s.data.toList.drop (a + 1)).takeWhile digB).length) (hw : whoL (s[a] :: (s.data.toList.drop (a + 1)).takeWhile digB) = false) :
    Calls Tryd.prog 25 #[.string s, .int .i64 a] w (PostP a (2, [], 0) w) := by
  have hu35 := Tryd.underlying35
  have cL := letter_w s[a]
  rw [hl] at cL
  have cD := digit_w s[a]
  rw [hd] at cD
  have cR := run_calls 36 digB ans_digit s (a + 1)
  have hle := runL_le digB s.data.toList (a + 1) (by rw [size_list]; omega)
  rw [size_list] at hle
  have cW := whole_w (s[a] :: (s.data.toList.drop (a + 1)).takeWhile digB) (by have : runL digB s.data.toList (a + 1) = ((s.data.toList.drop (a + 1)).takeWhile digB).length := rfl; rw [List.length_cons]; omega)
  rw [hw] at cW
  have he : Aside0 (s.extract a (a + (1 + runL digB s.data.toList (a + 1))) = ⟨(s[a] :: (s.data.toList.drop (a + 1)).takeWhile digB).toArray⟩) := ⟨by rw [ext_eq, drop_cons s a ha, Nat.add_comm 1, List.take_succ_cons]; unfold runL; rw [take_while]⟩
  have hrl : Aside0 (((s.data.toList.drop (a + 1)).takeWhile digB).length = runL digB s.data.toList (a + 1)) := ⟨rfl⟩
  have hr' : 0 < runL digB s.data.toList (a + 1) := hr
  have hm' : ((s[a].toNat : Int) == 45) = true := by simp; omega
  clear hr hm
  generalize (s.data.toList.drop (a + 1)).takeWhile digB = W at he hrl cW ⊢
  generalize runL digB s.data.toList (a + 1) = n at cR hle he hrl hr'
  rw [← he.out] at cW
  have ha' : (a : Int) < (s.size : Int) := by omega
  have ha0 : (0 : Int) ≤ (a : Int) := by omega
  have h4 : (a : Int) ≤ (s.size : Int) := by omega
  have h5 : ((a : Int)).toNat = a := Int.toNat_natCast a
  have h1 : (a : Int) + (1 + (n : Int)) ≤ (s.size : Int) := by omega
  have h2 : (0 : Int) ≤ (a : Int) + (1 + (n : Int)) := by omega
  have h3 : (a : Int) ≤ (a : Int) + (1 + (n : Int)) := by omega
  have e1 : IntKind.i64.wrap ((a : Int) + 1) = ((a + 1 : Nat) : Int) := by rw [IntWalk.i64_in _ (by omega)]; omega
  have hn : ((a : Int) + (1 + (n : Int))).toNat = a + (1 + n) := by omega
  have hr2 : decide (0 < n) = true := decide_eq_true hr'
  clear hl hd hw
  have ec : ((a + 1 : Nat) : Int) = (a : Int) + 1 := by omega
  rw [ec] at cR
  clear ec e1
  go_enter Tryd.func25, Tryd.ntmps25
  go_wp2_with (first | (go_at_call 34; ((with_reducible refine (cL _).mono ?_); rintro e w1 ⟨rfl, rfl⟩)) | (go_at_call 36; ((with_reducible refine (cD _).mono ?_); rintro e w1 ⟨rfl, rfl⟩)) | (go_at_call 23; ((with_reducible refine (cR _ (by omega) (by omega)).mono ?_); rintro e w1 ⟨rfl, rfl⟩)) | (go_at_call 37; ((with_reducible refine (cW _).mono ?_); rintro e w1 ⟨rfl, ⟨nd, rfl⟩⟩)))
  refine bodyPost_ret (v := .tuple #[.agg #[.int .i64 2, .string ByteArray.empty, .int .i64 a], .int .i64 0]) (by simp [results, Tryd.results25, go_sem]) rfl ⟨ret_p rfl rfl rfl, (by repeat (first | (refine Below.setCell ?_ (by simp) _) | apply pw_below_drewN | (refine Below.alloc ?_ (by simp) _) | exact Below.refl _ _))⟩
set_option maxHeartbeats 8000000 in
set_option maxRecDepth 100000 in
theorem piece_nl (s : ByteArray) (a : Nat) (w : World) (hs : s.size ≤ 140737488355327) (ha : a < s.size) (hl : letB s[a] = false) (hd : digB s[a] = false) (hc : s[a].toNat = 10) :
    Calls Tryd.prog 25 #[.string s, .int .i64 a] w (PostP a (5, [s[a]], 1) w) := by
  have hu35 := Tryd.underlying35
  have cL := letter_w s[a]
  rw [hl] at cL
  have cD := digit_w s[a]
  rw [hd] at cD
  have g45 : ((s[a].toNat : Int) == 45) = false := by simp; omega
  have g34 : ((s[a].toNat : Int) == 34) = false := by simp; omega
  have g10 : ((s[a].toNat : Int) == 10) = true := by simp; omega
  have ha' : (a : Int) < (s.size : Int) := by omega
  have ha0 : (0 : Int) ≤ (a : Int) := by omega
  have h4 : (a : Int) ≤ (s.size : Int) := by omega
  have h5 : ((a : Int)).toNat = a := Int.toNat_natCast a
  have h1 : (a : Int) + 1 ≤ (s.size : Int) := by omega
  have h2 : (0 : Int) ≤ (a : Int) + 1 := by omega
  have h3 : (a : Int) ≤ (a : Int) + 1 := by omega
  have hn : ((a : Int) + 1).toNat = a + 1 := by omega
  have he : Aside0 (s.extract a (a + 1) = ⟨[s[a]].toArray⟩) := ⟨by rw [ext_eq, drop_cons s a ha]; rfl⟩
  clear hl hd hc
  go_enter Tryd.func25, Tryd.ntmps25
  go_wp2_with (first | (go_at_call 34; ((with_reducible refine (cL _).mono ?_); rintro e w1 ⟨rfl, rfl⟩)) | (go_at_call 36; ((with_reducible refine (cD _).mono ?_); rintro e w1 ⟨rfl, rfl⟩)))
  refine bodyPost_ret (v := .tuple #[.agg #[.int .i64 5, .string (s.extract a (a + 1)), .int .i64 a], .int .i64 1]) (by simp [results, Tryd.results25, go_sem]) rfl ⟨ret_p rfl he.out rfl, (by repeat (first | (refine Below.setCell ?_ (by simp) _) | apply pw_below_drewN | (refine Below.alloc ?_ (by simp) _) | exact Below.refl _ _))⟩
set_option maxHeartbeats 8000000 in
set_option maxRecDepth 100000 in
theorem piece_sg (s : ByteArray) (a : Nat) (w : World) (hs : s.size ≤ 140737488355327) (ha : a < s.size) (hl : letB s[a] = false) (hd : digB s[a] = false) (h34 : s[a].toNat ≠ 34) (h10 : s[a].toNat ≠ 10) (h45 : s[a].toNat ≠ 45) (hg : sgB s[a] = true) :
    Calls Tryd.prog 25 #[.string s, .int .i64 a] w (PostP a (4, [s[a]], 1) w) := by
  have hu35 := Tryd.underlying35
  have cL := letter_w s[a]
  rw [hl] at cL
  have cD := digit_w s[a]
  rw [hd] at cD
  have g45 : ((s[a].toNat : Int) == 45) = false := by simp; omega
  have g34 : ((s[a].toNat : Int) == 34) = false := by simp; omega
  have g10 : ((s[a].toNat : Int) == 10) = false := by simp; omega
  have ha' : (a : Int) < (s.size : Int) := by omega
  have ha0 : (0 : Int) ≤ (a : Int) := by omega
  have h4 : (a : Int) ≤ (s.size : Int) := by omega
  have h5 : ((a : Int)).toNat = a := Int.toNat_natCast a
  have cG := sign_w s[a]
  rw [hg] at cG
  have h1 : (a : Int) + 1 ≤ (s.size : Int) := by omega
  have h2 : (0 : Int) ≤ (a : Int) + 1 := by omega
  have h3 : (a : Int) ≤ (a : Int) + 1 := by omega
  have hn : ((a : Int) + 1).toNat = a + 1 := by omega
  have he : Aside0 (s.extract a (a + 1) = ⟨[s[a]].toArray⟩) := ⟨by rw [ext_eq, drop_cons s a ha]; rfl⟩
  clear h45
  clear hl hd h34 h10 hg
  go_enter Tryd.func25, Tryd.ntmps25
  go_upto_region 18 with (first | (go_at_call 34; ((with_reducible refine (cL _).mono ?_); rintro e w1 ⟨rfl, rfl⟩)) | (go_at_call 36; ((with_reducible refine (cD _).mono ?_); rintro e w1 ⟨rfl, rfl⟩)) | (go_at_call 39; ((with_reducible refine (cG _).mono ?_); rintro e w2 ⟨rfl, hb2⟩)))
  obtain ⟨k4, k6, hb, hz⟩ := boxes_at hb2
  have b40 := (Lib.cell_of_heap k4 0)
  have b41 := (Lib.cell_of_heap k4 1)
  have b42 := (Lib.cell_of_heap k4 2)
  have b60 := (Lib.cell_of_heap k6 0)
  have b61 := (Lib.cell_of_heap k6 1)
  have b62 := (Lib.cell_of_heap k6 2)
  have f40 := (Lib.frozen_of_heap k4 0)
  have f41 := (Lib.frozen_of_heap k4 1)
  have f42 := (Lib.frozen_of_heap k4 2)
  have f60 := (Lib.frozen_of_heap k6 0)
  have f61 := (Lib.frozen_of_heap k6 1)
  have f62 := (Lib.frozen_of_heap k6 2)
  simp only [List.getElem?_toArray, List.getElem?_cons_zero, List.getElem?_cons_succ] at b40 b41 b42 b60 b61 b62
  clear k4 k6 hb2
  go_wp2
  refine bodyPost_ret (v := .tuple #[.agg #[.int .i64 4, .string (s.extract a (a + 1)), .int .i64 a], .int .i64 1]) (by simp [results, Tryd.results25, go_sem, b40, b41, b42, b60, b61, b62]) rfl ⟨ret_p rfl he.out rfl, (by repeat (first | (refine Below.setCell ?_ (by simp) _) | exact hb))⟩
set_option maxHeartbeats 8000000 in
set_option maxRecDepth 100000 in
theorem piece_sm (s : ByteArray) (a : Nat) (w : World) (hs : s.size ≤ 140737488355327) (ha : a < s.size) (hl : letB s[a] = false) (hd : digB s[a] = false) (h34 : s[a].toNat ≠ 34) (h10 : s[a].toNat ≠ 10) (hm : s[a].toNat = 45) (hr : ((s.data.toList.drop (a + 1)).takeWhile digB).length = 0) (hg : sgB s[a] = true) :
    Calls Tryd.prog 25 #[.string s, .int .i64 a] w (PostP a (4, [s[a]], 1) w) := by
  have hu35 := Tryd.underlying35
  have cL := letter_w s[a]
  rw [hl] at cL
  have cD := digit_w s[a]
  rw [hd] at cD
  have g45 : ((s[a].toNat : Int) == 45) = true := by simp; omega
  have g34 : ((s[a].toNat : Int) == 34) = false := by simp; omega
  have g10 : ((s[a].toNat : Int) == 10) = false := by simp; omega
  have ha' : (a : Int) < (s.size : Int) := by omega
  have ha0 : (0 : Int) ≤ (a : Int) := by omega
  have h4 : (a : Int) ≤ (s.size : Int) := by omega
  have h5 : ((a : Int)).toNat = a := Int.toNat_natCast a
  have cG := sign_w s[a]
  rw [hg] at cG
  have h1 : (a : Int) + 1 ≤ (s.size : Int) := by omega
  have h2 : (0 : Int) ≤ (a : Int) + 1 := by omega
  have h3 : (a : Int) ≤ (a : Int) + 1 := by omega
  have hn : ((a : Int) + 1).toNat = a + 1 := by omega
  have he : Aside0 (s.extract a (a + 1) = ⟨[s[a]].toArray⟩) := ⟨by rw [ext_eq, drop_cons s a ha]; rfl⟩
  have cR := run_calls 36 digB ans_digit s (a + 1)
  rw [show runL digB s.data.toList (a + 1) = 0 from hr] at cR
  have ec : ((a + 1 : Nat) : Int) = (a : Int) + 1 := by omega
  rw [ec] at cR
  clear hm hr ec
  clear hl hd h34 h10 hg
  go_enter Tryd.func25, Tryd.ntmps25
  go_upto_region 18 with (first | (go_at_call 34; ((with_reducible refine (cL _).mono ?_); rintro e w1 ⟨rfl, rfl⟩)) | (go_at_call 36; ((with_reducible refine (cD _).mono ?_); rintro e w1 ⟨rfl, rfl⟩)) | (go_at_call 23; ((with_reducible refine (cR _ (by omega) (by omega)).mono ?_); rintro e w1 ⟨rfl, rfl⟩)) | (go_at_call 39; ((with_reducible refine (cG _).mono ?_); rintro e w2 ⟨rfl, hb2⟩)))
  obtain ⟨k4, k6, hb, hz⟩ := boxes_at hb2
  have b40 := (Lib.cell_of_heap k4 0)
  have b41 := (Lib.cell_of_heap k4 1)
  have b42 := (Lib.cell_of_heap k4 2)
  have b60 := (Lib.cell_of_heap k6 0)
  have b61 := (Lib.cell_of_heap k6 1)
  have b62 := (Lib.cell_of_heap k6 2)
  have f40 := (Lib.frozen_of_heap k4 0)
  have f41 := (Lib.frozen_of_heap k4 1)
  have f42 := (Lib.frozen_of_heap k4 2)
  have f60 := (Lib.frozen_of_heap k6 0)
  have f61 := (Lib.frozen_of_heap k6 1)
  have f62 := (Lib.frozen_of_heap k6 2)
  simp only [List.getElem?_toArray, List.getElem?_cons_zero, List.getElem?_cons_succ] at b40 b41 b42 b60 b61 b62
  clear k4 k6 hb2
  go_wp2
  refine bodyPost_ret (v := .tuple #[.agg #[.int .i64 4, .string (s.extract a (a + 1)), .int .i64 a], .int .i64 1]) (by simp [results, Tryd.results25, go_sem, b40, b41, b42, b60, b61, b62]) rfl ⟨ret_p rfl he.out rfl, (by repeat (first | (refine Below.setCell ?_ (by simp) _) | exact hb))⟩
set_option maxHeartbeats 8000000 in
set_option maxRecDepth 100000 in
theorem piece_no (s : ByteArray) (a : Nat) (w : World) (hs : s.size ≤ 140737488355327) (ha : a < s.size) (hl : letB s[a] = false) (hd : digB s[a] = false) (h34 : s[a].toNat ≠ 34) (h10 : s[a].toNat ≠ 10) (h45 : s[a].toNat ≠ 45) (hg : sgB s[a] = false) :
    Calls Tryd.prog 25 #[.string s, .int .i64 a] w (PostP a (0, [], 0) w) := by
  have hu35 := Tryd.underlying35
  have cL := letter_w s[a]
  rw [hl] at cL
  have cD := digit_w s[a]
  rw [hd] at cD
  have g45 : ((s[a].toNat : Int) == 45) = false := by simp; omega
  have g34 : ((s[a].toNat : Int) == 34) = false := by simp; omega
  have g10 : ((s[a].toNat : Int) == 10) = false := by simp; omega
  have ha' : (a : Int) < (s.size : Int) := by omega
  have ha0 : (0 : Int) ≤ (a : Int) := by omega
  have h4 : (a : Int) ≤ (s.size : Int) := by omega
  have h5 : ((a : Int)).toNat = a := Int.toNat_natCast a
  have cG := sign_w s[a]
  rw [hg] at cG
  clear hl hd h34 h10 h45 hg
  go_enter Tryd.func25, Tryd.ntmps25
  go_upto_region 4 with (first | (go_at_call 34; ((with_reducible refine (cL _).mono ?_); rintro e w1 ⟨rfl, rfl⟩)) | (go_at_call 36; ((with_reducible refine (cD _).mono ?_); rintro e w1 ⟨rfl, rfl⟩)) | (go_at_call 39; ((with_reducible refine (cG _).mono ?_); rintro e w2 ⟨rfl, hb2⟩)))
  obtain ⟨k4, k6, hb, hz⟩ := boxes_at hb2
  have b40 := (Lib.cell_of_heap k4 0)
  have b41 := (Lib.cell_of_heap k4 1)
  have b42 := (Lib.cell_of_heap k4 2)
  have b60 := (Lib.cell_of_heap k6 0)
  have b61 := (Lib.cell_of_heap k6 1)
  have b62 := (Lib.cell_of_heap k6 2)
  have f40 := (Lib.frozen_of_heap k4 0)
  have f41 := (Lib.frozen_of_heap k4 1)
  have f42 := (Lib.frozen_of_heap k4 2)
  have f60 := (Lib.frozen_of_heap k6 0)
  have f61 := (Lib.frozen_of_heap k6 1)
  have f62 := (Lib.frozen_of_heap k6 2)
  simp only [List.getElem?_toArray, List.getElem?_cons_zero, List.getElem?_cons_succ] at b40 b41 b42 b60 b61 b62
  clear k4 k6 hb2
  go_wp2
  refine bodyPost_ret (v := .tuple #[.agg #[.int .i64 0, .string ByteArray.empty, .int .i64 a], .int .i64 0]) (by simp [results, Tryd.results25, go_sem, b40, b41, b42, b60, b61, b62]) rfl ⟨ret_p rfl rfl rfl, (by repeat (first | (refine Below.setCell ?_ (by simp) _) | exact hb))⟩
set_option maxHeartbeats 8000000 in
set_option maxRecDepth 100000 in
theorem piece_qn (s : ByteArray) (a : Nat) (w : World) (hs : s.size ≤ 140737488355327) (ha : a < s.size) (hT : TabsW w) (hl : letB s[a] = false) (hd : digB s[a] = false) (h34 : s[a].toNat = 34) (hq : qtd (s.data.toList.drop (a + 1)) [] 1 = none) :
    Calls Tryd.prog 25 #[.string s, .int .i64 a] w (PostP a (3, [], 0) w) := by
  have hu35 := Tryd.underlying35
  have cL := letter_w s[a]
  rw [hl] at cL
  have cD := digit_w s[a]
  rw [hd] at cD
  have g45 : ((s[a].toNat : Int) == 45) = false := by simp; omega
  have g34 : ((s[a].toNat : Int) == 34) = true := by simp; omega
  have ha' : (a : Int) < (s.size : Int) := by omega
  have ha0 : (0 : Int) ≤ (a : Int) := by omega
  have h4 : (a : Int) ≤ (s.size : Int) := by omega
  have h5 : ((a : Int)).toNat = a := Int.toNat_natCast a
  have HT := Aside0.mk hT
  have cQ := fun (W : World) (h : TabsW W) => quoted_calls s a W hs ha h
  rw [hq] at cQ
  have cQ2 : ∀ W, TabsW W → Calls Tryd.prog 38 #[.string s, .int .i64 a] W fun e w' => e = .returned (.tuple #[.string ⟨#[]⟩, .int .i64 0]) ∧ Below W.heap.size W w' := cQ
  clear hl hd h34 hq hT cQ
  go_enter Tryd.func25, Tryd.ntmps25
  go_wp2_with (first | (go_at_call 34; ((with_reducible refine (cL _).mono ?_); rintro e w1 ⟨rfl, rfl⟩)) | (go_at_call 36; ((with_reducible refine (cD _).mono ?_); rintro e w1 ⟨rfl, rfl⟩)) | (go_at_call 38; ((with_reducible refine (cQ2 _ (HT.out.below (((Below.refl _ w).alloc (Nat.le_refl _) _).alloc (by simp) _))).mono ?_); rintro e w2 ⟨rfl, hb2⟩; obtain ⟨k4, k6, hb, hz⟩ := boxes_at hb2; have b40 := (Lib.cell_of_heap k4 0); have b41 := (Lib.cell_of_heap k4 1); have b42 := (Lib.cell_of_heap k4 2); have b60 := (Lib.cell_of_heap k6 0); have b61 := (Lib.cell_of_heap k6 1); have b62 := (Lib.cell_of_heap k6 2); have f40 := (Lib.frozen_of_heap k4 0); have f41 := (Lib.frozen_of_heap k4 1); have f42 := (Lib.frozen_of_heap k4 2); have f60 := (Lib.frozen_of_heap k6 0); have f61 := (Lib.frozen_of_heap k6 1); have f62 := (Lib.frozen_of_heap k6 2); simp only [List.getElem?_toArray, List.getElem?_cons_zero, List.getElem?_cons_succ] at b40 b41 b42 b60 b61 b62; clear k4 k6 hb2)))
  refine bodyPost_ret (v := .tuple #[.agg #[.int .i64 3, .string ⟨#[]⟩, .int .i64 a], .int .i64 0]) (by simp [results, Tryd.results25, go_sem, b40, b41, b42, b60, b61, b62]) rfl ⟨ret_p rfl rfl rfl, (by repeat (first | (refine Below.setCell ?_ (by simp) _) | exact hb))⟩
set_option maxHeartbeats 8000000 in
set_option maxRecDepth 100000 in
theorem piece_qs (s : ByteArray) (a : Nat) (w : World) (hs : s.size ≤ 140737488355327) (ha : a < s.size) (hT : TabsW w) (hl : letB s[a] = false) (hd : digB s[a] = false) (h34 : s[a].toNat = 34) (t : List UInt8) (n : Nat) (hq : qtd (s.data.toList.drop (a + 1)) [] 1 = some (t, n)) :
    Calls Tryd.prog 25 #[.string s, .int .i64 a] w (PostP a (3, t, n) w) := by
  have hu35 := Tryd.underlying35
  have cL := letter_w s[a]
  rw [hl] at cL
  have cD := digit_w s[a]
  rw [hd] at cD
  have g45 : ((s[a].toNat : Int) == 45) = false := by simp; omega
  have g34 : ((s[a].toNat : Int) == 34) = true := by simp; omega
  have ha' : (a : Int) < (s.size : Int) := by omega
  have ha0 : (0 : Int) ≤ (a : Int) := by omega
  have h4 : (a : Int) ≤ (s.size : Int) := by omega
  have h5 : ((a : Int)).toNat = a := Int.toNat_natCast a
  have HT := Aside0.mk hT
  have cQ := fun (W : World) (h : TabsW W) => quoted_calls s a W hs ha h
  rw [hq] at cQ
  have cQ2 : ∀ W, TabsW W → Calls Tryd.prog 38 #[.string s, .int .i64 a] W fun e w' => e = .returned (.tuple #[.string ⟨t.toArray⟩, .int .i64 n]) ∧ Below W.heap.size W w' := cQ
  clear hl hd h34 hq hT cQ
  go_enter Tryd.func25, Tryd.ntmps25
  go_wp2_with (first | (go_at_call 34; ((with_reducible refine (cL _).mono ?_); rintro e w1 ⟨rfl, rfl⟩)) | (go_at_call 36; ((with_reducible refine (cD _).mono ?_); rintro e w1 ⟨rfl, rfl⟩)) | (go_at_call 38; ((with_reducible refine (cQ2 _ (HT.out.below (((Below.refl _ w).alloc (Nat.le_refl _) _).alloc (by simp) _))).mono ?_); rintro e w2 ⟨rfl, hb2⟩; obtain ⟨k4, k6, hb, hz⟩ := boxes_at hb2; have b40 := (Lib.cell_of_heap k4 0); have b41 := (Lib.cell_of_heap k4 1); have b42 := (Lib.cell_of_heap k4 2); have b60 := (Lib.cell_of_heap k6 0); have b61 := (Lib.cell_of_heap k6 1); have b62 := (Lib.cell_of_heap k6 2); have f40 := (Lib.frozen_of_heap k4 0); have f41 := (Lib.frozen_of_heap k4 1); have f42 := (Lib.frozen_of_heap k4 2); have f60 := (Lib.frozen_of_heap k6 0); have f61 := (Lib.frozen_of_heap k6 1); have f62 := (Lib.frozen_of_heap k6 2); simp only [List.getElem?_toArray, List.getElem?_cons_zero, List.getElem?_cons_succ] at b40 b41 b42 b60 b61 b62; clear k4 k6 hb2)))
  refine bodyPost_ret (v := .tuple #[.agg #[.int .i64 3, .string ⟨t.toArray⟩, .int .i64 a], .int .i64 n]) (by simp [results, Tryd.results25, go_sem, b40, b41, b42, b60, b61, b62]) rfl ⟨ret_p rfl rfl rfl, (by repeat (first | (refine Below.setCell ?_ (by simp) _) | exact hb))⟩
theorem sg_minus (c : UInt8) (h : c.toNat = 45) : sgB c = true := by
  have : c = 45 := UInt8.toNat_inj.1 h
  rw [this]; decide
theorem piece_calls (s : ByteArray) (a : Nat) (w : World) (hs : s.size ≤ 140737488355327) (ha : a < s.size) (hT : TabsW w) :
    Calls Tryd.prog 25 #[.string s, .int .i64 a] w (PostP a (pcT (s.data.toList.drop a)) w) := by
  have hdr := drop_cons s a ha
  cases hl : letB s[a] with
  | true =>
    have := piece_word s a w hs ha hl
    rw [hdr] at this ⊢
    unfold pcT
    dsimp only
    rw [if_pos hl]
    exact this
  | false =>
    rw [hdr]
    unfold pcT
    dsimp only
    rw [if_neg (by rw [hl]; simp)]
    cases hd : digB s[a] with
    | true =>
      rw [if_pos (Or.inl rfl)]
      cases hw : whoL (s[a] :: (s.data.toList.drop (a + 1)).takeWhile digB) with
      | true => rw [if_pos rfl]; exact piece_dd s a w hs ha hl hd hw
      | false => rw [if_neg (by simp)]; exact piece_dn s a w hs ha hl hd hw
    | false =>
      by_cases hm : s[a].toNat = 45
      · by_cases hr : 0 < ((s.data.toList.drop (a + 1)).takeWhile digB).length
        · rw [if_pos (Or.inr ⟨hm, hr⟩)]
          cases hw : whoL (s[a] :: (s.data.toList.drop (a + 1)).takeWhile digB) with
          | true => rw [if_pos rfl]; exact piece_md s a w hs ha hl hd hm hr hw
          | false => rw [if_neg (by simp)]; exact piece_mn s a w hs ha hl hd hm hr hw
        · rw [if_neg (fun h => h.elim (fun h => by cases h) (fun h => hr h.2)), if_neg (by omega), if_neg (by omega), if_pos (sg_minus _ hm)]
          exact piece_sm s a w hs ha hl hd (by omega) (by omega) hm (by omega) (sg_minus _ hm)
      · rw [if_neg (fun h => h.elim (fun h => by cases h) (fun h => hm h.1))]
        by_cases h34 : s[a].toNat = 34
        · rw [if_pos h34]
          cases hq : qtd (s.data.toList.drop (a + 1)) [] 1 with
          | none => exact piece_qn s a w hs ha hT hl hd h34 hq
          | some x => exact piece_qs s a w hs ha hT hl hd h34 x.1 x.2 hq
        · rw [if_neg h34]
          by_cases h10 : s[a].toNat = 10
          · rw [if_pos h10]; exact piece_nl s a w hs ha hl hd h10
          · rw [if_neg h10]
            cases hg : sgB s[a] with
            | true => rw [if_pos rfl]; exact piece_sg s a w hs ha hl hd h34 h10 hm hg
            | false => rw [if_neg (by simp)]; exact piece_no s a w hs ha hl hd h34 h10 hm hg
end Go.Proofs.YtllccnijipgncaaDoor.Q
