/- LexPlaces: the plain law. No conditions. -/
import Derived.Test.YtllccnijipgncaaDoorKinds
import Derived.Test.YtllccnijipgncaaDoorLex6
import Derived.Test.YtllccnijipgncaaDoorQ21
namespace Go.Proofs.YtllccnijipgncaaDoor.Pure
open Go.RowKit Go.Proofs.YtllccnijipgncaaDoor.Q Go.Proofs.YtllccnijipgncaaDoorW.PrintWords Go.Proofs.YtllccnijipgncaaDoorW.PrintMore
theorem places_l0 (s : ByteArray) (hs : s.size ≤ 300) (l : List S35) (hl : l.length ≤ 300) : ∀ (d i k : Nat) (last : Int), l.length - i = d → i ≤ l.length → d + 1 ≤ k → Plc s.data.toList last (l.drop i) →
    partitalaw18_LexPlaces.l0 k s true l last (i : Int) = some true := by
  intro d
  induction d with
  | zero =>
    intro i k last hd hi hk hp
    obtain ⟨k, rfl⟩ : ∃ m, k = m + 1 := ⟨k - 1, by omega⟩
    simp only [partitalaw18_LexPlaces.l0]
    rw [if_neg (by omega)]
  | succ d ih =>
    intro i k last hd hi hk hp
    obtain ⟨k, rfl⟩ : ∃ m, k = m + 1 := ⟨k - 1, by omega⟩
    have h : i < l.length := by omega
    rw [List.drop_eq_getElem_cons h] at hp
    obtain ⟨g1, ⟨n, hn, hx2, ⟨u, hu⟩, g3⟩, g4, g5, g6⟩ := hp
    have hn' := hn
    rw [size_list] at hn'
    simp only [partitalaw18_LexPlaces.l0]
    rw [if_pos (show (i : Int) < (l.length : Int) by omega), if_pos (by omega), w64 (by omega), if_pos (by omega), if_pos (by omega)]
    have e1 : (l.take ((i : Int) + 1).toNat).drop ((i : Int)).toNat = [l[i]] := by
      rw [show ((i : Int) + 1).toNat = i + 1 by omega, Int.toNat_natCast, List.take_succ_eq_append_getElem h, List.drop_append_of_le_length (by rw [List.length_take]; omega), List.drop_of_length_le (by rw [List.length_take]; omega)]
      rfl
    rw [e1, rd_getd l i h]
    generalize l[i] = x at g1 hx2 hu g3 g4 g5 g6
    have g5' : x.f1.size ≤ 1000000 := by rw [size_list] at g5; omega
    rw [print_f [x] (by simp) (fun y hy => by obtain rfl := List.mem_singleton.1 hy; exact g5'), if_pos (by simp [g4])]
    simp only [Option.bind_some]
    have ht : txt 5 [x] = s.data.toList[n] :: u := by
      unfold txt sepL txt
      rw [if_neg (fun e => e.2 rfl), hu]; simp
    have hz : (⟨(txt 5 [x]).toArray⟩ : ByteArray).size = u.length + 1 := by rw [size_mk, ht]; rfl
    rw [hx2] at g1 ⊢
    rw [if_neg (by omega), if_neg (by omega), if_pos trivial, hz, if_neg (by omega), if_pos (by omega), if_pos (by omega), if_pos (by omega)]
    have hb1 : bt ⟨(txt 5 [x]).toArray⟩ 0 = bt s (n : Int) := by
      rw [bt_list s n hn', show (0 : Int) = ((0 : Nat) : Int) from rfl, bt_list ⟨(txt 5 [x]).toArray⟩ 0 (by rw [hz]; omega)]
      congr 2
      have e2 : ∀ (m : List UInt8) (hm : 0 < (⟨m.toArray⟩ : ByteArray).size), (⟨m.toArray⟩ : ByteArray)[0] = m[0]'(by rwa [size_mk] at hm) := fun m hm => rfl
      rw [e2]
      simp only [ht, List.getElem_cons_zero]
      rfl
    rw [if_pos hb1]
    have fin : partitalaw18_LexPlaces.l0 k s true l (n : Int) ((i : Int) + 1) = some true := by
      have := ih (i + 1) k (n : Int) (by omega) (by omega) (by omega) (by rw [hx2] at g6; exact g6)
      exact this
    by_cases h3 : x.f0 = 3
    · rw [if_pos h3]; exact fin
    · rw [if_neg h3]
      obtain ⟨q1, q2⟩ := g3 h3
      rw [size_list] at q2
      rw [w64 (by omega), if_neg (by omega), if_pos (by omega), if_pos (by omega), if_pos ?_]
      · exact fin
      · rw [Int.toNat_natCast, show ((n : Int) + (x.f1.size : Int)).toNat = n + x.f1.size by omega, ext_eq, toList_data, toList_data]
        exact q1.symm
theorem LexPlaces : ∀ (a0 : ByteArray), (a0.size ≤ 140737488351232) → ∃ k, partitalaw18_LexPlaces.f k a0 = some true := by
  intro a0 h0
  refine ⟨1000, ?_⟩
  obtain ⟨K, hK⟩ : ∃ K : Nat, K = 1000 := ⟨_, rfl⟩
  rw [← hK]
  unfold partitalaw18_LexPlaces.f
  rw [awake_ge K (by omega)]
  simp only [Option.bind_some]
  by_cases hz : (a0.size : Int) > 300
  · rw [if_pos hz]
  · rw [if_neg hz, tokens_s a0 (by omega) K (by omega)]
    simp only [Option.bind_some]
    have hp := tk_plc a0.data.toList a0.data.toList 0 List.drop_zero (-1) (by omega)
    have hl := tk_len a0.data.toList 0
    rw [size_list] at hl
    cases hq : (tkL a0.data.toList 0).2 with
    | some p =>
      simp only [resT, hq]
      exact places_l0 a0 (by omega) [] (by simp) 0 0 K (-1) rfl (by simp) (by omega) trivial
    | none =>
      simp only [resT, hq, List.nil_append]
      exact places_l0 a0 (by omega) _ (by omega) _ 0 K (-1) rfl (by omega) (by omega) hp
end Go.Proofs.YtllccnijipgncaaDoor.Pure
