/- How arguments are read as data, kind by kind: what a law's row asks of its arguments, as plain values. No conditions. -/
import Derived.Test.YtocjbedacnlaaaaGreatDoorWWords
import Derived.WalkKit
import Derived.ProofKit
import Derived.OpenShut
import Derived.ShutString
import Derived.ChangeOld
import Derived.Below
import Derived.SizedLaws
import Derived.Deep.Slices
namespace Go.Proofs.YtocjbedacnlaaaaGreatDoor.Open
open Go.RowKit Go.Proofs.YtocjbedacnlaaaaGreatDoorW.PrintWords
set_option linter.unusedVariables false
/-- Whatever is read as data of type t is of kind d, and fits F. -/
def Opens (P : Program) (t : TypeId) {α : Type} (d : Kd α) (F : α → Prop) : Prop :=
  ∀ (H : Type) (enc : TypeId × Value → H) (w : World) (base : Nat) (spare : Nat → Bool) (held : Bool) (fuel : Nat) (cs : List Value) (x : DataW H × List MemPlace),
    DataW.trod enc P w base spare held fuel t cs = some x → (∀ n ∈ x.1.weights P t, n ≤ reachBytes) → ∃ v : α, d.K w v cs ∧ F v
variable {P : Program} {t e : TypeId}
theorem Opens.mono_ {α : Type} {d : Kd α} {F G : α → Prop} (h : Opens P t d F) (hf : ∀ x, F x → G x) : Opens P t d G := by
  intro H enc w base spare held fuel cs x h1 h2
  obtain ⟨v, hv, hF⟩ := h H enc w base spare held fuel cs x h1 h2
  exact ⟨v, hv, hf v hF⟩
theorem opens_int {k : IntKind} (ht : P.underlying t = some (.int k)) : Opens P t (Kd.int k) (fun n => (Lit.int k n).wf = true) := by
  intro H enc w base spare held fuel cs x h _
  obtain ⟨n, rfl, _, hw⟩ := DataW.trod_int ht h
  exact ⟨n, rfl, hw⟩
theorem opens_bool (ht : P.underlying t = some .bool) : Opens P t Kd.bool (fun _ => True) := by
  intro H enc w base spare held fuel cs x h _
  obtain ⟨b, rfl, _⟩ := DataW.trod_bool ht h
  exact ⟨b, rfl, trivial⟩
theorem opens_string (ht : P.underlying t = some .string) : Opens P t Kd.string (fun s => s.size ≤ 140737488351232) := by
  intro H enc w base spare held fuel cs x h hw
  obtain ⟨s, rfl, rfl, _⟩ := DataW.trod_string ht h
  refine ⟨s, rfl, ?_⟩
  have := hw s.data.toList.length (by simp [DataW.weights])
  simpa [reachBytes] using this
theorem weights_all {H : Type} {l : List (DataW H)} {d : DataW H} (hd : d ∈ l) : ∀ n ∈ d.weights P e, n ∈ DataW.weightsAll P e l := by
  intro n hn
  induction l with
  | nil => cases hd
  | cons a l ih =>
    simp only [DataW.weightsAll, List.mem_append]
    rcases List.mem_cons.1 hd with rfl | hd
    · exact .inl hn
    · exact .inr (ih hd)
theorem opens_slice {α : Type} {d : Kd α} {F : α → Prop} (ht : P.underlying t = some (.slice e)) (hc : P.cellsOf e = d.sz) {B : Nat} (hB : P.bytesOf e = B) (h : Opens P e d F) :
    Opens P t (Kd.slice e d) (fun l => l.length * B ≤ 140737488351232 ∧ ∀ x ∈ l, F x) := by
  intro H enc w base spare held fuel cs x hx hw
  rcases Go.Deep.open_slice ht hx with ⟨rfl, rfl⟩ | ⟨a, len, cap, m, n, D, Pl, rfl, hb, hl, hm, hmm, rfl, hel⟩
  · exact ⟨[], ⟨none, 0, rfl, Nat.le_refl _, Kd.C_nil _ _⟩, by simp, by simp⟩
  · have hlm : len ≤ m := by rw [hmm]; split <;> omega
    have hw2 : ∀ i, i < len → ∀ n ∈ (D i).weights P e, n ≤ reachBytes := by
      intro i hi n hn
      refine hw n ?_
      simp only [DataW.weights, ht]
      refine List.mem_cons_of_mem _ (List.mem_append_left _ (weights_all ?_ n hn))
      exact List.mem_map.2 ⟨i, List.mem_range.2 hi, rfl⟩
    rcases Nat.eq_zero_or_pos len with h0 | hpos
    · subst h0
      refine ⟨[], ⟨some a, cap, rfl, Nat.zero_le _, ?_⟩, by simp, by simp⟩
      exact ⟨rfl, by simp, fun h => absurd h (Nat.lt_irrefl 0)⟩
    have hne : Nonempty α := by
      obtain ⟨c, _, h2⟩ := hel 0 (by omega)
      obtain ⟨v, _⟩ := h H enc w base spare held n c _ h2 (hw2 0 hpos)
      exact ⟨v⟩
    have hin : Inhabited α := ⟨Classical.choice hne⟩
    obtain ⟨V, hV⟩ := Go.Deep.choose_lt (α := α) (n := len) (p := fun i v => (∃ c, c.length = d.sz ∧ d.K w v c ∧ ∀ j u, c[j]? = some u → w.cell? (a.add (i * d.sz + j)) = some u) ∧ F v) (fun i hi => by
      obtain ⟨c, h1, h2⟩ := hel i (by omega)
      obtain ⟨v, hv, hf⟩ := h H enc w base spare held n c _ h2 (hw2 i hi)
      obtain ⟨_, hlen, hcell⟩ := World.cells?_some h1
      rw [hc] at hlen
      refine ⟨v, ⟨c, hlen, hv, fun j u hu => ?_⟩, hf⟩
      have hj : j < d.sz := by rw [← hlen]; exact (List.getElem?_eq_some_iff.1 hu).1
      have hh := hcell j (by rw [hc]; exact hj)
      rw [hu, hc, Go.Deep.add_add] at hh
      exact hh)
    have hlen : ((List.range len).map V).length = len := by simp
    refine ⟨(List.range len).map V, ⟨some a, cap, by rw [hlen], by rw [hlen]; exact hl, hlen.symm ▸ ⟨by rw [hlen], ?_, fun _ => ⟨a, rfl, ?_⟩⟩⟩, ?_, ?_⟩
    · unfold maxLen at hm; omega
    · intro j p hp
      have hj : j < len := by have := (List.getElem?_eq_some_iff.1 hp).1; rw [hlen] at this; exact this
      have e1 : V j = p := by simpa [hj] using hp
      obtain ⟨⟨c, h1, h2, h3⟩, _⟩ := hV j hj
      exact ⟨c, h1, e1 ▸ h2, h3⟩
    · rw [hlen]
      have := hw ((((List.range len).map D).length + ((List.range (m - len)).map fun j => D (len + j)).length) * P.bytesOf e) (by simp [DataW.weights, ht])
      rw [hB] at this
      simp only [List.length_map, List.length_range] at this
      exact Nat.le_trans (Nat.mul_le_mul_right _ (by omega)) this
    · intro x hx
      obtain ⟨j, hj, rfl⟩ := List.mem_map.1 hx
      exact (hV j (List.mem_range.1 hj)).2
/-- The fields of a struct from a place on. -/
def OpensF (P : Program) (fs : List Field) (off : Nat) {α : Type} (d : Kd α) (F : α → Prop) : Prop :=
  ∀ (H : Type) (enc : TypeId × Value → H) (w : World) (base : Nat) (spare : Nat → Bool) (held : Bool) (n : Nat) (cs : List Value) (xs : List (DataW H × List MemPlace)),
    cs.length = off + d.sz → xs.length = fs.length → (∀ (i : Nat) (f : Field), fs[i]? = some f → DataW.trod enc P w base spare held n f.type ((cs.drop f.offset).take (P.cellsOf f.type)) = xs[i]?) →
    (∀ m ∈ DataW.weightsEach P (fs.map (·.type)) (xs.map (·.1)), m ≤ reachBytes) → ∃ v : α, d.K w v (cs.drop off) ∧ F v
theorem opensF_one {f : Field} {off : Nat} {α : Type} {d : Kd α} {F : α → Prop} (h : Opens P f.type d F) (ho : f.offset = off) (hc : P.cellsOf f.type = d.sz) : OpensF P [f] off d F := by
  intro H enc w base spare held n cs xs hl hx hf hw
  match xs, hx with
  | [x], _ =>
    have h1 := hf 0 f rfl
    rw [ho, hc, List.take_of_length_le (by rw [List.length_drop]; omega)] at h1
    exact h H enc w base spare held n _ x h1 (fun m hm => hw m (by simp [DataW.weightsEach, hm]))
theorem opensF_cons {f : Field} {fs : List Field} {off : Nat} {α β : Type} {a : Kd α} {b : Kd β} {F : α → Prop} {G : β → Prop} (h : Opens P f.type a F) (ho : f.offset = off) (hc : P.cellsOf f.type = a.sz) (hs : OpensF P fs (off + a.sz) b G) :
    OpensF P (f :: fs) off (Kd.pair a b) (fun x => F x.1 ∧ G x.2) := by
  intro H enc w base spare held n cs xs hl hx hf hw
  match xs, hx with
  | x :: xs, hx =>
    have h1 := hf 0 f rfl
    rw [ho, hc] at h1
    obtain ⟨v, hv, hF⟩ := h H enc w base spare held n _ x h1 (fun m hm => hw m (by simp [DataW.weightsEach, hm]))
    have hl' : cs.length = off + (a.sz + b.sz) := hl
    obtain ⟨u, hu, hG⟩ := hs H enc w base spare held n cs xs (by omega) (by simpa using hx) (fun i g hg => hf (i + 1) g (by simpa using hg)) (fun m hm => hw m (by simp [DataW.weightsEach, hm]))
    refine ⟨(v, u), ⟨_, _, ?_, hv, hu⟩, hF, hG⟩
    rw [← List.drop_drop, List.take_append_drop]
theorem opens_struct {fs : Array Field} {α β : Type} {d : Kd α} {F : α → Prop} (ht : P.underlying t = some (.struct fs)) (hc : P.cellsOf t = d.sz) (h : OpensF P fs.toList 0 d F) (g : β → α) (gi : α → β) (hg : ∀ a, g (gi a) = a) :
    Opens P t (Kd.iso d g) (fun x => F (g x)) := by
  intro H enc w base spare held fuel cs x hx hw
  obtain ⟨xs, n, rfl, rfl, hl, hlen, hf⟩ := DataW.trod_struct ht hx
  obtain ⟨v, hv, hF⟩ := h H enc w base spare held n cs xs (by rw [hl, hc]; omega) (by simpa using hlen) (fun i f hi => hf i f (by simpa using hi)) (fun m hm => hw m (by simp only [DataW.weights, ht]; exact hm))
  exact ⟨gi v, by show d.K w (g (gi v)) cs; rw [hg]; exact hv, by show F (g (gi v)); rw [hg]; exact hF⟩
/-- A law's argument: its reading as a plain value. -/
theorem opens_arg {α : Type} {d : Kd α} {F : α → Prop} (h : Opens P t d F) {H : Type} {enc : TypeId × Value → H} {w : World} {base : Nat} {spare : Nat → Bool} {held : Bool} {v : Value} {x : DataW H} {ps : List MemPlace} (hT : DataW.Trod enc P w base spare held t v x ps) {ts : List TypeId} {ds : List (DataW H)} {j : Nat}
    (hsz : (DataW.weightsEach P ts ds).all (· ≤ reachBytes) = true) (ht : ts[j]? = some t) (hd : ds[j]? = some x) : ∃ y : α, d.K w y v.cells.toList ∧ F y := by
  obtain ⟨fuel, hf⟩ := hT
  exact h H enc w base spare held fuel _ _ hf (fun n hn => by simpa using List.all_eq_true.1 hsz _ (DataW.weights_mem_each ht hd n hn))
end Go.Proofs.YtocjbedacnlaaaaGreatDoor.Open
