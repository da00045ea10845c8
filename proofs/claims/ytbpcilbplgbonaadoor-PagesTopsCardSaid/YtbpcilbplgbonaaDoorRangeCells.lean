/- A range over a function whose iterator keeps cells of its own: the caller's invariant speaks of what lay ahead of the loop alone; whatever lies behind that is the iterator's, and the round leaves it. No program in sight. -/
import Derived.RangeFuncNested
import Derived.Scope
namespace Go.Proofs
open Go.RowKit
variable {F : Fence} {n : Nat} {P : Program} {w : World}
/-- What abides every turn of whatever lies at or behind a place. -/
def ByBelow {β : Type} (B : Nat) (J : β → World → Prop) : Prop := ∀ s W W', J s W → Below B W W' → J s W'
theorem ByBelow.mono {β : Type} {B C : Nat} {J : β → World → Prop} (h : ByBelow B J) (hc : B ≤ C) : ByBelow C J := fun s W W' hs hb => h s W W' hs (hb.mono hc)
theorem below_putObj {B l : Nat} (W : World) (o : Obj) (h : B ≤ l) : Below B W (W.putObj l o) :=
  ⟨rfl, rfl, rfl, by simp, fun k hk => World.putObj_heap_other (by omega)⟩
/-- The contract of an iterator that may turn whatever lies at or behind the place where the loop began. -/
def SeqStopsC {α : Type} (F : Fence) (n : Nat) (P : Program) (g : Nat) (lb : Array Value) (encs : α → Array Value) (Kp : Nat → World → World → Prop) (S Sp : List α → Prop) (Ok : List α → α → Prop) (w : World) : Prop :=
  ∀ (l : Nat) (J Jx : List α → World → Prop) (W : World), Below w.heap.size w W → ByBelow W.heap.size J → ByBelow W.heap.size Jx →
    (∀ pre x V, J pre V → Ok pre x → YieldAt F (n - 1) P l (encs x) V fun e V' =>
      (e = .returned (.bool true) ∧ J (pre ++ [x]) V' ∧ Kp W.heap.size V V') ∨ (e = .returned (.bool false) ∧ Jx (pre ++ [x]) V')) →
    J [] W →
    CallsIn F n P g (#[.func (.yield l) #[] #[]] ++ lb) W fun e W' => (∃ v, e = .returned v) ∧ ((∃ xs, S xs ∧ J xs W') ∨ (∃ pre, Sp pre ∧ Jx pre W'))
/-- The two blocks of the loop's own lie as they lay. -/
def Booked (B : Nat) (W W' : World) : Prop := W'.heap[B]? = W.heap[B]? ∧ W'.heap[B + 1]? = W.heap[B + 1]?
/-- How a round may be left: on, or by a return. -/
def postC {α : Type} (B : Nat) (Kp : Nat → World → World → Prop) (I Ix : List α → World → Prop) (xs : List α) (W : World) : Exit → Act → World → Prop
  | .normal, _, W' => Booked B W W' ∧ Kp (B + 2) W W' ∧ I xs W'
  | .ret, _, W' => Booked B W W' ∧ Ix xs W'
  | .exit _, _, _ => False
  | .goto _, _, _ => False
  | .panic _, _, _ => False
  | .outgrown, _, _ => False
theorem wpIn_rangeFunc_cells {α : Type} {g : Operand} {ps : Array Tmp} {assign body : Code} {Q : Exit → Act → World → Prop} {a : Act}
    (hro : F.round = none) (h1 : 1 ≤ n) {gf : Nat} {lb : Array Value} (hg : a.eval g = .func (.func gf) #[] lb) (hFg : F.fn gf) (eg : ∀ args w, (callFunc gf args).run P w = .ok (.enter gf args) w)
    {encs : α → Array Value} {Kp : Nat → World → World → Prop} {S Sp : List α → Prop} {Ok : List α → α → Prop} {w0 : World} (hseq : SeqStopsC F (n - 1) P gf lb encs Kp S Sp Ok w0) (hb0 : Below w0.heap.size w0 w)
    (hKt : ∀ {A B C : World}, Kp (w.heap.size + 2) A B → Kp (w.heap.size + 2) B C → Kp (w.heap.size + 2) A C) (hKb : ∀ (W : World) (o : Obj), w.heap.size + 1 < W.heap.size → Kp (w.heap.size + 2) W (W.putObj (w.heap.size + 1) o)) (hps : ∀ x, (encs x).size = ps.size)
    (I Ix : List α → World → Prop) (hI : ByBelow w.heap.size I) (hIx : ByBelow w.heap.size Ix) (h0 : I [] w) (Ax : α → Act → World → Prop) (hAx : ∀ x a' W o, Ax x a' W → Ax x a' (W.putObj (w.heap.size + 1) o))
    (hassign : ∀ (l : Nat) (pre : List α) (x : α) (W : World) (K : Act → World → Prop), w.heap.size + 2 ≤ W.heap.size → I pre W → (∀ a' W', Booked w.heap.size W W' → Kp (w.heap.size + 2) W W' → I pre W' → Ax x a' W' → K a' W') →
      assign.wpIn (F.inRound l) (n - 1 - 1) P (Exit.then K (fun _ _ _ => False)) { tmps := (ps.zip (encs x)).foldl (fun t (p, v) => t.setIfInBounds p v) a.tmps, defers := [] } W)
    (hbody : ∀ (l : Nat) (pre : List α) (x : α) (a' : Act) (W : World), w.heap.size + 2 ≤ W.heap.size → I pre W → Ax x a' W → Ok pre x → body.wpIn (F.inRound l) (n - 1 - 1) P (postC w.heap.size Kp I Ix (pre ++ [x]) W) a' W)
    (hdone : ∀ (D : Nat) (xs : List α) (W : World), w.heap.size ≤ D → S xs → I xs W → W.heap[D]? = some (.deferred (some [])) → Q .normal { a with defers := { target := .collected D, args := #[] } :: a.defers } W)
    (hstop : ∀ (D : Nat) (pre : List α) (W : World), w.heap.size ≤ D → Sp pre → Ix pre W → W.heap[D]? = some (.deferred (some [])) → Code.ret.wpIn F n P Q { a with defers := { target := .collected D, args := #[] } :: a.defers } W) :
    (Code.rangeFunc g ps assign body).wpIn F n P Q a w := by
  refine wpIn_rangeFunc fun fn hfn => ?_
  rw [hro]
  obtain ⟨rec, hrec⟩ : ∃ rec : LoopState → Option Code → Loop, rec = fun st pe => { state := st, pending := pe, fn, tmps := a.tmps, params := ps, assign, body, defers := w.heap.size } := ⟨_, rfl⟩
  obtain ⟨Ws, hWs⟩ : ∃ Ws, (w.alloc (.deferred (some []))).alloc (.loop (rec .ready none)) = Ws := ⟨_, rfl⟩
  have hsz : Ws.heap.size = w.heap.size + 2 := by rw [← hWs]; simp
  have hLs : Ws.heap[w.heap.size + 1]? = some (.loop (rec .ready none)) := by
    rw [← hWs]; have := World.alloc_heap_new (w.alloc (.deferred (some []))) (.loop (rec .ready none)); rwa [World.size_alloc] at this
  have hDs : Ws.heap[w.heap.size]? = some (.deferred (some [])) := by
    rw [← hWs]; exact (Below.heap_alloc _ _ _ (by simp)).trans (World.alloc_heap_new w _)
  have hbs : Below w.heap.size w Ws := by rw [← hWs]; exact ((Below.refl _ w).alloc (Nat.le_refl _) _).alloc (by simp) _
  refine ⟨w.heap.size + 1, [{ target := .collected w.heap.size, args := #[] }], Ws, { target := .fn (.func gf) lb, args := #[.func (.yield (w.heap.size + 1)) #[] #[]] }, Ws, gf,
    #[.func (.yield (w.heap.size + 1)) #[] #[]] ++ lb, Ws, ?_, ?_, ?_, ?_, fun _ => h1, ?_⟩
  · rw [← hWs, hrec]; exact run_enterLoop_outer _ _ _ _ _
  · simp only [resolve, hg]; simp [go_sem]
  · intro f' hf'; simp [Target.leads] at hf'; subst hf'; exact hFg
  · simp [invoke, go_sem, eg]
  have book : ∀ {W W' : World} {o o' : Obj}, W.heap[w.heap.size + 1]? = some o → W.heap[w.heap.size]? = some o' → Below Ws.heap.size W W' → W'.heap[w.heap.size + 1]? = some o ∧ W'.heap[w.heap.size]? = some o' :=
    fun h h' hb => ⟨(hb.block _ (by omega)).trans h, (hb.block _ (by omega)).trans h'⟩
  refine (hseq (w.heap.size + 1)
    (fun pre W => I pre W ∧ W.heap[w.heap.size + 1]? = some (.loop (rec .ready none)) ∧ W.heap[w.heap.size]? = some (.deferred (some [])))
    (fun pre W => Ix pre W ∧ W.heap[w.heap.size + 1]? = some (.loop (rec .done (some .ret))) ∧ W.heap[w.heap.size]? = some (.deferred (some [])))
    Ws (hb0.trans (hbs.mono hb0.size)) (fun s A B hs hb => ⟨hI s A B hs.1 (hb.mono (by omega)), book hs.2.1 hs.2.2 hb⟩) (fun s A B hs hb => ⟨hIx s A B hs.1 (hb.mono (by omega)), book hs.2.1 hs.2.2 hb⟩)
    ?_ ⟨hI _ _ _ h0 hbs, hLs, hDs⟩).mono ?_
  · rintro pre x V ⟨hi, hl, hd⟩ hlen
    have hlt : w.heap.size + 1 < V.heap.size := (Array.getElem?_eq_some_iff.1 hl).1
    have hy := run_yield (P := P) (args := encs x) hl (by rw [hrec]; exact hps x)
    rw [hrec] at hy
    refine ⟨fn, _, assign, body, hy, roundIn_of_wpIn hfn (hassign _ pre x V _ (by omega) hi ?_)⟩
    intro a' Va hba hka hia hax
    replace hl := hba.2.trans hl
    replace hd := hba.1.trans hd
    have hlt : w.heap.size + 1 < Va.heap.size := (Array.getElem?_eq_some_iff.1 hl).1
    refine ⟨_, run_beginRound hl (by rw [hrec]), ?_⟩
    obtain ⟨V2, hV2⟩ : ∃ V2, Va.putObj (w.heap.size + 1) (.loop { rec .ready none with state := .busy }) = V2 := ⟨_, rfl⟩
    rw [hV2]
    have hl2 : V2.heap[w.heap.size + 1]? = some (.loop { rec .ready none with state := .busy }) := by rw [← hV2]; exact World.putObj_heap_same hlt
    have hd2 : V2.heap[w.heap.size]? = some (.deferred (some [])) := by rw [← hV2]; exact (World.putObj_heap_other (by omega)).trans hd
    have hi2 : I pre V2 := by rw [← hV2]; exact hI _ _ _ hia (below_putObj _ _ (by omega))
    have hk2 : Kp (w.heap.size + 2) V V2 := by rw [← hV2]; exact hKt hka (hKb _ _ hlt)
    have hs2 : V2.heap.size = Va.heap.size := by rw [← hV2]; simp
    have hx2 : Ax x a' V2 := by rw [← hV2]; exact hAx _ _ _ _ hax
    refine wpIn_mono (hbody _ pre x a' V2 (by omega) hi2 hx2 hlen) ?_
    have fin : ∀ (jump : Option Code) (V3 : World), Booked w.heap.size V2 V3 →
        ∃ V4, (Instr.endRound (w.heap.size + 1) jump).run P V3 = .ok (.bool jump.isNone) V4 ∧ V4 = V3.putObj (w.heap.size + 1) (.loop (rec (if jump.isNone then .ready else .done) jump)) ∧ w.heap.size + 1 < V3.heap.size ∧
          V4.heap[w.heap.size + 1]? = some (.loop (rec (if jump.isNone then .ready else .done) jump)) ∧ V4.heap[w.heap.size]? = some (.deferred (some [])) := by
      intro jump V3 hk
      have hl3 := hk.2.trans hl2
      have h3 : w.heap.size + 1 < V3.heap.size := (Array.getElem?_eq_some_iff.1 hl3).1
      have := run_endRound (P := P) jump hl3
      rw [hrec] at this ⊢
      exact ⟨_, this, rfl, h3, World.putObj_heap_same h3, (World.putObj_heap_other (by omega)).trans (hk.1.trans hd2)⟩
    rintro e a3 V3 hp
    cases e with
    | normal =>
      obtain ⟨hk3, hkp3, hi3⟩ := hp
      obtain ⟨V4, hr, rfl, h3, hl4, hd4⟩ := fin none V3 hk3
      refine ⟨_, _, hr, .inl ⟨rfl, ⟨hI _ _ _ hi3 (below_putObj _ _ (by omega)), hl4, hd4⟩, ?_⟩⟩
      rw [hsz]
      exact hKt hk2 (hKt hkp3 (hKb _ _ h3))
    | ret =>
      obtain ⟨hk3, hi3⟩ := hp
      obtain ⟨V4, hr, rfl, h3, hl4, hd4⟩ := fin (some .ret) V3 hk3
      exact ⟨_, _, hr, .inr ⟨rfl, hIx _ _ _ hi3 (below_putObj _ _ (by omega)), hl4, hd4⟩⟩
    | exit id => exact hp.elim
    | goto t => exact hp.elim
    | panic ch => exact hp.elim
    | outgrown => exact hp.elim
  · rintro e W2 ⟨⟨v, rfl⟩, (⟨xs, hS, hi, hl, hd⟩ | ⟨pre, hSp, hi, hl, hd⟩)⟩
    · exact ⟨none, _, by have := run_endLoop (P := P) hl (by rw [hrec]; simp); rw [hrec] at this; exact this, hdone _ xs _ (Nat.le_refl _) hS (hI _ _ _ hi (below_putObj _ _ (by omega))) ((World.putObj_heap_other (by omega)).trans hd)⟩
    · exact ⟨some .ret, _, by have := run_endLoop (P := P) hl (by rw [hrec]; simp); rw [hrec] at this; exact this, hstop _ pre _ (Nat.le_refl _) hSp (hIx _ _ _ hi (below_putObj _ _ (by omega))) ((World.putObj_heap_other (by omega)).trans hd)⟩
end Go.Proofs
namespace Go
section
variable {F : Fence} {n : Nat} {P : Program} {b : Frame} {a : Act} {k : List Item} {cs : List Frame} {w : World} {Q : Exit → Act → World → Prop}
theorem stepR_scope_ {c : Code} : step P (lone (b.atR a (.code (.scope c) :: k)) cs w) = .next (lone (b.atR a (.code c :: .inScope c :: k)) cs w) := step_lone_go (by simp [stepG, stepG.exec, Frame.atR])
theorem stepR_inScope_ {c : Code} : step P (lone (b.atR a (.inScope c :: k)) cs w) = .next (lone (b.atR a k) cs w) := step_lone_go (by simp [stepG, stepG.exec, Frame.atR])
/-- A scope that no goto leaves, within a fence. -/
theorem wpIn_scope_ {c : Code} (h : c.wpIn F n P (Exit.noGoto Q) a w) : (Code.scope c).wpIn F n P Q a w := by
  intro b k cs hro hb hr
  have h0 : (lone (b.atR a (.code (.scope c) :: k)) cs w).fenced P F := fenced_calm hb hr rfl
  obtain ⟨e, a₁, w₁, hq, harr⟩ := h b (.inScope c :: k) cs hro hb hr
  cases e with
  | normal => exact ⟨.normal, a₁, w₁, hq, .head h0 stepR_scope_ (StepsIn.trans harr (.one (fenced_calm hb hr rfl) stepR_inScope_))⟩
  | exit id =>
    have hx : exitTo id (.inScope c :: k) = exitTo id k := by simp [exitTo]
    exact ⟨_, a₁, w₁, hq, fun k' hk => .head h0 stepR_scope_ (harr.1 k' (by rw [hx]; exact hk)),
      fun hr' hk => let ⟨k₁, g1, g2⟩ := harr.2 hr' (by rw [hx]; exact hk); ⟨k₁, g1, .head h0 stepR_scope_ g2⟩⟩
  | goto l => exact hq.elim
  | ret => exact ⟨_, a₁, w₁, hq, .of_steps (.one h0 stepR_scope_) harr⟩
  | panic ch => exact ⟨_, a₁, w₁, hq, .of_steps (.one h0 stepR_scope_) harr⟩
  | outgrown => exact ⟨_, a₁, w₁, hq, .of_steps (.one h0 stepR_scope_) harr⟩
end
end Go
