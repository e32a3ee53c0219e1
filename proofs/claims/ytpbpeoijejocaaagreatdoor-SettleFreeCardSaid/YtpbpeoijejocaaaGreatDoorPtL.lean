/- A range over a function that is left by a break: the law. -/
import Derived.Test.YtpbpeoijejocaaaGreatDoorScA
import Derived.RangeFuncLeaves
import Derived.RangeFuncCalls
namespace Go.Sc
open Go.RowKit Go.Proofs

/-- What a call of yield answers: it goes on, or the loop has been left. -/
def Goes (J Jx : World → Prop) (e : Ending) (w' : World) : Prop := ∃ b : Bool, e = .returned (.bool b) ∧ (b = true → J w') ∧ (b = false → Jx w')
def Ran (J Jx : Nat → World → Prop) (M : Nat) (e : Ending) (w' : World) : Prop := (∃ v, e = .returned v) ∧ (J (M + 1) w' ∨ ∃ k, k ≤ M ∧ Jx k w')
/-- All blocks that hold cells are as they were, and all below n. -/
structure But (n : Nat) (A B : World) : Prop where
  os : B.os = A.os
  tape : B.tape = A.tape
  output : B.output = A.output
  size : A.heap.size ≤ B.heap.size
  block : ∀ k o, A.heap[k]? = some o → k < n ∨ o.isCells = true → B.heap[k]? = some o
theorem But.of_below {n : Nat} {A B : World} (h : Below A.heap.size A B) : But n A B := ⟨h.os, h.tape, h.output, h.size, fun k _ hk _ => (h.block k (Array.getElem?_eq_some_iff.1 hk).1).trans hk⟩
theorem But.putObj {n l : Nat} {A : World} {o : Obj} (o' : Obj) (hl : A.heap[l]? = some o) (ho : o.isCells = false) (hn : n ≤ l) : But n A (A.putObj l o') :=
  ⟨rfl, rfl, rfl, by simp, fun k x hk hx => by
    by_cases e : k = l
    · subst e
      rw [hl] at hk
      cases hk
      rcases hx with hx | hx
      · omega
      · rw [ho] at hx; cases hx
    · exact (World.putObj_heap_other e).trans hk⟩
theorem But.trans {n : Nat} {A B C : World} (h : But n A B) (k : But n B C) : But n A C :=
  ⟨k.os.trans h.os, k.tape.trans h.tape, k.output.trans h.output, Nat.le_trans h.size k.size, fun i o hi ho => k.block i o (h.block i o hi ho) ho⟩
theorem But.cell {n : Nat} {A B : World} (h : But n A B) {p : Addr} {v : Value} (hc : A.cell? p = some v) : B.cell? p = some v := by
  obtain ⟨o, ho, hx⟩ := cells_of_cell hc
  exact (World.cell?_of_block (w := A) ((h.block _ o ho (.inr hx)).trans ho.symm)).trans hc
theorem But.frozen {n : Nat} {A B : World} (h : But n A B) {p : Addr} {v : Value} (hc : A.cell? p = some v) : B.frozen? p = A.frozen? p := by
  obtain ⟨o, ho, hx⟩ := cells_of_cell hc
  exact World.frozen?_of_block (w := A) ((h.block _ o ho (.inr hx)).trans ho.symm)
theorem But.below {n m : Nat} {w A B : World} (h : But n A B) (hw : Below m w A) (hm : m ≤ A.heap.size) (hn : m ≤ n) : Below m w B :=
  hw.trans ⟨h.os, h.tape, h.output, h.size, fun k hk => by
    have hlt : k < A.heap.size := by omega
    rw [h.block k _ (Array.getElem?_eq_getElem hlt) (.inl (by omega)), Array.getElem?_eq_getElem hlt]⟩
theorem But.rangeAt {n : Nat} {A B : World} (h : But n A B) {b o : Nat} {cs : List Value} (hc : A.rangeAt b o cs) : B.rangeAt b o cs := fun j v hj =>
  h.cell (p := ⟨b, o + j, none⟩) (hc j v hj)
theorem RowAt.but {n : Nat} {α : Type} {size : Nat} {cells : α → List Value} {w w' : World} {o : Option Addr} {l : List α} (h : RowAt size cells w o l) (hb : But n w w') : RowAt size cells w' o l := fun k x hk => by
  obtain ⟨b, off, h1, h2, h3⟩ := h k x hk
  exact ⟨b, off, h1, Nat.lt_of_lt_of_le h2 hb.size, hb.rangeAt h3⟩

/-- The end of a round's body. -/
def bodyEnd (d l : Nat) (I Ix : World → Prop) (A : World) : Exit → Act → World → Prop
  | .normal, _, B => (B.heap[l]? = A.heap[l]? ∧ B.heap[d]? = A.heap[d]?) ∧ I B
  | .ret, _, B => (B.heap[l]? = A.heap[l]? ∧ B.heap[d]? = A.heap[d]?) ∧ Ix B
  | _, _, _ => False

theorem wpIn_range {P : Program} {g : Operand} {ps : Array Tmp} {assign body : Code} {Q : Exit → Act → World → Prop} {a : Act} {w : World} {α : Type}
    {gf : Nat} {lb : Array Value} (hg : a.eval g = .func (.func gf) #[] lb) (eg : ∀ args w, (callFunc gf args).run P w = .ok (.enter gf args) w)
    (d l : Nat) (hd : d = w.heap.size) (hl : l = w.heap.size + 1)
    (encs : α → Array Value) (hps : ∀ x, (encs x).size = ps.size) (Lies : Nat → α → World → Prop) (M : Nat)
    (I Ix : Nat → World → Prop) (hI : ∀ k A B, I k A → But w.heap.size A B → I k B) (hIx : ∀ k A B, Ix k A → But w.heap.size A B → Ix k B) (h0 : I 0 w)
    (iter : ∀ (J Jx : Nat → World → Prop) (W : World), (∀ k A B, J k A → Below A.heap.size A B → J k B) → (∀ k A, J k A → I k A) →
      (∀ k A x, k ≤ M → J k A → Lies k x A → YieldAt Fence.wide 0 P l (encs x) A (Goes (J (k + 1)) (Jx k))) → J 0 W →
      CallsIn Fence.wide 0 P gf (#[.func (.yield l) #[] #[]] ++ lb) W (Ran J Jx M))
    (Mid : Nat → α → Act → World → Prop) (hMid : ∀ k x a₁ A B, Mid k x a₁ A → But w.heap.size A B → Mid k x a₁ B)
    (hassign : ∀ k x A (K : Act → World → Prop), I k A → Lies k x A → (∀ a₁ A₂, Mid k x a₁ A₂ → Below A.heap.size A A₂ → K a₁ A₂) →
      assign.wpIn (Fence.wide.inRound l) 0 P (Exit.then K (fun _ _ _ => False)) { tmps := (ps.zip (encs x)).foldl (fun t (p, v) => t.setIfInBounds p v) a.tmps, defers := [] } A)
    (hbody : ∀ k x a₁ A, k ≤ M → l < A.heap.size → I k A → Mid k x a₁ A → body.wpIn (Fence.wide.inRound l) 0 P (bodyEnd d l (I (k + 1)) (Ix k) A) a₁ A)
    (hdone : ∀ A, I (M + 1) A → A.heap[d]? = some (.deferred (some [])) → Q .normal { a with defers := { target := .collected d, args := #[] } :: a.defers } A)
    (hstop : ∀ k A, k ≤ M → Ix k A → A.heap[d]? = some (.deferred (some [])) → Code.ret.wpIn Fence.wide 0 P Q { a with defers := { target := .collected d, args := #[] } :: a.defers } A) :
    (Code.rangeFunc g ps assign body).wpIn Fence.wide 0 P Q a w := by
  subst hd
  subst hl
  refine wpIn_rangeFunc ?_
  intro fn hfn
  obtain ⟨rec, hrec⟩ : ∃ rec : LoopState → Option Code → Loop, rec = fun st pe => { state := st, pending := pe, fn, tmps := a.tmps, params := ps, assign, body, defers := w.heap.size } := ⟨_, rfl⟩
  have hsz : (w.alloc (.deferred (some []))).heap.size = w.heap.size + 1 := by simp
  have e1 : ((w.alloc (.deferred (some []))).alloc (.loop (rec .ready none))).heap[w.heap.size + 1]? = some (.loop (rec .ready none)) := by
    have := World.alloc_heap_new (w.alloc (.deferred (some []))) (.loop (rec .ready none)); rwa [hsz] at this
  have e2 : ((w.alloc (.deferred (some []))).alloc (.loop (rec .ready none))).heap[w.heap.size]? = some (.deferred (some [])) :=
    (Below.heap_alloc _ _ _ (by rw [hsz]; omega)).trans (World.alloc_heap_new w _)
  have e3 : Below w.heap.size w ((w.alloc (.deferred (some []))).alloc (.loop (rec .ready none))) := ((Below.refl _ w).alloc (Nat.le_refl _) _).alloc (by rw [hsz]; omega) _
  have e4 : (Instr.enterLoop fn a.tmps ps assign body Fence.wide.round).run P w = .ok (w.heap.size + 1, [{ target := .collected w.heap.size, args := #[] }]) ((w.alloc (.deferred (some []))).alloc (.loop (rec .ready none))) := by
    rw [hrec]; exact run_enterLoop_outer _ _ _ _ _
  generalize (w.alloc (.deferred (some []))).alloc (.loop (rec .ready none)) = W1 at e1 e2 e3 e4
  refine ⟨w.heap.size + 1, [{ target := .collected w.heap.size, args := #[] }], W1, { target := .fn (.func gf) lb, args := #[.func (.yield (w.heap.size + 1)) #[] #[]] }, W1, gf,
    #[.func (.yield (w.heap.size + 1)) #[] #[]] ++ lb, W1, e4, ?_, fun _ _ => trivial, ?_, fun h => by simp [Fence.wide] at h, ?_⟩
  · simp only [resolve, hg]
    simp [go_sem]
  · simp [invoke, go_sem, eg]
  have key := iter (fun k A => I k A ∧ A.heap[w.heap.size + 1]? = some (.loop (rec .ready none)) ∧ A.heap[w.heap.size]? = some (.deferred (some [])))
    (fun k A => Ix k A ∧ A.heap[w.heap.size + 1]? = some (.loop (rec .done (some .ret))) ∧ A.heap[w.heap.size]? = some (.deferred (some []))) W1
    (fun k A B h hb => ⟨hI k A B h.1 (But.of_below hb), (hb.block _ (Array.getElem?_eq_some_iff.1 h.2.1).1).trans h.2.1, (hb.block _ (Array.getElem?_eq_some_iff.1 h.2.2).1).trans h.2.2⟩)
    (fun k A h => h.1) ?_ ⟨hI 0 w W1 h0 (But.of_below e3), e1, e2⟩
  · refine key.mono ?_
    rintro e B ⟨⟨v, rfl⟩, ⟨hi, hl, hk⟩ | ⟨k, hkM, hi, hl, hk⟩⟩
    · refine ⟨none, _, (run_endLoop (P := P) hl (by rw [hrec]; simp)).trans (by rw [hrec]), hdone _ (hI _ _ _ hi (But.putObj _ hl rfl (by omega))) ((World.putObj_heap_other (by omega)).trans hk)⟩
    · refine ⟨some .ret, _, (run_endLoop (P := P) hl (by rw [hrec]; simp)).trans (by rw [hrec]), hstop k _ hkM (hIx _ _ _ hi (But.putObj _ hl rfl (by omega))) ((World.putObj_heap_other (by omega)).trans hk)⟩
  · rintro k A x hkM ⟨hi, hl, hk⟩ hx
    have hy := run_yield (P := P) (args := encs x) hl (by rw [hrec]; exact hps x)
    rw [hrec] at hy
    refine ⟨fn, _, assign, body, hy, roundIn_of_wpIn hfn (hassign k x A _ hi hx fun a₁ A₂ hm hb => ?_)⟩
    have hl2 : A₂.heap[w.heap.size + 1]? = some (.loop (rec .ready none)) := (hb.block _ (Array.getElem?_eq_some_iff.1 hl).1).trans hl
    have hk2 : A₂.heap[w.heap.size]? = some (.deferred (some [])) := (hb.block _ (Array.getElem?_eq_some_iff.1 hk).1).trans hk
    have hi2 := hI k A A₂ hi (But.of_below hb)
    refine ⟨_, run_beginRound hl2 (by rw [hrec]), ?_⟩
    have hl3 : (A₂.putObj (w.heap.size + 1) (.loop { rec .ready none with state := .busy })).heap[w.heap.size + 1]? = some (.loop { rec .ready none with state := .busy }) := World.putObj_heap_same (Array.getElem?_eq_some_iff.1 hl2).1
    have hk3 : (A₂.putObj (w.heap.size + 1) (.loop { rec .ready none with state := .busy })).heap[w.heap.size]? = some (.deferred (some [])) := (World.putObj_heap_other (by omega)).trans hk2
    refine wpIn_mono (hbody k x a₁ _ hkM (Array.getElem?_eq_some_iff.1 hl3).1 (hI k A₂ _ hi2 (But.putObj _ hl2 rfl (by omega))) (hMid k x a₁ A₂ _ hm (But.putObj _ hl2 rfl (by omega)))) ?_
    have fin : ∀ (jump : Option Code) (B : World), B.heap[w.heap.size + 1]? = some (.loop { rec .ready none with state := .busy }) → B.heap[w.heap.size]? = some (.deferred (some [])) →
        (Instr.endRound (w.heap.size + 1) jump).run P B = .ok (.bool jump.isNone) (B.putObj (w.heap.size + 1) (.loop (rec (if jump.isNone then .ready else .done) jump))) ∧
        (B.putObj (w.heap.size + 1) (.loop (rec (if jump.isNone then .ready else .done) jump))).heap[w.heap.size + 1]? = some (.loop (rec (if jump.isNone then .ready else .done) jump)) ∧
        (B.putObj (w.heap.size + 1) (.loop (rec (if jump.isNone then .ready else .done) jump))).heap[w.heap.size]? = some (.deferred (some [])) := fun jump B hb1 hb2 => by
      have := run_endRound (P := P) jump hb1
      refine ⟨?_, World.putObj_heap_same (Array.getElem?_eq_some_iff.1 hb1).1, (World.putObj_heap_other (by omega)).trans hb2⟩
      rw [hrec] at this ⊢
      exact this
    rintro e a3 B hp
    cases e with
    | normal =>
      obtain ⟨⟨hb1, hb2⟩, hi3⟩ := hp
      obtain ⟨hr, h4, h5⟩ := fin none B (hb1.trans hl3) (hb2.trans hk3)
      exact ⟨_, _, hr, true, rfl, fun _ => ⟨hI _ _ _ hi3 (But.putObj _ (hb1.trans hl3) rfl (by omega)), h4, h5⟩, fun h => by cases h⟩
    | ret =>
      obtain ⟨⟨hb1, hb2⟩, hi3⟩ := hp
      obtain ⟨hr, h4, h5⟩ := fin (some .ret) B (hb1.trans hl3) (hb2.trans hk3)
      exact ⟨_, _, hr, false, rfl, (fun h => by cases h), fun _ => ⟨hIx _ _ _ hi3 (But.putObj _ (hb1.trans hl3) rfl (by omega)), h4, h5⟩⟩
    | exit id => exact hp.elim
    | goto t => exact hp.elim
    | panic ch => exact hp.elim
    | outgrown => exact hp.elim
end Go.Sc

namespace Go.Sc
open Go.RowKit Go.Proofs

/-- The end of a round's body that may leave the loop by an exit. -/
def bodyEndX (id d l : Nat) (I Ix : World → Prop) (A : World) : Exit → Act → World → Prop
  | .normal, _, B => (B.heap[l]? = A.heap[l]? ∧ B.heap[d]? = A.heap[d]?) ∧ I B
  | .exit j, _, B => j = id ∧ (B.heap[l]? = A.heap[l]? ∧ B.heap[d]? = A.heap[d]?) ∧ Ix B
  | _, _, _ => False

theorem wpIn_rangeX (id : Nat) {P : Program} {g : Operand} {ps : Array Tmp} {assign body : Code} {Q : Exit → Act → World → Prop} {a : Act} {w : World} {α : Type}
    {gf : Nat} {lb : Array Value} (hg : a.eval g = .func (.func gf) #[] lb) (eg : ∀ args w, (callFunc gf args).run P w = .ok (.enter gf args) w)
    (d l : Nat) (hd : d = w.heap.size) (hl : l = w.heap.size + 1)
    (encs : α → Array Value) (hps : ∀ x, (encs x).size = ps.size) (Lies : Nat → α → World → Prop) (M : Nat)
    (I Ix : Nat → World → Prop) (hI : ∀ k A B, I k A → But w.heap.size A B → I k B) (hIx : ∀ k A B, Ix k A → But w.heap.size A B → Ix k B) (h0 : I 0 w)
    (iter : ∀ (J Jx : Nat → World → Prop) (W : World), (∀ k A B, J k A → Below A.heap.size A B → J k B) → (∀ k A, J k A → I k A) →
      (∀ k A x, k ≤ M → J k A → Lies k x A → YieldAt Fence.wide 0 P l (encs x) A (Goes (J (k + 1)) (Jx k))) → J 0 W →
      CallsIn Fence.wide 0 P gf (#[.func (.yield l) #[] #[]] ++ lb) W (Ran J Jx M))
    (Mid : Nat → α → Act → World → Prop) (hMid : ∀ k x a₁ A B, Mid k x a₁ A → But w.heap.size A B → Mid k x a₁ B)
    (hassign : ∀ k x A (K : Act → World → Prop), I k A → Lies k x A → (∀ a₁ A₂, Mid k x a₁ A₂ → Below A.heap.size A A₂ → K a₁ A₂) →
      assign.wpIn (Fence.wide.inRound l) 0 P (Exit.then K (fun _ _ _ => False)) { tmps := (ps.zip (encs x)).foldl (fun t (p, v) => t.setIfInBounds p v) a.tmps, defers := [] } A)
    (hbody : ∀ k x a₁ A, k ≤ M → l < A.heap.size → I k A → Mid k x a₁ A → body.wpIn (Fence.wide.inRound l) 0 P (bodyEndX id d l (I (k + 1)) (Ix k) A) a₁ A)
    (hdone : ∀ A, I (M + 1) A → A.heap[d]? = some (.deferred (some [])) → Q .normal { a with defers := { target := .collected d, args := #[] } :: a.defers } A)
    (hstop : ∀ k A, k ≤ M → Ix k A → A.heap[d]? = some (.deferred (some [])) → (Code.exit id).wpIn Fence.wide 0 P Q { a with defers := { target := .collected d, args := #[] } :: a.defers } A) :
    (Code.rangeFunc g ps assign body).wpIn Fence.wide 0 P Q a w := by
  subst hd
  subst hl
  refine wpIn_rangeFunc ?_
  intro fn hfn
  obtain ⟨rec, hrec⟩ : ∃ rec : LoopState → Option Code → Loop, rec = fun st pe => { state := st, pending := pe, fn, tmps := a.tmps, params := ps, assign, body, defers := w.heap.size } := ⟨_, rfl⟩
  have hsz : (w.alloc (.deferred (some []))).heap.size = w.heap.size + 1 := by simp
  have e1 : ((w.alloc (.deferred (some []))).alloc (.loop (rec .ready none))).heap[w.heap.size + 1]? = some (.loop (rec .ready none)) := by
    have := World.alloc_heap_new (w.alloc (.deferred (some []))) (.loop (rec .ready none)); rwa [hsz] at this
  have e2 : ((w.alloc (.deferred (some []))).alloc (.loop (rec .ready none))).heap[w.heap.size]? = some (.deferred (some [])) :=
    (Below.heap_alloc _ _ _ (by rw [hsz]; omega)).trans (World.alloc_heap_new w _)
  have e3 : Below w.heap.size w ((w.alloc (.deferred (some []))).alloc (.loop (rec .ready none))) := ((Below.refl _ w).alloc (Nat.le_refl _) _).alloc (by rw [hsz]; omega) _
  have e4 : (Instr.enterLoop fn a.tmps ps assign body Fence.wide.round).run P w = .ok (w.heap.size + 1, [{ target := .collected w.heap.size, args := #[] }]) ((w.alloc (.deferred (some []))).alloc (.loop (rec .ready none))) := by
    rw [hrec]; exact run_enterLoop_outer _ _ _ _ _
  generalize (w.alloc (.deferred (some []))).alloc (.loop (rec .ready none)) = W1 at e1 e2 e3 e4
  refine ⟨w.heap.size + 1, [{ target := .collected w.heap.size, args := #[] }], W1, { target := .fn (.func gf) lb, args := #[.func (.yield (w.heap.size + 1)) #[] #[]] }, W1, gf,
    #[.func (.yield (w.heap.size + 1)) #[] #[]] ++ lb, W1, e4, ?_, fun _ _ => trivial, ?_, fun h => by simp [Fence.wide] at h, ?_⟩
  · simp only [resolve, hg]
    simp [go_sem]
  · simp [invoke, go_sem, eg]
  have key := iter (fun k A => I k A ∧ A.heap[w.heap.size + 1]? = some (.loop (rec .ready none)) ∧ A.heap[w.heap.size]? = some (.deferred (some [])))
    (fun k A => Ix k A ∧ A.heap[w.heap.size + 1]? = some (.loop (rec .done (some (.exit id)))) ∧ A.heap[w.heap.size]? = some (.deferred (some []))) W1
    (fun k A B h hb => ⟨hI k A B h.1 (But.of_below hb), (hb.block _ (Array.getElem?_eq_some_iff.1 h.2.1).1).trans h.2.1, (hb.block _ (Array.getElem?_eq_some_iff.1 h.2.2).1).trans h.2.2⟩)
    (fun k A h => h.1) ?_ ⟨hI 0 w W1 h0 (But.of_below e3), e1, e2⟩
  · refine key.mono ?_
    rintro e B ⟨⟨v, rfl⟩, ⟨hi, hl, hk⟩ | ⟨k, hkM, hi, hl, hk⟩⟩
    · refine ⟨none, _, (run_endLoop (P := P) hl (by rw [hrec]; simp)).trans (by rw [hrec]), hdone _ (hI _ _ _ hi (But.putObj _ hl rfl (by omega))) ((World.putObj_heap_other (by omega)).trans hk)⟩
    · refine ⟨some (.exit id), _, (run_endLoop (P := P) hl (by rw [hrec]; simp)).trans (by rw [hrec]), hstop k _ hkM (hIx _ _ _ hi (But.putObj _ hl rfl (by omega))) ((World.putObj_heap_other (by omega)).trans hk)⟩
  · rintro k A x hkM ⟨hi, hl, hk⟩ hx
    have hy := run_yield (P := P) (args := encs x) hl (by rw [hrec]; exact hps x)
    rw [hrec] at hy
    refine ⟨fn, _, assign, body, hy, roundIn_of_wpIn hfn (hassign k x A _ hi hx fun a₁ A₂ hm hb => ?_)⟩
    have hl2 : A₂.heap[w.heap.size + 1]? = some (.loop (rec .ready none)) := (hb.block _ (Array.getElem?_eq_some_iff.1 hl).1).trans hl
    have hk2 : A₂.heap[w.heap.size]? = some (.deferred (some [])) := (hb.block _ (Array.getElem?_eq_some_iff.1 hk).1).trans hk
    have hi2 := hI k A A₂ hi (But.of_below hb)
    refine ⟨_, run_beginRound hl2 (by rw [hrec]), ?_⟩
    have hl3 : (A₂.putObj (w.heap.size + 1) (.loop { rec .ready none with state := .busy })).heap[w.heap.size + 1]? = some (.loop { rec .ready none with state := .busy }) := World.putObj_heap_same (Array.getElem?_eq_some_iff.1 hl2).1
    have hk3 : (A₂.putObj (w.heap.size + 1) (.loop { rec .ready none with state := .busy })).heap[w.heap.size]? = some (.deferred (some [])) := (World.putObj_heap_other (by omega)).trans hk2
    refine wpIn_mono (hbody k x a₁ _ hkM (Array.getElem?_eq_some_iff.1 hl3).1 (hI k A₂ _ hi2 (But.putObj _ hl2 rfl (by omega))) (hMid k x a₁ A₂ _ hm (But.putObj _ hl2 rfl (by omega)))) ?_
    have fin : ∀ (jump : Option Code) (B : World), B.heap[w.heap.size + 1]? = some (.loop { rec .ready none with state := .busy }) → B.heap[w.heap.size]? = some (.deferred (some [])) →
        (Instr.endRound (w.heap.size + 1) jump).run P B = .ok (.bool jump.isNone) (B.putObj (w.heap.size + 1) (.loop (rec (if jump.isNone then .ready else .done) jump))) ∧
        (B.putObj (w.heap.size + 1) (.loop (rec (if jump.isNone then .ready else .done) jump))).heap[w.heap.size + 1]? = some (.loop (rec (if jump.isNone then .ready else .done) jump)) ∧
        (B.putObj (w.heap.size + 1) (.loop (rec (if jump.isNone then .ready else .done) jump))).heap[w.heap.size]? = some (.deferred (some [])) := fun jump B hb1 hb2 => by
      have := run_endRound (P := P) jump hb1
      refine ⟨?_, World.putObj_heap_same (Array.getElem?_eq_some_iff.1 hb1).1, (World.putObj_heap_other (by omega)).trans hb2⟩
      rw [hrec] at this ⊢
      exact this
    rintro e a3 B hp
    cases e with
    | normal =>
      obtain ⟨⟨hb1, hb2⟩, hi3⟩ := hp
      obtain ⟨hr, h4, h5⟩ := fin none B (hb1.trans hl3) (hb2.trans hk3)
      exact ⟨_, _, hr, true, rfl, fun _ => ⟨hI _ _ _ hi3 (But.putObj _ (hb1.trans hl3) rfl (by omega)), h4, h5⟩, fun h => by cases h⟩
    | exit j =>
      obtain ⟨rfl, ⟨hb1, hb2⟩, hi3⟩ := hp
      obtain ⟨hr, h4, h5⟩ := fin (some (.exit j)) B (hb1.trans hl3) (hb2.trans hk3)
      exact ⟨_, _, hr, false, rfl, (fun h => by cases h), fun _ => ⟨hIx _ _ _ hi3 (But.putObj _ (hb1.trans hl3) rfl (by omega)), h4, h5⟩⟩
    | ret => exact hp.elim
    | goto t => exact hp.elim
    | panic ch => exact hp.elim
    | outgrown => exact hp.elim
/-- The same for an iterator that keeps its place in a box (nb): behind each round it stores the next one. -/
theorem wpIn_rangeN (id : Nat) {P : Program} {g : Operand} {ps : Array Tmp} {assign body : Code} {Q : Exit → Act → World → Prop} {a : Act} {w : World} {α : Type}
    {gf : Nat} {lb : Array Value} (hg : a.eval g = .func (.func gf) #[] lb) (eg : ∀ args w, (callFunc gf args).run P w = .ok (.enter gf args) w)
    (d l : Nat) (hd : d = w.heap.size) (hl : l = w.heap.size + 1)
    (encs : α → Array Value) (hps : ∀ x, (encs x).size = ps.size) (Lies : Nat → α → World → Prop) (M : Nat)
    (I I' Ix : Nat → World → Prop) (hI : ∀ k A B, I k A → But w.heap.size A B → I k B) (hI' : ∀ k A B, I' k A → But w.heap.size A B → I' k B) (nb : Nat) (nd : Nat → Value) (hnb : nb < w.heap.size) (hSet : ∀ k A, k ≤ M → I' k A → I (k + 1) (A.setCell ⟨nb, 0, none⟩ (nd (k + 1)))) (hIx : ∀ k A B, Ix k A → But w.heap.size A B → Ix k B) (h0 : I 0 w)
    (iter : ∀ (J J' Jx : Nat → World → Prop) (W : World), (∀ k A B, J k A → Below A.heap.size A B → J k B) → (∀ k A B, J' k A → Below A.heap.size A B → J' k B) → (∀ k A, J k A → I k A) → (∀ k A, J' k A → I' k A) → (∀ k A, k ≤ M → J' k A → J (k + 1) (A.setCell ⟨nb, 0, none⟩ (nd (k + 1)))) →
      (∀ k A x, k ≤ M → J k A → Lies k x A → YieldAt Fence.wide 0 P l (encs x) A (Goes (J' k) (Jx k))) → J 0 W →
      CallsIn Fence.wide 0 P gf (#[.func (.yield l) #[] #[]] ++ lb) W (Ran J Jx M))
    (Mid : Nat → α → Act → World → Prop) (hMid : ∀ k x a₁ A B, Mid k x a₁ A → But w.heap.size A B → Mid k x a₁ B)
    (hassign : ∀ k x A (K : Act → World → Prop), I k A → Lies k x A → (∀ a₁ A₂, Mid k x a₁ A₂ → Below A.heap.size A A₂ → K a₁ A₂) →
      assign.wpIn (Fence.wide.inRound l) 0 P (Exit.then K (fun _ _ _ => False)) { tmps := (ps.zip (encs x)).foldl (fun t (p, v) => t.setIfInBounds p v) a.tmps, defers := [] } A)
    (hbody : ∀ k x a₁ A, k ≤ M → l < A.heap.size → I k A → Mid k x a₁ A → body.wpIn (Fence.wide.inRound l) 0 P (bodyEndX id d l (I' k) (Ix k) A) a₁ A)
    (hdone : ∀ A, I (M + 1) A → A.heap[d]? = some (.deferred (some [])) → Q .normal { a with defers := { target := .collected d, args := #[] } :: a.defers } A)
    (hstop : ∀ k A, k ≤ M → Ix k A → A.heap[d]? = some (.deferred (some [])) → (Code.exit id).wpIn Fence.wide 0 P Q { a with defers := { target := .collected d, args := #[] } :: a.defers } A) :
    (Code.rangeFunc g ps assign body).wpIn Fence.wide 0 P Q a w := by
  subst hd
  subst hl
  refine wpIn_rangeFunc ?_
  intro fn hfn
  obtain ⟨rec, hrec⟩ : ∃ rec : LoopState → Option Code → Loop, rec = fun st pe => { state := st, pending := pe, fn, tmps := a.tmps, params := ps, assign, body, defers := w.heap.size } := ⟨_, rfl⟩
  have hsz : (w.alloc (.deferred (some []))).heap.size = w.heap.size + 1 := by simp
  have e1 : ((w.alloc (.deferred (some []))).alloc (.loop (rec .ready none))).heap[w.heap.size + 1]? = some (.loop (rec .ready none)) := by
    have := World.alloc_heap_new (w.alloc (.deferred (some []))) (.loop (rec .ready none)); rwa [hsz] at this
  have e2 : ((w.alloc (.deferred (some []))).alloc (.loop (rec .ready none))).heap[w.heap.size]? = some (.deferred (some [])) :=
    (Below.heap_alloc _ _ _ (by rw [hsz]; omega)).trans (World.alloc_heap_new w _)
  have e3 : Below w.heap.size w ((w.alloc (.deferred (some []))).alloc (.loop (rec .ready none))) := ((Below.refl _ w).alloc (Nat.le_refl _) _).alloc (by rw [hsz]; omega) _
  have e4 : (Instr.enterLoop fn a.tmps ps assign body Fence.wide.round).run P w = .ok (w.heap.size + 1, [{ target := .collected w.heap.size, args := #[] }]) ((w.alloc (.deferred (some []))).alloc (.loop (rec .ready none))) := by
    rw [hrec]; exact run_enterLoop_outer _ _ _ _ _
  generalize (w.alloc (.deferred (some []))).alloc (.loop (rec .ready none)) = W1 at e1 e2 e3 e4
  refine ⟨w.heap.size + 1, [{ target := .collected w.heap.size, args := #[] }], W1, { target := .fn (.func gf) lb, args := #[.func (.yield (w.heap.size + 1)) #[] #[]] }, W1, gf,
    #[.func (.yield (w.heap.size + 1)) #[] #[]] ++ lb, W1, e4, ?_, fun _ _ => trivial, ?_, fun h => by simp [Fence.wide] at h, ?_⟩
  · simp only [resolve, hg]
    simp [go_sem]
  · simp [invoke, go_sem, eg]
  have key := iter (fun k A => I k A ∧ A.heap[w.heap.size + 1]? = some (.loop (rec .ready none)) ∧ A.heap[w.heap.size]? = some (.deferred (some [])))
    (fun k A => I' k A ∧ A.heap[w.heap.size + 1]? = some (.loop (rec .ready none)) ∧ A.heap[w.heap.size]? = some (.deferred (some [])))
    (fun k A => Ix k A ∧ A.heap[w.heap.size + 1]? = some (.loop (rec .done (some (.exit id)))) ∧ A.heap[w.heap.size]? = some (.deferred (some []))) W1
    (fun k A B h hb => ⟨hI k A B h.1 (But.of_below hb), (hb.block _ (Array.getElem?_eq_some_iff.1 h.2.1).1).trans h.2.1, (hb.block _ (Array.getElem?_eq_some_iff.1 h.2.2).1).trans h.2.2⟩)
    (fun k A B h hb => ⟨hI' k A B h.1 (But.of_below hb), (hb.block _ (Array.getElem?_eq_some_iff.1 h.2.1).1).trans h.2.1, (hb.block _ (Array.getElem?_eq_some_iff.1 h.2.2).1).trans h.2.2⟩)
    (fun k A h => h.1) (fun k A h => h.1) (fun k A hk h => ⟨hSet k A hk h.1, (RowKit.Below.heap_setCell _ _ _ _ (by show w.heap.size + 1 ≠ nb; omega)).trans h.2.1, (RowKit.Below.heap_setCell _ _ _ _ (by show w.heap.size ≠ nb; omega)).trans h.2.2⟩) ?_ ⟨hI 0 w W1 h0 (But.of_below e3), e1, e2⟩
  · refine key.mono ?_
    rintro e B ⟨⟨v, rfl⟩, ⟨hi, hl, hk⟩ | ⟨k, hkM, hi, hl, hk⟩⟩
    · refine ⟨none, _, (run_endLoop (P := P) hl (by rw [hrec]; simp)).trans (by rw [hrec]), hdone _ (hI _ _ _ hi (But.putObj _ hl rfl (by omega))) ((World.putObj_heap_other (by omega)).trans hk)⟩
    · refine ⟨some (.exit id), _, (run_endLoop (P := P) hl (by rw [hrec]; simp)).trans (by rw [hrec]), hstop k _ hkM (hIx _ _ _ hi (But.putObj _ hl rfl (by omega))) ((World.putObj_heap_other (by omega)).trans hk)⟩
  · rintro k A x hkM ⟨hi, hl, hk⟩ hx
    have hy := run_yield (P := P) (args := encs x) hl (by rw [hrec]; exact hps x)
    rw [hrec] at hy
    refine ⟨fn, _, assign, body, hy, roundIn_of_wpIn hfn (hassign k x A _ hi hx fun a₁ A₂ hm hb => ?_)⟩
    have hl2 : A₂.heap[w.heap.size + 1]? = some (.loop (rec .ready none)) := (hb.block _ (Array.getElem?_eq_some_iff.1 hl).1).trans hl
    have hk2 : A₂.heap[w.heap.size]? = some (.deferred (some [])) := (hb.block _ (Array.getElem?_eq_some_iff.1 hk).1).trans hk
    have hi2 := hI k A A₂ hi (But.of_below hb)
    refine ⟨_, run_beginRound hl2 (by rw [hrec]), ?_⟩
    have hl3 : (A₂.putObj (w.heap.size + 1) (.loop { rec .ready none with state := .busy })).heap[w.heap.size + 1]? = some (.loop { rec .ready none with state := .busy }) := World.putObj_heap_same (Array.getElem?_eq_some_iff.1 hl2).1
    have hk3 : (A₂.putObj (w.heap.size + 1) (.loop { rec .ready none with state := .busy })).heap[w.heap.size]? = some (.deferred (some [])) := (World.putObj_heap_other (by omega)).trans hk2
    refine wpIn_mono (hbody k x a₁ _ hkM (Array.getElem?_eq_some_iff.1 hl3).1 (hI k A₂ _ hi2 (But.putObj _ hl2 rfl (by omega))) (hMid k x a₁ A₂ _ hm (But.putObj _ hl2 rfl (by omega)))) ?_
    have fin : ∀ (jump : Option Code) (B : World), B.heap[w.heap.size + 1]? = some (.loop { rec .ready none with state := .busy }) → B.heap[w.heap.size]? = some (.deferred (some [])) →
        (Instr.endRound (w.heap.size + 1) jump).run P B = .ok (.bool jump.isNone) (B.putObj (w.heap.size + 1) (.loop (rec (if jump.isNone then .ready else .done) jump))) ∧
        (B.putObj (w.heap.size + 1) (.loop (rec (if jump.isNone then .ready else .done) jump))).heap[w.heap.size + 1]? = some (.loop (rec (if jump.isNone then .ready else .done) jump)) ∧
        (B.putObj (w.heap.size + 1) (.loop (rec (if jump.isNone then .ready else .done) jump))).heap[w.heap.size]? = some (.deferred (some [])) := fun jump B hb1 hb2 => by
      have := run_endRound (P := P) jump hb1
      refine ⟨?_, World.putObj_heap_same (Array.getElem?_eq_some_iff.1 hb1).1, (World.putObj_heap_other (by omega)).trans hb2⟩
      rw [hrec] at this ⊢
      exact this
    rintro e a3 B hp
    cases e with
    | normal =>
      obtain ⟨⟨hb1, hb2⟩, hi3⟩ := hp
      obtain ⟨hr, h4, h5⟩ := fin none B (hb1.trans hl3) (hb2.trans hk3)
      exact ⟨_, _, hr, true, rfl, fun _ => ⟨hI' _ _ _ hi3 (But.putObj _ (hb1.trans hl3) rfl (by omega)), h4, h5⟩, fun h => by cases h⟩
    | exit j =>
      obtain ⟨rfl, ⟨hb1, hb2⟩, hi3⟩ := hp
      obtain ⟨hr, h4, h5⟩ := fin (some (.exit j)) B (hb1.trans hl3) (hb2.trans hk3)
      exact ⟨_, _, hr, false, rfl, (fun h => by cases h), fun _ => ⟨hIx _ _ _ hi3 (But.putObj _ (hb1.trans hl3) rfl (by omega)), h4, h5⟩⟩
    | ret => exact hp.elim
    | goto t => exact hp.elim
    | panic ch => exact hp.elim
    | outgrown => exact hp.elim
end Go.Sc
