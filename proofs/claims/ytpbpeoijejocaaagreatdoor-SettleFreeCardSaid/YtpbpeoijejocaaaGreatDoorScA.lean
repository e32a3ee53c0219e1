/- score.bounded: all six exponents from -m to m. -/
import Derived.Test.YtpbpeoijejocaaaGreatDoorProg
import Derived.WalkKit
import Derived.Below
import Derived.Lib.Hide
import Derived.Deep.MidRow
import Derived.StillTailTactics
namespace Go.Sc
open Go.RowKit Go.Proofs

def okE (m x : Int) : Prop := -m ≤ x ∧ x ≤ m
def okV (m : Int) (x0 x1 x2 x3 x4 x5 : Int) : Prop := okE m x0 ∧ okE m x1 ∧ okE m x2 ∧ okE m x3 ∧ okE m x4 ∧ okE m x5
instance (m x : Int) : Decidable (okE m x) := by unfold okE; infer_instance
instance (m a b c d e f : Int) : Decidable (okV m a b c d e f) := by unfold okV; infer_instance
def okTo (m : Int) (x0 x1 x2 x3 x4 x5 : Int) (k : Nat) : Prop := (0 < k → okE m x0) ∧ (1 < k → okE m x1) ∧ (2 < k → okE m x2) ∧ (3 < k → okE m x3) ∧ (4 < k → okE m x4) ∧ (5 < k → okE m x5)

theorem okTo_step {P Q : Prop} (hp : P) (h : P → Q) : Q := h hp
theorem ret_bool {a b : Bool} (h : a = b) : Ending.returned (.bool a) = .returned (.bool b) := by rw [h]
def Post (b : Bool) (w : World) (e : Ending) (w' : World) : Prop := e = .returned (.bool b) ∧ Below w.heap.size w w'

set_option maxRecDepth 100000 in
set_option maxHeartbeats 1000000 in
theorem bounded_any (m x0 x1 x2 x3 x4 x5 : Int) (w : World) (h0 : 0 ≤ m) (h1 : m ≤ 100) :
    Calls Tryz.prog 93 #[.agg #[.int .i64 x0, .int .i64 x1, .int .i64 x2, .int .i64 x3, .int .i64 x4, .int .i64 x5], .int .i64 m] w (Post (decide (okV m x0 x1 x2 x3 x4 x5)) w) := by
  have i0 : ∀ W, (Instr.index 29 (.agg #[.int .i64 x0, .int .i64 x1, .int .i64 x2, .int .i64 x3, .int .i64 x4, .int .i64 x5]) (.int .i64 0)).run Tryz.prog W = .ok (.int .i64 x0) W := fun W => by kernel_rfl
  have i1 : ∀ W, (Instr.index 29 (.agg #[.int .i64 x0, .int .i64 x1, .int .i64 x2, .int .i64 x3, .int .i64 x4, .int .i64 x5]) (.int .i64 1)).run Tryz.prog W = .ok (.int .i64 x1) W := fun W => by kernel_rfl
  have i2 : ∀ W, (Instr.index 29 (.agg #[.int .i64 x0, .int .i64 x1, .int .i64 x2, .int .i64 x3, .int .i64 x4, .int .i64 x5]) (.int .i64 2)).run Tryz.prog W = .ok (.int .i64 x2) W := fun W => by kernel_rfl
  have i3 : ∀ W, (Instr.index 29 (.agg #[.int .i64 x0, .int .i64 x1, .int .i64 x2, .int .i64 x3, .int .i64 x4, .int .i64 x5]) (.int .i64 3)).run Tryz.prog W = .ok (.int .i64 x3) W := fun W => by kernel_rfl
  have i4 : ∀ W, (Instr.index 29 (.agg #[.int .i64 x0, .int .i64 x1, .int .i64 x2, .int .i64 x3, .int .i64 x4, .int .i64 x5]) (.int .i64 4)).run Tryz.prog W = .ok (.int .i64 x4) W := fun W => by kernel_rfl
  have i5 : ∀ W, (Instr.index 29 (.agg #[.int .i64 x0, .int .i64 x1, .int .i64 x2, .int .i64 x3, .int .i64 x4, .int .i64 x5]) (.int .i64 5)).run Tryz.prog W = .ok (.int .i64 x5) W := fun W => by kernel_rfl
  go_enter Tryz.func93, Tryz.ntmps93
  go_wp2
  go_loop [8] (fun i => ∃ k : Nat, k ≤ 6 ∧ i = .int .i64 k ∧ okTo m x0 x1 x2 x3 x4 x5 k) (fun i => 6 - (intOf i).toNat)
  case atStart => exact ⟨0, by omega, rfl, by simp [okTo]⟩
  case round =>
    obtain ⟨k, hk, rfl, hok⟩ := hrel
    have HO : Hid (okTo m x0 x1 x2 x3 x4 x5 k) := hok
    clear hok
    rcases (show k = 0 ∨ k = 1 ∨ k = 2 ∨ k = 3 ∨ k = 4 ∨ k = 5 ∨ k = 6 by omega) with rfl | rfl | rfl | rfl | rfl | rfl | rfl
    all_goals go_wp2
    all_goals first
      | (go_round
         case rel => first
           | exact ⟨1, by omega, rfl, okTo_step HO.out (fun H => by simp only [okTo, okE] at H ⊢; omega)⟩
           | exact ⟨2, by omega, rfl, okTo_step HO.out (fun H => by simp only [okTo, okE] at H ⊢; omega)⟩
           | exact ⟨3, by omega, rfl, okTo_step HO.out (fun H => by simp only [okTo, okE] at H ⊢; omega)⟩
           | exact ⟨4, by omega, rfl, okTo_step HO.out (fun H => by simp only [okTo, okE] at H ⊢; omega)⟩
           | exact ⟨5, by omega, rfl, okTo_step HO.out (fun H => by simp only [okTo, okE] at H ⊢; omega)⟩
           | exact ⟨6, by omega, rfl, okTo_step HO.out (fun H => by simp only [okTo, okE] at H ⊢; omega)⟩
         case measure => simp [intOf])
      | (go_ret
         refine ⟨ret_bool ?_, (Below.refl _ _).alloc (Nat.le_refl _) _⟩
         have H := HO.out
         unfold okTo okE at H
         first
           | exact (decide_eq_false (fun h => by unfold okV okE at h; omega)).symm
           | exact (decide_eq_true (by unfold okV okE; omega)).symm)
end Go.Sc

/-! Scores: the data, what it means that they lie in memory, small lemmas. -/
namespace Go.Sc
open Go.RowKit Go.Proofs

/-- A note. -/
structure Nt where
  v : Int
  fr : Int
  un : Int
  a0 : Int
  a1 : Int
  a2 : Int
  a3 : Int
  a4 : Int
  a5 : Int
  td : Bool
  deriving DecidableEq
def Nt.cells (n : Nt) : List Value := [.int .i64 n.v, .int .i64 n.fr, .int .i64 n.un, .int .i64 n.a0, .int .i64 n.a1, .int .i64 n.a2, .int .i64 n.a3, .int .i64 n.a4, .int .i64 n.a5, .bool n.td]
/-- A pair of notes. -/
structure Pr where
  a : Int
  b : Int
  w0 : Int
  w1 : Int
  w2 : Int
  w3 : Int
  w4 : Int
  w5 : Int
  bd : Int
  deriving DecidableEq
def Pr.cells (p : Pr) : List Value := [.int .i64 p.a, .int .i64 p.b, .int .i64 p.w0, .int .i64 p.w1, .int .i64 p.w2, .int .i64 p.w3, .int .i64 p.w4, .int .i64 p.w5, .int .i64 p.bd]
/-- Elements of so many cells lie in memory. -/
def RowAt {α : Type} (size : Nat) (cells : α → List Value) (w : World) (o : Option Addr) (l : List α) : Prop :=
  ∀ (k : Nat) (n : α), l[k]? = some n → ∃ b off, o = some ⟨b, off, none⟩ ∧ b < w.heap.size ∧ w.rangeAt b (off + k * size) (cells n)
abbrev NotesAt := RowAt 10 Nt.cells
abbrev PairsAt := RowAt 9 Pr.cells
abbrev IntsAt := RowAt 1 (fun n : Int => [Value.int .i64 n])

theorem rangeAt_below {B : Nat} {w w' : World} (hb : Below B w w') {b o : Nat} {cs : List Value} (hlt : b < B) (h : w.rangeAt b o cs) : w'.rangeAt b o cs := fun j v hj => by
  rw [hb.cell (p := ⟨b, o + j, none⟩) hlt]
  exact h j v hj
theorem rangeAt_alloc {w : World} {b o : Nat} {cs : List Value} (obj : Obj) (h : w.rangeAt b o cs) : (w.alloc obj).rangeAt b o cs := by
  cases cs with
  | nil => intro j v hj; simp at hj
  | cons c cs =>
    have h0 := h 0 c rfl
    have hlt : b < w.heap.size := by
      unfold World.cell? at h0
      rcases Nat.lt_or_ge b w.heap.size with hh | hh
      · exact hh
      · rw [Array.getElem?_eq_none hh] at h0; cases h0
    exact rangeAt_below (B := w.heap.size) ((Below.refl _ w).alloc (Nat.le_refl _) obj) hlt h
theorem RowAt.below {α : Type} {size : Nat} {cells : α → List Value} {w w' : World} {o : Option Addr} {l : List α} (h : RowAt size cells w o l) (hb : Below w.heap.size w w') : RowAt size cells w' o l := fun k n hk => by
  obtain ⟨b, off, h1, h2, h3⟩ := h k n hk
  exact ⟨b, off, h1, Nat.lt_of_lt_of_le h2 hb.size, rangeAt_below hb h2 h3⟩
theorem RowAt.alloc {α : Type} {size : Nat} {cells : α → List Value} {w : World} {o : Option Addr} {l : List α} (h : RowAt size cells w o l) (obj : Obj) : RowAt size cells (w.alloc obj) o l :=
  h.below ((Below.refl _ w).alloc (Nat.le_refl _) obj)
theorem bcell {W w1 : World} {B : Nat} (hb : Below B W w1) : (∀ b o, b < B → w1.cell? ⟨b, o, none⟩ = W.cell? ⟨b, o, none⟩) ∧ (∀ b o, b < B → w1.frozen? ⟨b, o, none⟩ = W.frozen? ⟨b, o, none⟩) :=
  ⟨fun b o h => hb.cell (p := ⟨b, o, none⟩) h, fun b o h => hb.frozen (p := ⟨b, o, none⟩) h⟩
theorem below_loop {w wr : World} {obj : Obj} (h : Below (w.heap.size + 1) (w.alloc obj) wr) : Below w.heap.size w wr :=
  ((Below.refl _ w).alloc (Nat.le_refl _) obj).trans (h.mono (by omega))
theorem get_of_lt {α : Type} {l : List α} {k : Nat} (h : k < l.length) : ∃ n, l[k]? = some n := ⟨l[k], by simp [h]⟩
theorem all_step {α : Type} {P : α → Prop} {l : List α} {k : Nat} {n : α} (h : ∀ n ∈ l.take k, P n) (hn : l[k]? = some n) (hp : P n) : ∀ n ∈ l.take (k + 1), P n := by
  intro m hm
  rw [List.take_add_one, hn] at hm
  rcases List.mem_append.1 hm with h1 | h1
  · exact h m h1
  · simp at h1; subst h1; exact hp
theorem mem_of_get {α : Type} {l : List α} {k : Nat} {n : α} (h : l[k]? = some n) : n ∈ l := List.mem_of_getElem? h

def noteOk (V : Int) (n : Nt) : Prop := 0 ≤ n.v ∧ n.v < V ∧ 0 ≤ n.fr ∧ n.fr < n.un ∧ n.un ≤ 100000 ∧ okV 24 n.a0 n.a1 n.a2 n.a3 n.a4 n.a5
instance (V : Int) (n : Nt) : Decidable (noteOk V n) := by unfold noteOk; infer_instance
/-- Each element is less than the next one. -/
def rising {α : Type} (lt : α → α → Prop) (l : List α) : Prop := ∀ (i : Nat) (a b : α), l[i]? = some a → l[i + 1]? = some b → lt a b
def ltN (a b : Nt) : Prop := a.fr < b.fr ∨ (a.fr = b.fr ∧ a.v < b.v)
def ltP (a b : Pr) : Prop := a.a < b.a ∨ (a.a = b.a ∧ a.b < b.b)
def ltI (a b : Int) : Prop := a < b
def notesOk (V : Int) (l : List Nt) : Prop := (∀ n ∈ l, noteOk V n) ∧ rising ltN l
/-- What is said of a Bool. -/
def Says (p : Prop) (w : World) (e : Ending) (w' : World) : Prop := ∃ b : Bool, (b = true ↔ p) ∧ e = .returned (.bool b) ∧ Below w.heap.size w w'
theorem Says.yes {p : Prop} {w w' : World} (hp : p) (hb : Below w.heap.size w w') : Says p w (.returned (.bool true)) w' := ⟨true, by simp [hp], rfl, hb⟩
theorem Says.no {p : Prop} {w w' : World} (hp : ¬ p) (hb : Below w.heap.size w w') : Says p w (.returned (.bool false)) w' := ⟨false, by simp [hp], rfl, hb⟩
end Go.Sc

/-! cmp.Compare, cmp.Or, and the comparisons of notes and pairs. -/
namespace Go.Sc
open Go.RowKit Go.Proofs

def cmpI (x y : Int) : Int := if x < y then -1 else if y < x then 1 else 0
def orI (x y : Int) : Int := if x = 0 then y else x
theorem ret_int {k : IntKind} {a b : Int} (h : a = b) : Ending.returned (.int k a) = .returned (.int k b) := by rw [h]

theorem isNaN_any (x : Int) (w : World) : Calls Tryz.prog 77 #[.int .i64 x] w fun e w' => e = .returned (.bool false) ∧ w = w' := by
  go_enter Tryz.func77, Tryz.ntmps77
  go_wp2
  go_ret
  exact ⟨by simp, rfl⟩
theorem compare_any (x y : Int) (w : World) : Calls Tryz.prog 49 #[.int .i64 x, .int .i64 y] w fun e w' => e = .returned (.int .i64 (cmpI x y)) ∧ w = w' := by
  go_enter Tryz.func49, Tryz.ntmps49
  go_wp2_with (go_at_call 77; refine (isNaN_any _ _).mono ?_; rintro e w' ⟨rfl, rfl⟩)
  all_goals
    go_ret
    refine ⟨ret_int ?_, rfl⟩
    unfold cmpI
    first
      | (rw [if_pos (by omega)])
      | (rw [if_neg (by omega), if_pos (by omega)])
      | (rw [if_neg (by omega), if_neg (by omega)])
theorem compare_still (x y : Int) (w : World) : Calls Tryz.prog 49 #[.int .i64 x, .int .i64 y] w fun e w' => e = .returned (.int .i64 (cmpI x y)) ∧ w' = w :=
  (compare_any x y w).mono fun _ _ h => ⟨h.1, h.2.symm⟩
theorem or_any (x y : Int) (b off cap : Nat) (w : World) (hx : w.cell? ⟨b, off, none⟩ = some (.int .i64 x)) (hy : w.cell? ⟨b, off + 1, none⟩ = some (.int .i64 y)) :
    Calls Tryz.prog 96 #[.slice (some ⟨b, off, none⟩) 2 cap] w fun e w' => e = .returned (.int .i64 (orI x y)) ∧ w = w' := by
  go_enter Tryz.func96, Tryz.ntmps96
  go_wp2
  go_loop [8] (fun i => (i = .int .i64 0) ∨ (i = .int .i64 1 ∧ x = 0) ∨ (i = .int .i64 2 ∧ x = 0 ∧ y = 0)) (fun i => 2 - (intOf i).toNat)
  case atStart => exact .inl rfl
  case round =>
    rcases hrel with rfl | ⟨rfl, rfl⟩ | ⟨rfl, rfl, rfl⟩
    all_goals go_wp2
    all_goals first
      | (rename_i hx
         go_round
         case rel => first
           | exact .inr (.inl ⟨rfl, by simpa using hx⟩)
           | exact .inr (.inr ⟨rfl, trivial, by simpa using hx⟩)
           | exact .inr (.inr ⟨rfl, rfl, by simpa using hx⟩)
         case measure => simp [intOf])
      | (go_ret
         refine ⟨ret_int ?_, rfl⟩
         unfold orI
         first
           | rfl
           | simp_all)

set_option maxRecDepth 100000 in
set_option maxHeartbeats 4000000 in
theorem cmpN_any (a b : Nt) (w : World) : Calls Tryz.prog 95 #[.agg a.cells.toArray, .agg b.cells.toArray] w fun e w' => e = .returned (.int .i64 (orI (cmpI a.fr b.fr) (cmpI a.v b.v))) ∧ Below w.heap.size w w' := by
  obtain ⟨v, fr, un, a0, a1, a2, a3, a4, a5, td⟩ := a
  obtain ⟨v', fr', un', b0, b1, b2, b3, b4, b5, td'⟩ := b
  show Calls Tryz.prog 95 #[.agg #[.int .i64 v, .int .i64 fr, .int .i64 un, .int .i64 a0, .int .i64 a1, .int .i64 a2, .int .i64 a3, .int .i64 a4, .int .i64 a5, .bool td], .agg #[.int .i64 v', .int .i64 fr', .int .i64 un', .int .i64 b0, .int .i64 b1, .int .i64 b2, .int .i64 b3, .int .i64 b4, .int .i64 b5, .bool td']] w _
  dsimp only
  go_enter Tryz.func95, Tryz.ntmps95
  go_wp2
  generalize hW : World.alloc (World.alloc w _) _ = W0
  have e0 : W0.cell? ⟨w.heap.size, 0, none⟩ = some (.int .i64 v) := by rw [← hW]; simp
  have e1 : W0.cell? ⟨w.heap.size, 1, none⟩ = some (.int .i64 fr) := by rw [← hW]; simp
  have e2 : W0.cell? ⟨w.heap.size + 1, 0, none⟩ = some (.int .i64 v') := by rw [← hW]; simp
  have e3 : W0.cell? ⟨w.heap.size + 1, 1, none⟩ = some (.int .i64 fr') := by rw [← hW]; simp
  have HB : Hid (Below w.heap.size w W0) := by rw [← hW]; exact ((Below.refl _ _).alloc (Nat.le_refl _) _).alloc (by simp) _
  clear hW
  refine wp_region_still_tail 10 (by kernel_rfl) (by kernel_rfl) ?_
  simp only [List.take_succ_cons, List.take_zero, List.drop_succ_cons, List.drop_zero]
  change wpStill _ _ W0.drew _ _ _
  have HB2 : Hid (Below w.heap.size w W0.drew) := HB.out.drew
  have f0 : W0.drew.cell? ⟨w.heap.size, 0, none⟩ = some (.int .i64 v) := e0
  have f1 : W0.drew.cell? ⟨w.heap.size, 1, none⟩ = some (.int .i64 fr) := e1
  have f2 : W0.drew.cell? ⟨w.heap.size + 1, 0, none⟩ = some (.int .i64 v') := e2
  have f3 : W0.drew.cell? ⟨w.heap.size + 1, 1, none⟩ = some (.int .i64 fr') := e3
  repeat still_step
  still_call (compare_still _ _ _)
  repeat still_step
  still_call (compare_still _ _ _)
  repeat still_step
  refine wpStill_nil ?_
  change wpList _ _ _ _ _ W0.drew
  clear e0 e1 e2 e3 f0 f1 f2 f3 HB
  generalize W0.drew = W2 at *
  go_wp2_with (go_at_call 96; refine (or_any (cmpI fr fr') (cmpI v v') _ _ _ _ (by go_simp) (by go_simp)).mono ?_; rintro e w' ⟨rfl, rfl⟩)
  go_ret
  exact ⟨rfl, HB2.out.alloc (HB2.out.size) _⟩
end Go.Sc
