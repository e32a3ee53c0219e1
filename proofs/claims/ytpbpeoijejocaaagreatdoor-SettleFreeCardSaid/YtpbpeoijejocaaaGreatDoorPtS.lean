/- tree.way: the map of the notes above, the steps taken over. -/
import Derived.Test.YtpbpeoijejocaaaGreatDoorPtR
import Derived.Test.YtpbpeoijejocaaaGreatDoorPtI
import Derived.Maps.Own
import Derived.Maps.OwnIn
import Derived.Shelf.Abstract
namespace Go.Sc
open Go.RowKit Go.Proofs
open Go.Maps (Keyed)
attribute [local go_sem] Oper.semAt_some

set_option maxRecDepth 100000 in
set_option maxHeartbeats 1000000 in
/-- tree.steps: the iterator with its two boxes. -/
theorem steps_any (T : Nat) (n : Int) (w : World) : Calls Tryz.prog 61 #[.pointer (some ⟨T, 0, none⟩), .int .i64 n] w fun e w' =>
    e = .returned (.func (.func 86) #[] #[.pointer (some ⟨w.heap.size + 1, 0, none⟩), .pointer (some ⟨w.heap.size, 0, none⟩)]) ∧ w' = (w.alloc (.cells #[.pointer (some ⟨T, 0, none⟩)] 87)).alloc (.cells #[.int .i64 n] 3) := by
  go_enter Tryz.func61, Tryz.ntmps61
  go_wp2
  go_ret
  exact ⟨rfl, rfl⟩
theorem keyedI : Keyed Tryz.prog 3 := Maps.int_keyed Tryz.underlying3
abbrev yes : DataW Unit := .lit (.bool true)
/-- The map of the notes above, behind k steps. -/
def dAt (s : Sc) (b : Int) : Nat → DataW Unit
  | 0 => (DataW.map []).put (.int .i64 b) yes
  | k + 1 => (dAt s b k).put (.int .i64 (nodeOf s b (k + 1))) yes
noncomputable abbrev elB : Value → Option (DataW Unit × List MemPlace) := plainElem Tryz.prog 4
/-- Between two rounds of the first loop. -/
structure WL (w A : World) (nb tb : Nat) (n : Int) (T Mp B7 q : Nat) (D : DataW Unit) : Prop where
  below : Below w.heap.size w A
  t : A.cell? ⟨tb, 0, none⟩ = some (.pointer (some ⟨T, 0, none⟩))
  n : A.cell? ⟨nb, 0, none⟩ = some (.int .i64 n)
  f : A.frozen? ⟨nb, 0, none⟩ = false
  m : A.cell? ⟨B7, 0, none⟩ = some (.map (some Mp))
  own : A.ownsMap Tryz.prog 3 elB Mp q D
theorem WL.but {w A B : World} {nb tb : Nat} {n : Int} {T Mp B7 q N : Nat} {D : DataW Unit} (h : WL w A nb tb n T Mp B7 q D) (hb : But N A B) (hN : w.heap.size ≤ N) (hM : Mp < N) : WL w B nb tb n T Mp B7 q D := by
  obtain ⟨es, clock, hheap, r⟩ := h.own
  exact ⟨hb.below h.below h.below.size hN, hb.cell h.t, hb.cell h.n, (hb.frozen h.n).trans h.f, hb.cell h.m, es, clock, hb.block Mp _ hheap (.inl hM), r⟩
theorem WL.below' {w A B : World} {nb tb : Nat} {n : Int} {T Mp B7 q : Nat} {D : DataW Unit} (h : WL w A nb tb n T Mp B7 q D) (hb : Below A.heap.size A B) : WL w B nb tb n T Mp B7 q D :=
  h.but (But.of_below hb) h.below.size h.own.lt
theorem WL.set {w A : World} {nb tb : Nat} {n : Int} {T Mp B7 q : Nat} {D : DataW Unit} (h : WL w A nb tb n T Mp B7 q D) (n' : Int) (h1 : w.heap.size ≤ nb) (h2 : tb ≠ nb) (h3 : B7 ≠ nb) (h4 : Mp ≠ nb) : WL w (A.setCell ⟨nb, 0, none⟩ (.int .i64 n')) nb tb n' T Mp B7 q D := by
  have hn := h.n
  have hf := h.f
  have ht := h.t
  have hm := h.m
  exact ⟨h.below.setCell (p := ⟨nb, 0, none⟩) h1 _, by go_simp, by go_simp, by go_simp, by go_simp, h.own.setCell h4 _⟩
theorem WL.sd {w A : World} {nb tb : Nat} {n : Int} {T Mp B7 q : Nat} {D : DataW Unit} (h : WL w A nb tb n T Mp B7 q D) {s : Sc} {y : Lay} {z : Tl} {xs : List Vc} (ht : TreeAt w T s y z xs) : SD A T s y z xs nb tb n :=
  ⟨ht.below h.below, h.t, h.n, h.f⟩
theorem wl_start (w W1 : World) (n : Int) (T Mp q : Nat) (D : DataW Unit) (hB : Below w.heap.size w W1) (hO : W1.ownsMap Tryz.prog 3 elB Mp q D) :
    WL w (((W1.alloc (.cells #[.map (some Mp)] 134)).alloc (.cells #[.pointer (some ⟨T, 0, none⟩)] 87)).alloc (.cells #[.int .i64 n] 3)) (W1.heap.size + 1 + 1) (W1.heap.size + 1) n T Mp W1.heap.size q D := by
  have hs := hB.size
  exact ⟨((hB.alloc hs _).alloc (by simp; omega) _).alloc (by simp; omega) _, by go_simp, by go_simp, by go_simp, by go_simp, ((hO.alloc _).alloc _).alloc _⟩
theorem last_le {s : Sc} (hv : validOk s) {n : Int} {M : Nat} (h : LastUp s n M) : ∀ k : Nat, k ≤ M → nodeOf s n k ≤ n - k := by
  intro k
  induction k with
  | zero => intro _; show n ≤ n - 0; omega
  | succ k ih =>
    intro hk
    have h1 := ih (by omega)
    have h2 := h.1 k (by omega)
    have h3 := (up_of_lt hv h2.1 h2.2).2
    have h4 : nodeOf s n (k + 1) = (upOf s (nodeOf s n k).toNat).f := rfl
    omega
theorem node_lim {s : Sc} {n : Int} {M : Nat} (h : LastUp s n M) (k : Nat) (hk : k ≤ M + 1) : -1 ≤ nodeOf s n k ∧ nodeOf s n k < s.n.length := by
  by_cases e : k = M + 1
  · rw [e, h.2]; omega
  · have := h.1 k (by omega); omega
theorem WL.grown {w A B : World} {nb tb : Nat} {n : Int} {T Mp B7 q q' : Nat} {D D' : DataW Unit} (h : WL w A nb tb n T Mp B7 q D) (hg : A.grownBy B (some Mp)) (ho : B.ownsMap Tryz.prog 3 elB Mp q' D') (h0 : w.heap.size ≤ Mp) (h1 : tb ≠ Mp) (h2 : nb ≠ Mp) (h3 : B7 ≠ Mp) : WL w B nb tb n T Mp B7 q' D' := by
  have c : ∀ X o v, X ≠ Mp → A.cell? ⟨X, o, none⟩ = some v → B.cell? ⟨X, o, none⟩ = some v := fun X o v hX hv => (World.cell?_of_block (w := A) (hg.block X (World.block_lt_of_cell? A _ hv) (fun e => hX (Option.some.inj e)))).trans hv
  exact ⟨h.below.grown hg h.below.size (fun b e => by cases e; exact h0), c _ _ _ h1 h.t, c _ _ _ h2 h.n, (World.frozen?_of_block (w := A) (hg.block nb (World.block_lt_of_cell? A _ h.n) (fun e => h2 (Option.some.inj e)))).trans h.f, c _ _ _ h3 h.m, ho⟩
theorem key_wf {x : Int} (h0 : -1 ≤ x) (h1 : x ≤ 100000) : keyOf Tryz.prog 3 (.int .i64 x) = some (.int .i64 x) := Maps.keyOf_int_mk Tryz.underlying3 (by simp [Lit.wf, IntKind.min, IntKind.max, IntKind.signed, IntKind.bits]; omega)
set_option maxRecDepth 100000 in
theorem plainB_inv {v : Value} {z : DataW Unit × List MemPlace} (h : elB v = some z) : ∃ x, v = .bool x ∧ z = (.lit (.bool x), []) := by
  unfold elB plainElem at h
  rw [Tryz.underlying4] at h
  cases v <;> simp at h
  exact ⟨_, rfl, h.symm⟩
theorem dAt_map (s : Sc) (b : Int) : ∀ m, Maps.IsMap (dAt s b m)
  | 0 => ⟨_, rfl⟩
  | m + 1 => by obtain ⟨es, he⟩ := dAt_map s b m; show Maps.IsMap ((dAt s b m).put _ _); rw [he]; exact ⟨_, rfl⟩
/-- What the map says of a note. -/
theorem dAt_at (s : Sc) (b t : Int) : ∀ m, (dAt s b m).atKey (.int .i64 t) (.lit (.bool false)) = .lit (.bool (decide (∃ j, j ≤ m ∧ nodeOf s b j = t)))
  | 0 => by
    by_cases e : b = t
    · subst e
      rw [decide_eq_true ⟨0, Nat.le_refl _, rfl⟩]
      exact Maps.atKey_put_same ⟨_, rfl⟩ (show WideAt.IsKeyLit (.int .i64 b) from trivial) _ _
    · rw [decide_eq_false (by
        rintro ⟨j, hj, h⟩
        have hj0 : j = 0 := by omega
        subst hj0
        exact e h)]
      exact (Maps.atKey_put_other (by simp; exact fun h => e h.symm) _ _).trans rfl
  | m + 1 => by
    by_cases e : nodeOf s b (m + 1) = t
    · rw [decide_eq_true ⟨m + 1, Nat.le_refl _, e⟩]
      show ((dAt s b m).put (.int .i64 (nodeOf s b (m + 1))) yes).atKey _ _ = _
      rw [e]
      exact Maps.atKey_put_same (dAt_map s b m) (show WideAt.IsKeyLit (.int .i64 t) from trivial) _ _
    · show ((dAt s b m).put (.int .i64 (nodeOf s b (m + 1))) yes).atKey _ _ = _
      rw [Maps.atKey_put_other (by simp; exact fun h => e h.symm), dAt_at s b t m]
      congr 2
      apply decide_eq_decide.2
      constructor
      · rintro ⟨j, hj, h⟩; exact ⟨j, by omega, h⟩
      · rintro ⟨j, hj, h⟩
        refine ⟨j, ?_, h⟩
        rcases Nat.lt_or_ge j (m + 1) with g | g
        · omega
        · have hjm : j = m + 1 := by omega
          exact absurd (hjm ▸ h) e
theorem zeroB (w : World) : (zeroValue 4).run Tryz.prog w = .ok (.bool false) w := by kernel_rfl
set_option maxRecDepth 100000 in
/-- The look-up. -/
theorem look_any {A : World} {Mp q m : Nat} {s : Sc} {b t : Int} (h : A.ownsMap Tryz.prog 3 elB Mp q (dAt s b m)) (h0 : -1 ≤ t) (h1 : t ≤ 100000) : (Instr.lookup 134 (.map (some Mp)) (.int .i64 t) false).run Tryz.prog A = .ok (.bool (decide (∃ j, j ≤ m ∧ nodeOf s b j = t))) A := by
  obtain ⟨v, ps, hr, hv⟩ := h.lookup keyedI Tryz.underlying134 (zeroB A) (plainElem_bool Tryz.underlying4 false) (key_wf h0 h1)
  obtain ⟨x, rfl, hx⟩ := plainB_inv hv
  rw [dAt_at] at hx
  injection hx with h2 _
  injection h2 with h2
  injection h2 with h2
  rw [hr, ← h2]
/-- The steps that have been taken over behind k rounds of the second loop. -/
def outsA (s : Sc) (a : Int) (k : Nat) : List St := (List.range k).map fun j => (upOf s (nodeOf s a j).toNat).turn
theorem outs_succ (s : Sc) (a : Int) (k : Nat) : outsA s a (k + 1) = outsA s a k ++ [(upOf s (nodeOf s a k).toNat).turn] := by
  unfold outsA
  rw [List.range_succ, List.map_append]
  rfl
theorem outs_len (s : Sc) (a : Int) (k : Nat) : (outsA s a k).length = k := by unfold outsA; simp
theorem own_but {A B : World} {N base : Nat} {v : Value} {l : List St} (h : OwnS A base v l) (hb : But N A B) : OwnS B base v l := by
  refine ⟨h.1, ?_⟩
  rcases h.2 with g | ⟨g, cap, cur, h1, h2, h3, h4⟩
  · exact .inl g
  · exact .inr ⟨g, cap, cur, h1, h2, hb.block g _ h3 (.inr rfl), h4⟩
/-- The steps that have been taken over behind k rounds of the third loop. -/
def downsB (s : Sc) (b : Int) (k : Nat) : List St := (List.range k).map fun j => upOf s (nodeOf s b j).toNat
theorem downs_succ (s : Sc) (b : Int) (k : Nat) : downsB s b (k + 1) = downsB s b k ++ [upOf s (nodeOf s b k).toNat] := by
  unfold downsB
  rw [List.range_succ, List.map_append]
  rfl
theorem downs_len (s : Sc) (b : Int) (k : Nat) : (downsB s b k).length = k := by unfold downsB; simp
end Go.Sc
