/- A row of pairs that the call owns: what it holds, a store into it. The stable sort of Go's library on lists, as its text has it: swaps, blocks by insertion, runs by symmetric merging. -/
import Derived.Test.YtjpbfggfoahoeaaGreatDoorScY
namespace Go.Sc
open Go.RowKit Go.Proofs

/-- Block g, of room for cap pairs, holds the pairs l. -/
structure PRow (w : World) (g cap : Nat) (l : List Pr) : Prop where
  len : l.length ≤ cap
  max : cap ≤ maxLen
  blk : ∃ cur, w.heap[g]? = some (.cells cur 43 (0, 0)) ∧ cur.size = cap * 9 ∧ ∀ i p, l[i]? = some p → ∀ j u, p.cells[j]? = some u → cur[i * 9 + j]? = some u
theorem Pr.len (p : Pr) : p.cells.length = 9 := rfl
theorem PRow.range {w : World} {g cap : Nat} {l : List Pr} (h : PRow w g cap l) {i : Nat} {p : Pr} (hp : l[i]? = some p) : w.rangeAt g (i * 9) p.cells := fun j u hu => by
  obtain ⟨cur, h1, _, h3⟩ := h.blk
  rw [cell_of_row w g (i * 9 + j) cur 43 (0, 0) h1]
  exact h3 i p hp j u hu
theorem PRow.there {w : World} {g cap : Nat} {l : List Pr} (h : PRow w g cap l) {i : Nat} (hi : i < l.length) : w.there g (i * 9) 9 := fun j hj => by
  obtain ⟨cur, h1, h2, _⟩ := h.blk
  have hl := h.len
  rw [cell_of_row w g (i * 9 + j) cur 43 (0, 0) h1]
  refine ⟨by rw [Array.getElem?_eq_getElem (by omega)]; rfl, ?_⟩
  unfold World.frozen?
  simp [h1]
theorem PRow.lt {w : World} {g cap : Nat} {l : List Pr} (h : PRow w g cap l) : g < w.heap.size := by
  obtain ⟨cur, h1, _⟩ := h.blk
  exact (Array.getElem?_eq_some_iff.1 h1).1
theorem PRow.keep {w w' : World} {g cap : Nat} {l : List Pr} (h : PRow w g cap l) (hb : Below w.heap.size w w') : PRow w' g cap l := by
  obtain ⟨cur, h1, h2⟩ := h.blk
  exact ⟨h.len, h.max, cur, (hb.block g h.lt).trans h1, h2⟩
theorem heap_setCells (g : Nat) (e : TypeId) (fr : Nat × Nat) : ∀ (vs : List Value) (o : Nat) (w : World) (cur : Array Value), w.heap[g]? = some (.cells cur e fr) →
    ∃ cur', (w.setCells g o vs).heap[g]? = some (.cells cur' e fr) ∧ cur'.size = cur.size ∧ (∀ k, k < o ∨ o + vs.length ≤ k → cur'[k]? = cur[k]?) ∧ ∀ k u, o + k < cur.size → vs[k]? = some u → cur'[o + k]? = some u
  | [], o, w, cur, h => ⟨cur, h, rfl, fun _ _ => rfl, fun k u _ hu => by simp at hu⟩
  | v :: r, o, w, cur, h => by
    have hg : g < w.heap.size := (Array.getElem?_eq_some_iff.1 h).1
    have h1 : (w.setCell ⟨g, o, none⟩ v).heap[g]? = some (.cells (cur.setIfInBounds o v) e fr) := by
      unfold World.setCell
      rw [Array.getElem?_modify]
      simp [h]
    obtain ⟨cur', a, b, c, d⟩ := heap_setCells g e fr r (o + 1) _ _ h1
    refine ⟨cur', a, by rw [b]; simp, fun k hk => ?_, fun k u hk hu => ?_⟩
    · rw [c k (by simp at hk; omega), Array.getElem?_setIfInBounds_ne (by simp at hk; omega)]
    · cases k with
      | zero =>
        simp at hu
        subst hu
        rw [c (o + 0) (by omega), Nat.add_zero, Array.getElem?_setIfInBounds_self_of_lt (by omega)]
      | succ k =>
        rw [show o + (k + 1) = o + 1 + k by omega]
        exact d k u (by simp; omega) (by simpa using hu)
theorem cells_set {α : Type} (f : α → List Value) (n : Nat) (hf : ∀ p, (f p).length = n) {l : List α} {cur cur' : Array Value} {i : Nat} (hi : i < l.length) (hc : l.length * n ≤ cur.size) (p : α)
    (h3 : ∀ (k : Nat) (q : α), l[k]? = some q → ∀ (j : Nat) (u : Value), (f q)[j]? = some u → cur[k * n + j]? = some u)
    (c : ∀ k : Nat, k < i * n ∨ i * n + n ≤ k → cur'[k]? = cur[k]?) (d : ∀ (k : Nat) (u : Value), i * n + k < cur.size → (f p)[k]? = some u → cur'[i * n + k]? = some u)
    (k : Nat) (q : α) (hq : (l.set i p)[k]? = some q) (j : Nat) (u : Value) (hu : (f q)[j]? = some u) : cur'[k * n + j]? = some u := by
  have hj : j < n := hf q ▸ (List.getElem?_eq_some_iff.1 hu).1
  rcases Nat.lt_trichotomy k i with hk | hk | hk
  · rw [List.getElem?_set_ne (by omega)] at hq
    have h1 : (k + 1) * n ≤ i * n := Nat.mul_le_mul_right n hk
    rw [Nat.add_mul, Nat.one_mul] at h1
    rw [c (k * n + j) (Or.inl (by omega))]
    exact h3 k q hq j u hu
  · cases hk
    rw [List.getElem?_set_self hi] at hq
    cases hq
    have h1 : (i + 1) * n ≤ l.length * n := Nat.mul_le_mul_right n hi
    rw [Nat.add_mul, Nat.one_mul] at h1
    exact d j u (by omega) hu
  · rw [List.getElem?_set_ne (by omega)] at hq
    have h1 : (i + 1) * n ≤ k * n := Nat.mul_le_mul_right n hk
    rw [Nat.add_mul, Nat.one_mul] at h1
    rw [c (k * n + j) (Or.inr (by omega))]
    exact h3 k q hq j u hu
theorem PRow.store {w : World} {g cap : Nat} {l : List Pr} (h : PRow w g cap l) {i : Nat} (hi : i < l.length) (p : Pr) : PRow (w.setCells g (i * 9) p.cells) g cap (l.set i p) := by
  obtain ⟨cur, h1, h2, h3⟩ := h.blk
  obtain ⟨cur', a, b, c, d⟩ := heap_setCells g 43 (0, 0) p.cells (i * 9) w cur h1
  have hl : l.length * 9 ≤ cur.size := by rw [h2]; exact Nat.mul_le_mul_right 9 h.len
  exact { len := by rw [List.length_set]; exact h.len, max := h.max, blk := ⟨cur', a, b.trans h2, cells_set Pr.cells 9 Pr.len hi hl p h3 c d⟩ }
/-- Only block g, and what is new, has turned. -/
structure Just (g : Nat) (w w' : World) : Prop where
  os : w'.os = w.os
  tape : w'.tape = w.tape
  output : w'.output = w.output
  size : w.heap.size ≤ w'.heap.size
  block : ∀ k, k < w.heap.size → k ≠ g → w'.heap[k]? = w.heap[k]?
theorem Just.refl (g : Nat) (w : World) : Just g w w := ⟨rfl, rfl, rfl, Nat.le_refl _, fun _ _ _ => rfl⟩
theorem Just.trans {g : Nat} {a b c : World} (h : Just g a b) (k : Just g b c) : Just g a c :=
  ⟨k.os.trans h.os, k.tape.trans h.tape, k.output.trans h.output, Nat.le_trans h.size k.size, fun i hi hg => (k.block i (Nat.lt_of_lt_of_le hi h.size) hg).trans (h.block i hi hg)⟩
theorem Just.of {g : Nat} {w w' : World} (h : Below w.heap.size w w') : Just g w w' := ⟨h.os, h.tape, h.output, h.size, fun k hk _ => h.block k hk⟩
theorem Just.drew {g : Nat} {a w : World} (h : Just g a w) : Just g a w.drew := ⟨h.os, h.tape, h.output, h.size, h.block⟩
theorem Just.setCells {g : Nat} {a w : World} (h : Just g a w) (vs : List Value) (o : Nat) : Just g a (w.setCells g o vs) := by
  induction vs generalizing o w with
  | nil => exact h
  | cons v r ih => exact ih (w := w.setCell ⟨g, o, none⟩ v) ⟨h.os, h.tape, h.output, by simpa [World.setCell] using h.size, fun k hk hg => (Below.heap_setCell w ⟨g, o, none⟩ v k hg).trans (h.block k hk hg)⟩ (o + 1)
/-- What lies below n, if g does not. -/
theorem Just.below {g n : Nat} {w0 w w' : World} (h : Just g w w') (hw : Below n w0 w) (hn : n ≤ g) (hs : n ≤ w.heap.size) : Below n w0 w' :=
  hw.trans ⟨h.os, h.tape, h.output, h.size, fun k hk => h.block k (by omega) (by omega)⟩
end Go.Sc

/-! The stable sort of Go's library on lists, as its text has it: swaps, blocks by insertion, runs by symmetric merging. -/
namespace Go.So
variable {α β : Type}

/-- The elements i and j change places. -/
def swp (l : List α) (i j : Nat) : List α :=
  match l[i]?, l[j]? with
  | some x, some y => (l.set i y).set j x
  | _, _ => l
/-- Element i is less than element j. -/
def less (lt : α → α → Bool) (l : List α) (i j : Nat) : Bool :=
  match l[i]?, l[j]? with
  | some x, some y => lt x y
  | _, _ => false
/-- n elements from a + i on change places with those from b + i on. -/
def swR (a b : Nat) : Nat → Nat → List α → List α
  | 0, _, l => l
  | n + 1, i, l => swR a b n (i + 1) (swp l (a + i) (b + i))
/-- i elements in front of m, and j behind: the rest of a turning; the first number bounds the rounds. -/
def rot (m : Nat) : Nat → Nat → Nat → List α → List α
  | 0, _, _, l => l
  | f + 1, i, j, l =>
    if i = j then swR (m - i) m i 0 l
    else if j < i then rot m f (i - j) j (swR (m - i) m j 0 l)
    else rot m f i (j - i) (swR (m - i) (m + j - i) i 0 l)
/-- Element j moves down to its place, not below a. -/
def insI (lt : α → α → Bool) (a : Nat) : Nat → List α → List α
  | 0, l => l
  | j + 1, l => if a < j + 1 then (if less lt l (j + 1) j then insI lt a j (swp l (j + 1) j) else l) else l
/-- n elements from i on, one behind the other, move down to their places. -/
def insO (lt : α → α → Bool) (a : Nat) : Nat → Nat → List α → List α
  | 0, _, l => l
  | n + 1, i, l => insO lt a n (i + 1) (insI lt a i l)
def insS (lt : α → α → Bool) (a b : Nat) (l : List α) : List α := insO lt a (b - (a + 1)) (a + 1) l
/-- The search for the place that a test, true below it, tells; the first number bounds the rounds. -/
def look (t : Nat → Bool) : Nat → Nat → Nat → Nat
  | 0, i, _ => i
  | f + 1, i, j => if i < j then (if t ((i + j) / 2) then look t f ((i + j) / 2 + 1) j else look t f i ((i + j) / 2)) else i
/-- Element k moves n places up. -/
def upR : Nat → Nat → List α → List α
  | 0, _, l => l
  | n + 1, k, l => upR n (k + 1) (swp l k (k + 1))
/-- Element k moves n places down. -/
def dnR : Nat → Nat → List α → List α
  | 0, _, l => l
  | n + 1, k, l => dnR n (k - 1) (swp l k (k - 1))
/-- Where the turning of a merge starts. -/
def cut (lt : α → α → Bool) (a m b : Nat) (l : List α) : Nat :=
  if (a + b) / 2 < m then look (fun c => !less lt l ((a + b) / 2 + m - 1 - c) c) b ((a + b) / 2 + m - b) ((a + b) / 2)
  else look (fun c => !less lt l ((a + b) / 2 + m - 1 - c) c) b a m
/-- The turning of a merge. -/
def turn (s m e : Nat) (l : List α) : List α := if s < m then (if m < e then rot m (e - s) (m - s) (e - m) l else l) else l
/-- The two runs from a and from m on are merged; the first number bounds the depth. -/
def sym (lt : α → α → Bool) : Nat → Nat → Nat → Nat → List α → List α
  | 0, _, _, _, l => l
  | f + 1, a, m, b, l =>
    if m - a = 1 then upR (look (fun h => less lt l h a) b m b - 1 - a) a l
    else if b - m = 1 then dnR (m - look (fun h => !less lt l m h) b a m) m l
    else
      let s := cut lt a m b l
      let mid := (a + b) / 2
      let e := mid + m - s
      let l1 := turn s m e l
      let l2 := if a < s then (if s < mid then sym lt f a s mid l1 else l1) else l1
      if mid < e then (if e < b then sym lt f mid e b l2 else l2) else l2
/-- The blocks, from a on; the first number bounds the rounds. -/
def blks (lt : α → α → Bool) (n : Nat) : Nat → Nat → List α → List α
  | 0, _, l => l
  | f + 1, a, l => if a + 20 ≤ n then blks lt n f (a + 20) (insS lt a (a + 20) l) else insS lt a n l
/-- A round of merges, of runs of z elements, from a on. -/
def mrg (lt : α → α → Bool) (n z : Nat) : Nat → Nat → List α → List α
  | 0, _, l => l
  | f + 1, a, l => if a + 2 * z ≤ n then mrg lt n z f (a + 2 * z) (sym lt n a (a + z) (a + 2 * z) l) else if a + z < n then sym lt n a (a + z) n l else l
/-- The rounds of merges. -/
def mrgs (lt : α → α → Bool) (n : Nat) : Nat → Nat → List α → List α
  | 0, _, l => l
  | f + 1, z, l => if z < n then mrgs lt n f (z * 2) (mrg lt n z (n + 1) 0 l) else l
def stable (lt : α → α → Bool) (l : List α) : List α := mrgs lt l.length (l.length + 1) 20 (blks lt l.length (l.length + 1) 0 l)

/- Each is a swap after a swap: lengths, elements, and what maps of the elements do. -/
theorem length_swp (l : List α) (i j : Nat) : (swp l i j).length = l.length := by unfold swp; split <;> simp
theorem perm_swp (l : List α) (i j : Nat) : (swp l i j).Perm l := by
  unfold swp
  split
  · rename_i x y hx hy
    obtain ⟨hi, rfl⟩ := List.getElem?_eq_some_iff.1 hx
    obtain ⟨hj, rfl⟩ := List.getElem?_eq_some_iff.1 hy
    exact List.set_set_perm hi hj
  · exact .refl _
theorem map_swp (f : α → β) (l : List α) (i j : Nat) : swp (l.map f) i j = (swp l i j).map f := by
  unfold swp
  simp only [List.getElem?_map]
  cases l[i]? <;> cases l[j]? <;> simp [List.map_set]
theorem map_less (f : α → β) (lt : β → β → Bool) (l : List α) (i j : Nat) : less lt (l.map f) i j = less (fun x y => lt (f x) (f y)) l i j := by
  unfold less
  simp only [List.getElem?_map]
  cases l[i]? <;> cases l[j]? <;> simp
theorem getElem?_swp {l : List α} {i j : Nat} {x y : α} (hx : l[i]? = some x) (hy : l[j]? = some y) : swp l i j = (l.set i y).set j x := by unfold swp; rw [hx, hy]
theorem less_of {lt : α → α → Bool} {l : List α} {i j : Nat} {x y : α} (hx : l[i]? = some x) (hy : l[j]? = some y) : less lt l i j = lt x y := by unfold less; rw [hx, hy]
theorem perm_swR (a b : Nat) : ∀ (n i : Nat) (l : List α), (swR a b n i l).Perm l
  | 0, _, _ => .refl _
  | n + 1, i, l => (perm_swR a b n (i + 1) _).trans (perm_swp l _ _)
theorem map_swR (f : α → β) (a b : Nat) : ∀ (n i : Nat) (l : List α), swR a b n i (l.map f) = (swR a b n i l).map f
  | 0, _, _ => rfl
  | n + 1, i, l => by rw [swR, map_swp, map_swR f a b n]; rfl
theorem perm_rot (m : Nat) : ∀ (k i j : Nat) (l : List α), (rot m k i j l).Perm l
  | 0, _, _, _ => .refl _
  | k + 1, i, j, l => by
    unfold rot
    split
    · exact perm_swR ..
    · split
      · exact (perm_rot m k _ _ _).trans (perm_swR ..)
      · exact (perm_rot m k _ _ _).trans (perm_swR ..)
theorem map_rot (f : α → β) (m : Nat) : ∀ (k i j : Nat) (l : List α), rot m k i j (l.map f) = (rot m k i j l).map f
  | 0, _, _, _ => rfl
  | k + 1, i, j, l => by
    unfold rot
    split
    · exact map_swR ..
    · split
      · rw [map_swR, map_rot f m k]
      · rw [map_swR, map_rot f m k]
theorem perm_insI (lt : α → α → Bool) (a : Nat) : ∀ (j : Nat) (l : List α), (insI lt a j l).Perm l
  | 0, _ => .refl _
  | j + 1, l => by
    unfold insI
    repeat' split
    · exact (perm_insI lt a j _).trans (perm_swp ..)
    · exact .refl _
    · exact .refl _
theorem map_insI (f : α → β) (lt : β → β → Bool) (a : Nat) : ∀ (j : Nat) (l : List α), insI lt a j (l.map f) = (insI (fun x y => lt (f x) (f y)) a j l).map f
  | 0, _ => rfl
  | j + 1, l => by
    unfold insI
    rw [map_less]
    repeat' split
    · rw [map_swp, map_insI f lt a j]
    · rfl
    · rfl
theorem perm_insO (lt : α → α → Bool) (a : Nat) : ∀ (n i : Nat) (l : List α), (insO lt a n i l).Perm l
  | 0, _, _ => .refl _
  | n + 1, i, _ => (perm_insO lt a n (i + 1) _).trans (perm_insI ..)
theorem map_insO (f : α → β) (lt : β → β → Bool) (a : Nat) : ∀ (n i : Nat) (l : List α), insO lt a n i (l.map f) = (insO (fun x y => lt (f x) (f y)) a n i l).map f
  | 0, _, _ => rfl
  | n + 1, i, l => by rw [insO, map_insI, map_insO f lt a n]; rfl
theorem perm_upR : ∀ (n k : Nat) (l : List α), (upR n k l).Perm l
  | 0, _, _ => .refl _
  | n + 1, k, l => (perm_upR n (k + 1) _).trans (perm_swp ..)
theorem map_upR (f : α → β) : ∀ (n k : Nat) (l : List α), upR n k (l.map f) = (upR n k l).map f
  | 0, _, _ => rfl
  | n + 1, k, l => by rw [upR, map_swp, map_upR f n]; rfl
theorem perm_dnR : ∀ (n k : Nat) (l : List α), (dnR n k l).Perm l
  | 0, _, _ => .refl _
  | n + 1, k, l => (perm_dnR n (k - 1) _).trans (perm_swp ..)
theorem map_dnR (f : α → β) : ∀ (n k : Nat) (l : List α), dnR n k (l.map f) = (dnR n k l).map f
  | 0, _, _ => rfl
  | n + 1, k, l => by rw [dnR, map_swp, map_dnR f n]; rfl
theorem perm_turn (s m e : Nat) (l : List α) : (turn s m e l).Perm l := by
  unfold turn
  repeat' split
  · exact perm_rot ..
  · exact .refl _
  · exact .refl _
theorem map_turn (f : α → β) (s m e : Nat) (l : List α) : turn s m e (l.map f) = (turn s m e l).map f := by
  unfold turn
  repeat' split
  · exact map_rot ..
  · rfl
  · rfl
theorem map_cut (f : α → β) (lt : β → β → Bool) (a m b : Nat) (l : List α) : cut lt a m b (l.map f) = cut (fun x y => lt (f x) (f y)) a m b l := by
  unfold cut
  simp only [map_less]
theorem perm_sym (lt : α → α → Bool) : ∀ (k a m b : Nat) (l : List α), (sym lt k a m b l).Perm l
  | 0, _, _, _, _ => .refl _
  | k + 1, a, m, b, l => by
    unfold sym
    split
    · exact perm_upR ..
    · split
      · exact perm_dnR ..
      · extract_lets s mid e l1 l2
        have h1 : l1.Perm l := perm_turn ..
        have h2 : l2.Perm l := by
          show List.Perm (if a < s then (if s < mid then sym lt k a s mid l1 else l1) else l1) l
          repeat' split
          · exact (perm_sym lt k _ _ _ _).trans h1
          · exact h1
          · exact h1
        repeat' split
        · exact (perm_sym lt k _ _ _ _).trans h2
        · exact h2
        · exact h2
theorem map_sym (f : α → β) (lt : β → β → Bool) : ∀ (k a m b : Nat) (l : List α), sym lt k a m b (l.map f) = (sym (fun x y => lt (f x) (f y)) k a m b l).map f
  | 0, _, _, _, _ => rfl
  | k + 1, a, m, b, l => by
    unfold sym
    simp only [map_less, map_upR, map_dnR, map_cut, map_turn]
    split
    · rfl
    · split
      · rfl
      · repeat' split
        all_goals simp only [map_sym f lt k]
theorem perm_blks (lt : α → α → Bool) (n : Nat) : ∀ (k a : Nat) (l : List α), (blks lt n k a l).Perm l
  | 0, _, _ => .refl _
  | k + 1, a, l => by
    unfold blks
    split
    · exact (perm_blks lt n k _ _).trans (perm_insO ..)
    · exact perm_insO ..
theorem map_blks (f : α → β) (lt : β → β → Bool) (n : Nat) : ∀ (k a : Nat) (l : List α), blks lt n k a (l.map f) = (blks (fun x y => lt (f x) (f y)) n k a l).map f
  | 0, _, _ => rfl
  | k + 1, a, l => by
    unfold blks insS
    split
    · rw [map_insO, map_blks f lt n k]
    · rw [map_insO]
theorem perm_mrg (lt : α → α → Bool) (n z : Nat) : ∀ (k a : Nat) (l : List α), (mrg lt n z k a l).Perm l
  | 0, _, _ => .refl _
  | k + 1, a, l => by
    unfold mrg
    repeat' split
    · exact (perm_mrg lt n z k _ _).trans (perm_sym ..)
    · exact perm_sym ..
    · exact .refl _
theorem map_mrg (f : α → β) (lt : β → β → Bool) (n z : Nat) : ∀ (k a : Nat) (l : List α), mrg lt n z k a (l.map f) = (mrg (fun x y => lt (f x) (f y)) n z k a l).map f
  | 0, _, _ => rfl
  | k + 1, a, l => by
    unfold mrg
    repeat' split
    · rw [map_sym, map_mrg f lt n z k]
    · rw [map_sym]
    · rfl
theorem perm_mrgs (lt : α → α → Bool) (n : Nat) : ∀ (k z : Nat) (l : List α), (mrgs lt n k z l).Perm l
  | 0, _, _ => .refl _
  | k + 1, z, l => by
    unfold mrgs
    split
    · exact (perm_mrgs lt n k _ _).trans (perm_mrg ..)
    · exact .refl _
theorem map_mrgs (f : α → β) (lt : β → β → Bool) (n : Nat) : ∀ (k z : Nat) (l : List α), mrgs lt n k z (l.map f) = (mrgs (fun x y => lt (f x) (f y)) n k z l).map f
  | 0, _, _ => rfl
  | k + 1, z, l => by
    unfold mrgs
    split
    · rw [map_mrg, map_mrgs f lt n k]
    · rfl
theorem perm_stable (lt : α → α → Bool) (l : List α) : (stable lt l).Perm l := (perm_mrgs ..).trans (perm_blks ..)
theorem map_stable (f : α → β) (lt : β → β → Bool) (l : List α) : stable lt (l.map f) = (stable (fun x y => lt (f x) (f y)) l).map f := by
  unfold stable
  rw [List.length_map, map_blks, map_mrgs]
theorem insI_stop (lt : α → α → Bool) (a j : Nat) (l : List α) (h : j ≤ a) : insI lt a j l = l := by
  cases j with
  | zero => rfl
  | succ j => unfold insI; rw [if_neg (by omega)]
end Go.So
