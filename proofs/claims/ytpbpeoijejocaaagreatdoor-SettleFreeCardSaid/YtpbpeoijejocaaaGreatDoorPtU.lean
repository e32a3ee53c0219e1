/- slices.Reverse at a row of steps that the call owns; such a row appended to another one. -/
import Derived.Test.YtpbpeoijejocaaaGreatDoorPtR
import Derived.BigRegion
namespace Go.Sc
open Go.RowKit Go.Proofs

/-- Block g, of room for cap pairs, holds the pairs l. -/
structure SRow (w : World) (g cap : Nat) (l : List St) : Prop where
  len : l.length ≤ cap
  max : cap ≤ maxLen
  blk : ∃ cur, w.heap[g]? = some (.cells cur 102 (0, 0)) ∧ cur.size = cap * 3 ∧ ∀ i p, l[i]? = some p → ∀ j u, p.cells[j]? = some u → cur[i * 3 + j]? = some u
theorem SRow.range {w : World} {g cap : Nat} {l : List St} (h : SRow w g cap l) {i : Nat} {p : St} (hp : l[i]? = some p) : w.rangeAt g (i * 3) p.cells := fun j u hu => by
  obtain ⟨cur, h1, _, h3⟩ := h.blk
  rw [cell_of_row w g (i * 3 + j) cur 102 (0, 0) h1]
  exact h3 i p hp j u hu
theorem SRow.there {w : World} {g cap : Nat} {l : List St} (h : SRow w g cap l) {i : Nat} (hi : i < l.length) : w.there g (i * 3) 3 := fun j hj => by
  obtain ⟨cur, h1, h2, _⟩ := h.blk
  have hl := h.len
  rw [cell_of_row w g (i * 3 + j) cur 102 (0, 0) h1]
  refine ⟨by rw [Array.getElem?_eq_getElem (by omega)]; rfl, ?_⟩
  unfold World.frozen?
  simp [h1]
theorem SRow.lt {w : World} {g cap : Nat} {l : List St} (h : SRow w g cap l) : g < w.heap.size := by
  obtain ⟨cur, h1, _⟩ := h.blk
  exact (Array.getElem?_eq_some_iff.1 h1).1
theorem SRow.keep {w w' : World} {g cap : Nat} {l : List St} (h : SRow w g cap l) (hb : Below w.heap.size w w') : SRow w' g cap l := by
  obtain ⟨cur, h1, h2⟩ := h.blk
  exact ⟨h.len, h.max, cur, (hb.block g h.lt).trans h1, h2⟩
theorem heap_setCells (g : Nat) (e : TypeId) (fr : Nat × Nat) : ∀ (vs : List Value) (o : Nat) (w : World) (cur : Array Value), w.heap[g]? = some (.cells cur e fr) →
    ∃ cur', (w.setCells g o vs).heap[g]? = some (.cells cur' e fr) ∧ cur'.size = cur.size ∧ (∀ k, k < o ∨ o + vs.length ≤ k → cur'[k]? = cur[k]?) ∧ ∀ k u, o + k < cur.size → vs[k]? = some u → cur'[o + k]? = some u
  | [], o, w, cur, h => ⟨cur, h, rfl, fun _ _ => rfl, fun k u _ hu => by simp at hu⟩
  | v :: r, o, w, cur, h => by
    have hg : g < w.heap.size := (Array.getElem?_eq_some_iff.1 h).1
    have h1 : (w.setCell ⟨g, o, none⟩ v).heap[g]? = some (.cells (cur.setIfInBounds o v) e fr) := by
      unfold World.setCell
      rw [Array.getElem?_modify]
      simp [h]
    obtain ⟨cur', a, b, c, d⟩ := heap_setCells g e fr r (o + 1) _ _ h1
    refine ⟨cur', a, by rw [b]; simp, fun k hk => ?_, fun k u hk hu => ?_⟩
    · rw [c k (by simp at hk; omega), Array.getElem?_setIfInBounds_ne (by simp at hk; omega)]
    · cases k with
      | zero =>
        simp at hu
        subst hu
        rw [c (o + 0) (by omega), Nat.add_zero, Array.getElem?_setIfInBounds_self_of_lt (by omega)]
      | succ k =>
        rw [show o + (k + 1) = o + 1 + k by omega]
        exact d k u (by simp; omega) (by simpa using hu)
theorem cells_set {α : Type} (f : α → List Value) (n : Nat) (hf : ∀ p, (f p).length = n) {l : List α} {cur cur' : Array Value} {i : Nat} (hi : i < l.length) (hc : l.length * n ≤ cur.size) (p : α)
    (h3 : ∀ (k : Nat) (q : α), l[k]? = some q → ∀ (j : Nat) (u : Value), (f q)[j]? = some u → cur[k * n + j]? = some u)
    (c : ∀ k : Nat, k < i * n ∨ i * n + n ≤ k → cur'[k]? = cur[k]?) (d : ∀ (k : Nat) (u : Value), i * n + k < cur.size → (f p)[k]? = some u → cur'[i * n + k]? = some u)
    (k : Nat) (q : α) (hq : (l.set i p)[k]? = some q) (j : Nat) (u : Value) (hu : (f q)[j]? = some u) : cur'[k * n + j]? = some u := by
  have hj : j < n := hf q ▸ (List.getElem?_eq_some_iff.1 hu).1
  rcases Nat.lt_trichotomy k i with hk | hk | hk
  · rw [List.getElem?_set_ne (by omega)] at hq
    have h1 : (k + 1) * n ≤ i * n := Nat.mul_le_mul_right n hk
    rw [Nat.add_mul, Nat.one_mul] at h1
    rw [c (k * n + j) (Or.inl (by omega))]
    exact h3 k q hq j u hu
  · cases hk
    rw [List.getElem?_set_self hi] at hq
    cases hq
    have h1 : (i + 1) * n ≤ l.length * n := Nat.mul_le_mul_right n hi
    rw [Nat.add_mul, Nat.one_mul] at h1
    exact d j u (by omega) hu
  · rw [List.getElem?_set_ne (by omega)] at hq
    have h1 : (i + 1) * n ≤ k * n := Nat.mul_le_mul_right n hk
    rw [Nat.add_mul, Nat.one_mul] at h1
    rw [c (k * n + j) (Or.inr (by omega))]
    exact h3 k q hq j u hu
theorem SRow.store {w : World} {g cap : Nat} {l : List St} (h : SRow w g cap l) {i : Nat} (hi : i < l.length) (p : St) : SRow (w.setCells g (i * 3) p.cells) g cap (l.set i p) := by
  obtain ⟨cur, h1, h2, h3⟩ := h.blk
  obtain ⟨cur', a, b, c, d⟩ := heap_setCells g 102 (0, 0) p.cells (i * 3) w cur h1
  have hl : l.length * 3 ≤ cur.size := by rw [h2]; exact Nat.mul_le_mul_right 3 h.len
  exact { len := by rw [List.length_set]; exact h.len, max := h.max, blk := ⟨cur', a, b.trans h2, cells_set St.cells 3 St.len hi hl p h3 c d⟩ }
/-- Only block g, and what is new, has turned. -/
structure Just (g : Nat) (w w' : World) : Prop where
  os : w'.os = w.os
  tape : w'.tape = w.tape
  output : w'.output = w.output
  size : w.heap.size ≤ w'.heap.size
  block : ∀ k, k < w.heap.size → k ≠ g → w'.heap[k]? = w.heap[k]?
theorem Just.refl (g : Nat) (w : World) : Just g w w := ⟨rfl, rfl, rfl, Nat.le_refl _, fun _ _ _ => rfl⟩
theorem Just.trans {g : Nat} {a b c : World} (h : Just g a b) (k : Just g b c) : Just g a c :=
  ⟨k.os.trans h.os, k.tape.trans h.tape, k.output.trans h.output, Nat.le_trans h.size k.size, fun i hi hg => (k.block i (Nat.lt_of_lt_of_le hi h.size) hg).trans (h.block i hi hg)⟩
theorem Just.of {g : Nat} {w w' : World} (h : Below w.heap.size w w') : Just g w w' := ⟨h.os, h.tape, h.output, h.size, fun k hk _ => h.block k hk⟩
theorem Just.drew {g : Nat} {a w : World} (h : Just g a w) : Just g a w.drew := ⟨h.os, h.tape, h.output, h.size, h.block⟩
theorem Just.setCells {g : Nat} {a w : World} (h : Just g a w) (vs : List Value) (o : Nat) : Just g a (w.setCells g o vs) := by
  induction vs generalizing o w with
  | nil => exact h
  | cons v r ih => exact ih (w := w.setCell ⟨g, o, none⟩ v) ⟨h.os, h.tape, h.output, by simpa [World.setCell] using h.size, fun k hk hg => (Below.heap_setCell w ⟨g, o, none⟩ v k hg).trans (h.block k hk hg)⟩ (o + 1)
/-- What lies below n, if g does not. -/
theorem Just.below {g n : Nat} {w0 w w' : World} (h : Just g w w') (hw : Below n w0 w) (hn : n ≤ g) (hs : n ≤ w.heap.size) : Below n w0 w' :=
  hw.trans ⟨h.os, h.tape, h.output, h.size, fun k hk => h.block k (by omega) (by omega)⟩
/-- What an exchange of the elements at x and y reads and writes, at a program of which this alone is known, and at elements of k cells. -/
structure SwapS (P : Program) (k : Nat) (w : World) (g x y : Nat) (cx cy : List Value) : Prop where
  t3 : P.underlying 3 = some (TypeDesc.int IntKind.i64)
  a3 : ∀ w, (isAgg 3).run P w = .ok false w
  z3 : ∀ w, (Go.sizeOf 3).run P w = .ok 1 w
  t23 : P.underlying 91 = some (TypeDesc.slice 102)
  a23 : ∀ w, (isAgg 91).run P w = .ok false w
  z23 : ∀ w, (Go.sizeOf 91).run P w = .ok 1 w
  a43 : ∀ w, (isAgg 102).run P w = .ok true w
  z43 : ∀ w, (Go.sizeOf 102).run P w = .ok k w
  kx : cx.length = k
  ky : cy.length = k
  l1 : Sem.run P (loadCellsFrom ⟨g, x * k, none⟩ 0 k #[]) w = .ok cx.toArray w
  l2 : Sem.run P (loadCellsFrom ⟨g, y * k, none⟩ 0 k #[]) w = .ok cy.toArray w
  s1 : Sem.run P (storeCells ⟨g, x * k, none⟩ cy 0) w = .ok () (w.setCells g (x * k) cy)
  s2 : Sem.run P (storeCells ⟨g, y * k, none⟩ cx 0) (w.setCells g (x * k) cy) = .ok () ((w.setCells g (x * k) cy).setCells g (y * k) cx)
theorem SRow.loads {w : World} {g cap : Nat} {l : List St} (h : SRow w g cap l) {i : Nat} {p : St} (hp : l[i]? = some p) :
    Sem.run Tryz.prog (loadCellsFrom ⟨g, i * 3, none⟩ 0 3 #[]) w = .ok p.cells.toArray w :=
  run_loadCells_list (P := Tryz.prog) (w := w) ⟨g, i * 3, none⟩ p.cells fun j v hv => by rw [Addr.add_mid]; exact h.range hp j v hv
theorem SRow.stores {w : World} {g cap : Nat} {l : List St} (h : SRow w g cap l) {i : Nat} (hi : i < l.length) (p : St) :
    Sem.run Tryz.prog (storeCells ⟨g, i * 3, none⟩ p.cells 0) w = .ok () (w.setCells g (i * 3) p.cells) := by
  have := run_storeCells_cells (P := Tryz.prog) g (i * 3) p.cells 0 w (fun j hj => by simpa using (h.there hi j hj).1) (fun j hj => by simpa using (h.there hi j hj).2) (one_st p)
  rwa [Nat.add_zero] at this
/-- The exchange of two elements of a row, and what lies there behind it. -/
theorem SRow.swaps {w : World} {g cap : Nat} {l : List St} (h : SRow w g cap l) {i j : Nat} {p q : St} (hp : l[i]? = some p) (hq : l[j]? = some q) {k : Nat} (hk : k = 3) :
    SwapS Tryz.prog k w g i j p.cells q.cells ∧ SRow ((w.setCells g (i * k) q.cells).setCells g (j * k) p.cells) g cap ((l.set i q).set j p) := by
  subst hk
  have hi : i < l.length := (List.getElem?_eq_some_iff.1 hp).1
  have hj : j < l.length := (List.getElem?_eq_some_iff.1 hq).1
  have r1 := h.store hi q
  have hj' : j < (l.set i q).length := by rw [List.length_set]; exact hj
  exact ⟨⟨Tryz.underlying3, Tryz.isAgg3, Tryz.sizeOf3, Tryz.underlying91, Tryz.isAgg91, Tryz.sizeOf91, Tryz.isAgg102, Tryz.sizeOf102, rfl, rfl, h.loads hp, h.loads hq, h.stores hi q, r1.stores hj' p⟩, r1.store hj' p⟩
theorem SRow.drew {w : World} {g cap : Nat} {l : List St} (h : SRow w g cap l) : SRow w.drew g cap l := h.keep (Below.refl _ _).drew
/-- The list behind m rounds. -/
def RevTo (l lm : List St) (m : Nat) : Prop := lm.length = l.length ∧ ∀ q : Nat, lm[q]? = if q < m ∨ l.length ≤ q + m then l.reverse[q]? else l[q]?
theorem rev_zero (l : List St) : RevTo l l 0 := by
  refine ⟨rfl, fun q => ?_⟩
  by_cases e : l.length ≤ q
  · rw [if_pos (.inr (by omega)), List.getElem?_eq_none e, List.getElem?_eq_none (by simpa using e)]
  · rw [if_neg (by omega)]
theorem rev_step {l lm : List St} {m : Nat} (h : RevTo l lm m) (hm : m + m + 1 < l.length) {x y : St} (hx : lm[m]? = some x) (hy : lm[l.length - 1 - m]? = some y) : RevTo l ((lm.set m y).set (l.length - 1 - m) x) (m + 1) := by
  obtain ⟨h1, h2⟩ := h
  have ex : l[m]? = some x := by rw [h2 m, if_neg (by omega)] at hx; exact hx
  have ey : l[l.length - 1 - m]? = some y := by rw [h2, if_neg (by omega)] at hy; exact hy
  refine ⟨by simp [h1], fun q => ?_⟩
  rcases Nat.lt_or_ge q l.length with hq | hq
  · by_cases e1 : q = l.length - 1 - m
    · rw [if_pos (by omega), e1, List.getElem?_set_self (by simp; omega), List.getElem?_reverse (by omega), show l.length - 1 - (l.length - 1 - m) = m by omega, ex]
    · rw [List.getElem?_set_ne (fun e => e1 e.symm)]
      by_cases e2 : q = m
      · rw [if_pos (by omega), e2, List.getElem?_set_self (by omega), List.getElem?_reverse (by omega), ey]
      · rw [List.getElem?_set_ne (fun e => e2 e.symm), h2 q]
        by_cases e3 : q < m ∨ l.length ≤ q + m
        · rw [if_pos e3, if_pos (by omega)]
        · rw [if_neg e3, if_neg (by omega)]
  · rw [if_pos (by omega), List.getElem?_eq_none (by simp; omega), List.getElem?_eq_none (by simp; omega)]
theorem rev_done {l lm : List St} {m : Nat} (h : RevTo l lm m) (hm : l.length ≤ m + m + 1) : lm = l.reverse := by
  obtain ⟨h1, h2⟩ := h
  apply List.ext_getElem?
  intro q
  rw [h2 q]
  by_cases e : q < m ∨ l.length ≤ q + m
  · rw [if_pos e]
  · rw [if_neg e, List.getElem?_reverse (by omega), show l.length - 1 - q = q by omega]
set_option maxRecDepth 100000 in
set_option maxHeartbeats 2000000 in
theorem rev_any (g cap : Nat) (l : List St) (w : World) (h : SRow w g cap l) :
    Calls Tryz.prog 63 #[.slice (some ⟨g, 0, none⟩) l.length cap] w fun e w' => e = .returned (.tuple #[]) ∧ SRow w' g cap l.reverse ∧ Just g w w' := by
  have HN : Hid (SRow w g cap l) := h
  have hmax : l.length ≤ maxLen := Nat.le_trans h.len h.max
  unfold maxLen at hmax
  clear h
  go_enter Tryz.func63, Tryz.ntmps63
  go_wp2
  go_loopw [2, 3] (fun v u wr => ∃ (m : Nat) (lm : List St), m ≤ l.length ∧ v = .int .i64 m ∧ u = .int .i64 ((l.length : Int) - 1 - m) ∧ lm.length = l.length ∧ Hid (RevTo l lm m) ∧ Hid (SRow wr g cap lm) ∧ Hid (Just g w wr)) (fun v _ _ => l.length + 1 - (intOf v).toNat)
  case atStart => exact ⟨0, l, by omega, rfl, by simp, rfl, rev_zero l, HN.out, Just.refl _ _⟩
  case round =>
    obtain ⟨m, lm, hm, rfl, rfl, hlen, HS, HR, HJ⟩ := hrel
    by_cases hlt : m + m + 1 < l.length
    · obtain ⟨x, hx⟩ := get_of_lt (show m < lm.length by omega)
      obtain ⟨y, hy⟩ := get_of_lt (show l.length - 1 - m < lm.length by omega)
      have HX : Hid (lm[m]? = some x) := hx
      have HY : Hid (lm[l.length - 1 - m]? = some y) := hy
      have hd : decide ((m : Int) < (l.length : Int) - 1 - (m : Int)) = true := by simp; omega
      go_wp2
      obtain ⟨k, hk⟩ : ∃ k, k = 3 := ⟨_, rfl⟩
      obtain ⟨hsw, hr2⟩ := HR.out.drew.swaps hx hy hk
      clear hx hy hd
      have HR2 := Lib.hid hr2
      clear hr2
      have HJ2 : Hid (Just g w ((wr.drew.setCells g (m * k) y.cells).setCells g ((l.length - 1 - m) * k) x.cells)) := (HJ.out.drew.setCells _ _).setCells _ _
      have q3 : (l.length : Int) - 1 - (m : Int) < (l.length : Int) := by omega
      have q5 : (0 : Int) ≤ (m : Int) := by omega
      have q4 : (m : Int) < (l.length : Int) := by omega
      have q6 : (0 : Int) ≤ (l.length : Int) - 1 - (m : Int) := by omega
      have q8 : ((l.length : Int) - 1 - (m : Int)).toNat = l.length - 1 - m := by omega
      have HK := Lib.hid hk
      clear hk
      have HST := Lib.hid (rev_step HS.out hlt HX.out HY.out)
      generalize x.cells = cx at *
      generalize y.cells = cy at *
      generalize hP : Tryz.prog = P at *
      obtain ⟨t3, a3, z3, t23, a23, z23, a43, z43, kx, ky, l1, l2, s1, s2⟩ := hsw
      go_region
      subst hP
      clear t3 a3 z3 t23 a23 z23 a43 z43 kx ky l1 l2 s1 s2 q3 q4 q5 q6 q8
      generalize World.setCells _ _ _ _ = W at *
      go_wp2
      go_roundw
      case rel =>
        exact ⟨m + 1, _, by omega, by go_num, by congr 1; omega, by simp [hlen], HST, HR2.out, HJ2.out⟩
      case measure => simp [intOf]; omega
    · have hd : decide ((m : Int) < (l.length : Int) - 1 - (m : Int)) = false := by simp; omega
      go_wp2
      go_end0
      exact ⟨rfl, rev_done HS.out (by omega) ▸ HR.out, HJ.out⟩
end Go.Sc

namespace Go.Sc
open Go.RowKit Go.Proofs

theorem flat_lenS (l : List St) : (l.flatMap St.cells).length = l.length * 3 := by
  induction l with
  | nil => rfl
  | cons p l ih => rw [List.flatMap_cons, List.length_append, ih, List.length_cons, St.len]; omega
theorem SRow.own {w : World} {g cap base : Nat} {l : List St} (h : SRow w g cap l) (hb : base ≤ g) : OwnS w base (.slice (some ⟨g, 0, none⟩) l.length cap) l := by
  obtain ⟨cur, h1, h2, h3⟩ := h.blk
  have hl := h.len
  refine ⟨flat_lenS l, .inr ⟨g, cap, cur, rfl, hb, h1, h.len, h.max, h2, ?_⟩⟩
  refine List.ext_getElem? fun k => ?_
  rw [List.getElem?_take]
  by_cases hk : k < l.length * 3
  · rw [if_pos hk]
    obtain ⟨p, hp⟩ := get_of_lt (show k / 3 < l.length by omega)
    obtain ⟨u, hu⟩ : ∃ u, p.cells[k % 3]? = some u := ⟨_, List.getElem?_eq_getElem (by rw [St.len]; omega)⟩
    have e1 := h3 _ p hp _ u hu
    have e2 := flat_at (size := 3) St.len l (k / 3) (k % 3) p u hp hu
    rw [show k / 3 * 3 + k % 3 = k by omega] at e1 e2
    rw [e2, ← e1, Array.getElem?_toList]
  · rw [if_neg hk, List.getElem?_eq_none (by rw [flat_lenS]; omega)]
theorem OwnS.cases {w : World} {base : Nat} {v : Value} {l : List St} (h : OwnS w base v l) : (v = .slice none 0 0 ∧ l = []) ∨ ∃ g cap, v = .slice (some ⟨g, 0, none⟩) l.length cap ∧ base ≤ g ∧ SRow w g cap l := by
  rcases h.2 with ⟨hv, h0⟩ | ⟨g, cap, cur, hv, hb, hg, h1, h2, h3, h4⟩
  · exact .inl ⟨hv, List.length_eq_zero_iff.1 h0⟩
  · refine .inr ⟨g, cap, hv, hb, h1, h2, cur, hg, h3, fun i p hp j u hu => ?_⟩
    have e2 := flat_at (size := 3) St.len l i j p u hp hu
    have hi : i < l.length := (List.getElem?_eq_some_iff.1 hp).1
    have hj : j < 3 := by rw [← St.len p]; exact (List.getElem?_eq_some_iff.1 hu).1
    rw [← h4, List.getElem?_take, if_pos (by omega), Array.getElem?_toList] at e2
    exact e2

set_option maxRecDepth 100000 in
set_option maxHeartbeats 1000000 in
theorem rev_nil (w : World) : Calls Tryz.prog 63 #[.slice none 0 0] w fun e w' => e = .returned (.tuple #[]) ∧ w' = w := by
  go_enter Tryz.func63, Tryz.ntmps63
  go_wp2
  refine wp_loop_rounds 1 ?_
  rw [rounds_succ]
  go_wp2
  go_end0
  exact ⟨rfl, rfl⟩
theorem Just.grown {g m c : Nat} {w w' : World} (h : Just g w w') : w.grownBy w' (Value.slice (some ⟨g, 0, none⟩) m c).ownBlock :=
  ⟨h.os, h.tape, h.output, h.size, fun k hk hg => h.block k hk fun e => hg (by rw [e]; rfl)⟩
/-- slices.Reverse at a row that the call owns. -/
theorem rev_own {w : World} {base : Nat} {v : Value} {l : List St} (h : OwnS w base v l) :
    Calls Tryz.prog 63 #[v] w fun e w' => e = .returned (.tuple #[]) ∧ OwnS w' base v l.reverse ∧ w.grownBy w' v.ownBlock := by
  rcases h.cases with ⟨rfl, rfl⟩ | ⟨g, cap, rfl, hb, hp⟩
  · refine (rev_nil w).mono fun x w' ⟨hx, hw⟩ => ?_
    subst hw
    exact ⟨hx, h, World.grownBy.refl _ _⟩
  · refine (rev_any g cap l w hp).mono fun x w' ⟨hx, hr, hj⟩ => ⟨hx, ?_, hj.grown⟩
    have := hr.own hb
    rwa [List.length_reverse] at this
/-- A row that the call owns appended to another one. -/
theorem app_rows (w : World) (base base2 : Nat) (ty : TypeId) (v v2 : Value) (l l2 : List St) (hown : OwnS w base v l) (hown2 : OwnS w base2 v2 l2) (hl : l.length + l2.length ≤ 10000) (hbase : base ≤ w.heap.size) :
    ∃ v' w', (Builtin.append_ #[91, 91] ty #[v, v2]).run Tryz.prog w = .ok v' w' ∧ OwnS w' base v' (l ++ l2) ∧ w.grownBy w' v.ownBlock := by
  obtain ⟨i0, hi0, hz0, hz1, hz2⟩ := infoS'
  rcases hown2.cases with ⟨rfl, rfl⟩ | ⟨g, cap, rfl, hb, hp⟩
  · refine ⟨v, w, ?_, by rw [List.append_nil]; exact hown, World.grownBy.refl _ _⟩
    rcases hown.2 with ⟨rfl, _⟩ | ⟨g, c, cur, rfl, _, _, h1, _⟩
    · simp [Builtin.append_, run_underlying Tryz.underlying91, Tryz.sizeOf102, Builtin.lenOf, Builtin.firstCells]
    · simp [Builtin.append_, run_underlying Tryz.underlying91, Tryz.sizeOf102, Builtin.lenOf, Builtin.firstCells, h1, storeCells]
  · obtain ⟨o, k, hv, hrow⟩ := RowAt.own (cells := St.cells) St.len hown2
    cases hv
    obtain ⟨v', w', hr, h2, h3, _, _⟩ := run_append_own_at (P := Tryz.prog) w base 91 ty 102 i0 (.agg #[.int .i64 0, .int .i64 0, .int .i64 0]) 3 24 Tryz.underlying91 hi0 hz0 hz1 hz2 rfl (by decide) v l.length (l.flatMap St.cells) hown ⟨g, 0, none⟩ l2.length cap (l2.flatMap St.cells) (flat_length St.len l2) (RowAt.news St.len (by decide) hrow) (flat_one one_st l2) (by unfold maxLen; omega) (by omega) hbase
    refine ⟨v', w', hr, ?_, h3⟩
    unfold OwnS
    rw [List.length_append, List.flatMap_append]
    exact h2
end Go.Sc
