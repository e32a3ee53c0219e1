/- edition.First: the first section in which two scores differ. -/
import Derived.Test.YtjpbfggfoahoeaaGreatDoorScZ
import Derived.Test.YtjpbfggfoahoeaaGreatDoorScS
import Derived.Shelf.Abstract
namespace Go.Sc
open Go.RowKit Go.Proofs
attribute [local go_sem] Oper.semAt_some

theorem parts_any (a b : Sc) (ya yb : Lay) (w : World) : Calls Tryz.prog 20 #[.agg (a.cells ya), .agg (b.cells yb)] w fun e w' =>
    e = .returned (.func (.func 47) #[] #[.pointer (some ⟨w.heap.size, 0, none⟩), .pointer (some ⟨w.heap.size + 1, 0, none⟩)]) ∧ w' = (w.alloc (.cells (a.cells ya) 26)).alloc (.cells (b.cells yb) 26) := by
  show Calls Tryz.prog 20 #[.agg #[.int .i64 a.v, .slice ya.o1 a.n.length ya.k1, .slice ya.o2 a.p.length ya.k2, .slice ya.o3 a.c.length ya.k3], .agg #[.int .i64 b.v, .slice yb.o1 b.n.length yb.k1, .slice yb.o2 b.p.length yb.k2, .slice yb.o3 b.c.length yb.k3]] w _
  go_enter Tryz.func20, Tryz.ntmps20
  go_wp2
  go_ret
  exact ⟨rfl, rfl⟩

/-- What First answers: its value and its error. -/
def FirstE (a b : Sc) (k er : Int) : Prop :=
  (¬ (validOk a ∧ validOk b) ∧ k = 0 ∧ er = 1) ∨
  (validOk a ∧ validOk b ∧ er = 0 ∧ ((k = -1 ∧ ∀ j : Nat, j ≤ max a.c.length b.c.length → partS a j = partS b j) ∨
    ∃ n : Nat, k = n ∧ n ≤ max a.c.length b.c.length ∧ partS a n ≠ partS b n ∧ ∀ j : Nat, j < n → partS a j = partS b j))
def EFirst (a b : Sc) (w : World) (e : Ending) (w' : World) : Prop := ∃ k er, FirstE a b k er ∧ e = .returned (.tuple #[.int .i64 k, .int .i64 er]) ∧ Below w.heap.size w w'
set_option maxRecDepth 100000 in
set_option maxHeartbeats 4000000 in
theorem efirst_bad (a b : Sc) (ya yb : Lay) (w : World) (ha : ScAt w a ya) (hb : ScAt w b yb) (hv : ¬ (validOk a ∧ validOk b)) : Calls Tryz.prog 8 #[.agg (a.cells ya), .agg (b.cells yb)] w (EFirst a b w) := by
  have HA := Lib.hid ha
  have HB := Lib.hid hb
  clear ha hb
  obtain ⟨V, N, P, C⟩ := a
  obtain ⟨o1, k1, o2, k2, o3, k3⟩ := ya
  obtain ⟨V', N', P', C'⟩ := b
  obtain ⟨o1', k1', o2', k2', o3', k3'⟩ := yb
  show Calls Tryz.prog 8 #[.agg #[.int .i64 V, .slice o1 N.length k1, .slice o2 P.length k2, .slice o3 C.length k3], .agg #[.int .i64 V', .slice o1' N'.length k1', .slice o2' P'.length k2', .slice o3' C'.length k3']] w _
  have hBx : Below w.heap.size w ((((w.alloc (.cells #[.int .i64 V, .slice o1 N.length k1, .slice o2 P.length k2, .slice o3 C.length k3] 26)).alloc (.cells #[.int .i64 V', .slice o1' N'.length k1', .slice o2' P'.length k2', .slice o3' C'.length k3'] 26)).alloc (.cells #[.int .i64 0] 3)).alloc (.cells #[.int .i64 0] 29)) :=
    ((((Below.refl _ w).alloc (Nat.le_refl _) _).alloc (by simp) _).alloc (by simp; omega) _).alloc (by simp; omega) _
  have HBx := Lib.hid hBx
  have HA1 := Lib.hid (HA.out.below hBx)
  have HB1 := Lib.hid (HB.out.below hBx)
  clear hBx
  by_cases va : validOk ⟨V, N, P, C⟩
  · have vb : ¬ validOk ⟨V', N', P', C'⟩ := fun h => hv ⟨va, h⟩
    have HV := Lib.hid hv
    have HVa := Lib.hid va
    have HVb := Lib.hid vb
    clear hv va vb
    go_enter Tryz.func8, Tryz.ntmps8
    go_wp2_with fail
    refine (valid_true HVa.out _ _ HA1.out).mono ?_
    rintro e w1 ⟨rfl, hb1⟩
    have c0 : w1.cell? ⟨w.heap.size + 1, 0, none⟩ = some (.int .i64 V') := ((bcell hb1).1 _ _ (by simp)).trans (by go_simp)
    have c1 : w1.cell? ⟨w.heap.size + 1, 1, none⟩ = some (.slice o1' N'.length k1') := ((bcell hb1).1 _ _ (by simp)).trans (by go_simp)
    have c2 : w1.cell? ⟨w.heap.size + 1, 2, none⟩ = some (.slice o2' P'.length k2') := ((bcell hb1).1 _ _ (by simp)).trans (by go_simp)
    have c3 : w1.cell? ⟨w.heap.size + 1, 3, none⟩ = some (.slice o3' C'.length k3') := ((bcell hb1).1 _ _ (by simp)).trans (by go_simp)
    have t2 : w1.cell? ⟨w.heap.size + 1 + 1, 0, none⟩ = some (.int .i64 0) := ((bcell hb1).1 _ _ (by simp)).trans (by go_simp)
    have t3 : w1.cell? ⟨w.heap.size + 1 + 1 + 1, 0, none⟩ = some (.int .i64 0) := ((bcell hb1).1 _ _ (by simp)).trans (by go_simp)
    have f2 : w1.frozen? ⟨w.heap.size + 1 + 1, 0, none⟩ = false := ((bcell hb1).2 _ _ (by simp)).trans (by go_simp)
    have f3 : w1.frozen? ⟨w.heap.size + 1 + 1 + 1, 0, none⟩ = false := ((bcell hb1).2 _ _ (by simp)).trans (by go_simp)
    have HBw1 := Lib.hid (HBx.out.trans (hb1.mono (by simp; omega)))
    have HB2 := Lib.hid (HB1.out.below hb1)
    have hs1 : w.heap.size + 4 ≤ w1.heap.size := by have := hb1.size; simpa using this
    clear hb1 HA1
    go_wp2_with fail
    refine (valid_false HVb.out _ _ HB2.out).mono ?_
    rintro e w2 ⟨rfl, hb2⟩
    have t2' : w2.cell? ⟨w.heap.size + 1 + 1, 0, none⟩ = some (.int .i64 0) := ((bcell hb2).1 _ _ (by omega)).trans t2
    have t3' : w2.cell? ⟨w.heap.size + 1 + 1 + 1, 0, none⟩ = some (.int .i64 0) := ((bcell hb2).1 _ _ (by omega)).trans t3
    have f2' : w2.frozen? ⟨w.heap.size + 1 + 1, 0, none⟩ = false := ((bcell hb2).2 _ _ (by omega)).trans f2
    have f3' : w2.frozen? ⟨w.heap.size + 1 + 1 + 1, 0, none⟩ = false := ((bcell hb2).2 _ _ (by omega)).trans f3
    have HBw2 := Lib.hid (HBw1.out.trans (hb2.mono (by omega)))
    clear hb2 c0 c1 c2 c3 t2 t3 f2 f3
    go_wp2_with fail
    exact bodyPost_ret (v := .tuple #[.int .i64 0, .int .i64 1]) (by simp [results, Tryz.results8, go_sem, t2', t3']) rfl ⟨0, 1, .inl ⟨HV.out, rfl, rfl⟩, rfl, (HBw2.out.setCell (p := ⟨w.heap.size + 1 + 1, 0, none⟩) (by simp; omega) _).setCell (p := ⟨w.heap.size + 1 + 1 + 1, 0, none⟩) (by simp; omega) _⟩
  · have HV := Lib.hid hv
    have HVa := Lib.hid va
    clear hv va
    go_enter Tryz.func8, Tryz.ntmps8
    go_wp2_with fail
    refine (valid_false HVa.out _ _ HA1.out).mono ?_
    rintro e w1 ⟨rfl, hb1⟩
    have t2 : w1.cell? ⟨w.heap.size + 1 + 1, 0, none⟩ = some (.int .i64 0) := ((bcell hb1).1 _ _ (by simp)).trans (by go_simp)
    have t3 : w1.cell? ⟨w.heap.size + 1 + 1 + 1, 0, none⟩ = some (.int .i64 0) := ((bcell hb1).1 _ _ (by simp)).trans (by go_simp)
    have f2 : w1.frozen? ⟨w.heap.size + 1 + 1, 0, none⟩ = false := ((bcell hb1).2 _ _ (by simp)).trans (by go_simp)
    have f3 : w1.frozen? ⟨w.heap.size + 1 + 1 + 1, 0, none⟩ = false := ((bcell hb1).2 _ _ (by simp)).trans (by go_simp)
    have HBw1 := Lib.hid (HBx.out.trans (hb1.mono (by simp; omega)))
    clear hb1 HA1
    go_wp2_with fail
    exact bodyPost_ret (v := .tuple #[.int .i64 0, .int .i64 1]) (by simp [results, Tryz.results8, go_sem, t2, t3]) rfl ⟨0, 1, .inl ⟨HV.out, rfl, rfl⟩, rfl, (HBw1.out.setCell (p := ⟨w.heap.size + 1 + 1, 0, none⟩) (by simp; omega) _).setCell (p := ⟨w.heap.size + 1 + 1 + 1, 0, none⟩) (by simp; omega) _⟩
theorem rangeAt_new (w : World) (cs : Array Value) (t : TypeId) : (w.alloc (.cells cs t)).rangeAt w.heap.size 0 cs.toList := fun j v hj => by
  rw [cell_of_row _ w.heap.size (0 + j) cs t (0, 0) (World.alloc_heap_new' w _)]
  simpa using hj
/-- Between two rounds of First. -/
def FI (w : World) (a b : Sc) (ya yb : Lay) (T T' K pa pb : Nat) (k : Nat) (A : World) : Prop :=
  A.cell? ⟨T, 0, none⟩ = some (.int .i64 0) ∧ A.frozen? ⟨T, 0, none⟩ = false ∧ A.cell? ⟨T', 0, none⟩ = some (.int .i64 0) ∧ A.frozen? ⟨T', 0, none⟩ = false ∧ A.cell? ⟨K, 0, none⟩ = some (.int .i64 k) ∧ A.frozen? ⟨K, 0, none⟩ = false ∧
  (A.rangeAt pa 0 (a.cells ya).toList ∧ A.rangeAt pb 0 (b.cells yb).toList ∧ pa < A.heap.size ∧ pb < A.heap.size) ∧ Below w.heap.size w A ∧ ∀ j : Nat, j < k → partS a j = partS b j
/-- Where a round has found a difference. -/
def FX (w : World) (a b : Sc) (T T' : Nat) (k : Nat) (A : World) : Prop :=
  A.cell? ⟨T, 0, none⟩ = some (.int .i64 k) ∧ A.cell? ⟨T', 0, none⟩ = some (.int .i64 0) ∧ Below w.heap.size w A ∧ (∀ j : Nat, j < k → partS a j = partS b j) ∧ partS a k ≠ partS b k
theorem FI.but {w : World} {a b : Sc} {ya yb : Lay} {T T' K pa pb k n : Nat} {A B : World} (h : FI w a b ya yb T T' K pa pb k A) (hb : But n A B) (hn : w.heap.size ≤ n) : FI w a b ya yb T T' K pa pb k B :=
  ⟨hb.cell h.1, (hb.frozen h.1).trans h.2.1, hb.cell h.2.2.1, (hb.frozen h.2.2.1).trans h.2.2.2.1, hb.cell h.2.2.2.2.1, (hb.frozen h.2.2.2.2.1).trans h.2.2.2.2.2.1,
    ⟨hb.rangeAt h.2.2.2.2.2.2.1.1, hb.rangeAt h.2.2.2.2.2.2.1.2.1, Nat.lt_of_lt_of_le h.2.2.2.2.2.2.1.2.2.1 hb.size, Nat.lt_of_lt_of_le h.2.2.2.2.2.2.1.2.2.2 hb.size⟩, hb.below h.2.2.2.2.2.2.2.1 (h.2.2.2.2.2.2.2.1.size) hn, h.2.2.2.2.2.2.2.2⟩
theorem FX.but {w : World} {a b : Sc} {T T' k n : Nat} {A B : World} (h : FX w a b T T' k A) (hb : But n A B) (hn : w.heap.size ≤ n) : FX w a b T T' k B :=
  ⟨hb.cell h.1, hb.cell h.2.1, hb.below h.2.2.1 h.2.2.1.size hn, h.2.2.2⟩
theorem FI.two {w : World} {a b : Sc} {ya yb : Lay} {T T' K pa pb k : Nat} {A : World} (h : FI w a b ya yb T T' K pa pb k A) (ha : ScAt w a ya) (hb : ScAt w b yb) : TwoAt A a b ya yb pa pb :=
  ⟨ha.below h.2.2.2.2.2.2.2.1, hb.below h.2.2.2.2.2.2.2.1, h.2.2.2.2.2.2.1⟩
theorem ScAt.but {n : Nat} {A B : World} {s : Sc} {y : Lay} (h : ScAt A s y) (hb : But n A B) : ScAt B s y := ⟨h.1.but hb, h.2.1.but hb, h.2.2.1.but hb, h.2.2.2⟩
def Lies2 (a b : Sc) (k : Nat) (x : Nat × Lay × Lay) (A : World) : Prop := x.1 = k ∧ ScAt A (partS a k) x.2.1 ∧ ScAt A (partS b k) x.2.2
abbrev encs2 (a b : Sc) (x : Nat × Lay × Lay) : Array Value := #[.agg ((partS a x.1).cells x.2.1), .agg ((partS b x.1).cells x.2.2)]
/-- The frame behind the assignment to the loop's variables. -/
abbrev fr8 (A1 A2 B1 B2 : Array Value) (H K X Y : Nat) : Act := { tmps := #[.agg A1, .agg A2, .pointer (some ⟨H, 0, none⟩), .pointer (some ⟨H + 1, 0, none⟩), .pointer (some ⟨H + 1 + 1, 0, none⟩), .pointer (some ⟨H + 1 + 1 + 1, 0, none⟩), .pointer (some ⟨K, 0, none⟩), .pointer (some ⟨X, 0, none⟩), .pointer (some ⟨Y, 0, none⟩), .agg A1, .bool true, .bool false, .bool false, .agg A2, .bool true, .bool false, .bool false, .agg A1, .agg A2, .func (.func 47) #[] #[.pointer (some ⟨K + 1, 0, none⟩), .pointer (some ⟨K + 1 + 1, 0, none⟩)], .agg B1, .agg B2, undef, undef, undef, undef, undef, undef, undef, undef, undef, undef, undef, undef, undef, undef, undef, undef, undef, undef, undef, undef, undef, undef, undef, undef, undef, undef, undef, undef, undef, undef, undef, undef], defers := [] }
def Mid2 (a b : Sc) (A1 A2 : Array Value) (H K : Nat) (k : Nat) (x : Nat × Lay × Lay) (a₁ : Act) (A : World) : Prop :=
  ∃ X Y, a₁ = fr8 A1 A2 ((partS a k).cells x.2.1) ((partS b k).cells x.2.2) H K X Y ∧ A.rangeAt X 0 ((partS a k).cells x.2.1).toList ∧ A.rangeAt Y 0 ((partS b k).cells x.2.2).toList ∧ ScAt A (partS a k) x.2.1 ∧ ScAt A (partS b k) x.2.2
theorem Mid2.but {a b : Sc} {A1 A2 : Array Value} {H K k n : Nat} {x : Nat × Lay × Lay} {a₁ : Act} {A B : World} (h : Mid2 a b A1 A2 H K k x a₁ A) (hb : But n A B) : Mid2 a b A1 A2 H K k x a₁ B := by
  obtain ⟨X, Y, h1, h2, h3, h4, h5⟩ := h
  exact ⟨X, Y, h1, hb.rangeAt h2, hb.rangeAt h3, h4.but hb, h5.but hb⟩
/-- The facts that a round of First reads. -/
structure BF (T T' K X Y k : Nat) (s1 s2 : Sc) (y1 y2 : Lay) (A : World) : Prop where
  t : A.cell? ⟨T, 0, none⟩ = some (.int .i64 0)
  tf : A.frozen? ⟨T, 0, none⟩ = false
  u : A.cell? ⟨T', 0, none⟩ = some (.int .i64 0)
  uf : A.frozen? ⟨T', 0, none⟩ = false
  k : A.cell? ⟨K, 0, none⟩ = some (.int .i64 k)
  kf : A.frozen? ⟨K, 0, none⟩ = false
  x : A.rangeAt X 0 (s1.cells y1).toList
  y : A.rangeAt Y 0 (s2.cells y2).toList
  p : ScAt A s1 y1
  q : ScAt A s2 y2
theorem rangeAt_le {A B : World} (hb : Below A.heap.size A B) {b o : Nat} {cs : List Value} (h : A.rangeAt b o cs) : B.rangeAt b o cs := fun j v hj =>
  (hb.cell (p := ⟨b, o + j, none⟩) (World.block_lt_of_cell? A _ (h j v hj))).trans (h j v hj)
theorem BF.below {T T' K X Y k : Nat} {s1 s2 : Sc} {y1 y2 : Lay} {A B : World} (h : BF T T' K X Y k s1 s2 y1 y2 A) (hb : Below A.heap.size A B) : BF T T' K X Y k s1 s2 y1 y2 B :=
  ⟨(hb.cell (World.block_lt_of_cell? A _ h.t)).trans h.t, (hb.frozen (World.block_lt_of_cell? A _ h.t)).trans h.tf, (hb.cell (World.block_lt_of_cell? A _ h.u)).trans h.u, (hb.frozen (World.block_lt_of_cell? A _ h.u)).trans h.uf,
    (hb.cell (World.block_lt_of_cell? A _ h.k)).trans h.k, (hb.frozen (World.block_lt_of_cell? A _ h.k)).trans h.kf, rangeAt_le hb h.x, rangeAt_le hb h.y, h.p.below hb, h.q.below hb⟩
theorem rangeAt_setCell {A : World} {b o : Nat} {cs : List Value} {a : Addr} {v : Value} (h : A.rangeAt b o cs) (hne : b ≠ a.block) : (A.setCell a v).rangeAt b o cs := fun j u hj =>
  (World.cell?_of_block (w := A) (Below.heap_setCell A a v b hne)).trans (h j u hj)
theorem eqN_yes {s1 s2 : List Nt} {o o' : Option Addr} {c c' : Nat} {w : World} (h : NotesAt w o s1) (h' : NotesAt w o' s2) (hl : s1.length ≤ 140737488351232) (he : s1 = s2) : Calls Tryz.prog 21 #[.slice o s1.length c, .slice o' s2.length c'] w (fun e w' => e = .returned (.bool true) ∧ Below w.heap.size w w') :=
  (equalN_any o o' s1 s2 c c' w h h' hl).mono (by rintro e w' ⟨b, hb, rfl, hB⟩; exact ⟨by rw [hb.2 he], hB⟩)
theorem eqN_no {s1 s2 : List Nt} {o o' : Option Addr} {c c' : Nat} {w : World} (h : NotesAt w o s1) (h' : NotesAt w o' s2) (hl : s1.length ≤ 140737488351232) (he : ¬ s1 = s2) : Calls Tryz.prog 21 #[.slice o s1.length c, .slice o' s2.length c'] w (fun e w' => e = .returned (.bool false) ∧ Below w.heap.size w w') :=
  (equalN_any o o' s1 s2 c c' w h h' hl).mono (by rintro e w' ⟨b, hb, rfl, hB⟩; cases b; exact ⟨rfl, hB⟩; exact absurd (hb.1 rfl) he)
theorem eqP_yes {s1 s2 : List Pr} {o o' : Option Addr} {c c' : Nat} {w : World} (h : PairsAt w o s1) (h' : PairsAt w o' s2) (hl : s1.length ≤ 140737488351232) (he : s1 = s2) : Calls Tryz.prog 22 #[.slice o s1.length c, .slice o' s2.length c'] w (fun e w' => e = .returned (.bool true) ∧ Below w.heap.size w w') :=
  (equalP_any o o' s1 s2 c c' w h h' hl).mono (by rintro e w' ⟨b, hb, rfl, hB⟩; exact ⟨by rw [hb.2 he], hB⟩)
theorem eqP_no {s1 s2 : List Pr} {o o' : Option Addr} {c c' : Nat} {w : World} (h : PairsAt w o s1) (h' : PairsAt w o' s2) (hl : s1.length ≤ 140737488351232) (he : ¬ s1 = s2) : Calls Tryz.prog 22 #[.slice o s1.length c, .slice o' s2.length c'] w (fun e w' => e = .returned (.bool false) ∧ Below w.heap.size w w') :=
  (equalP_any o o' s1 s2 c c' w h h' hl).mono (by rintro e w' ⟨b, hb, rfl, hB⟩; cases b; exact ⟨rfl, hB⟩; exact absurd (hb.1 rfl) he)
theorem eqI_yes {s1 s2 : List Int} {o o' : Option Addr} {c c' : Nat} {w : World} (h : IntsAt w o s1) (h' : IntsAt w o' s2) (hl : s1.length ≤ 140737488351232) (he : s1 = s2) : Calls Tryz.prog 23 #[.slice o s1.length c, .slice o' s2.length c'] w (fun e w' => e = .returned (.bool true) ∧ Below w.heap.size w w') :=
  (equalI_any o o' s1 s2 c c' w h h' hl).mono (by rintro e w' ⟨b, hb, rfl, hB⟩; exact ⟨by rw [hb.2 he], hB⟩)
theorem eqI_no {s1 s2 : List Int} {o o' : Option Addr} {c c' : Nat} {w : World} (h : IntsAt w o s1) (h' : IntsAt w o' s2) (hl : s1.length ≤ 140737488351232) (he : ¬ s1 = s2) : Calls Tryz.prog 23 #[.slice o s1.length c, .slice o' s2.length c'] w (fun e w' => e = .returned (.bool false) ∧ Below w.heap.size w w') :=
  (equalI_any o o' s1 s2 c c' w h h' hl).mono (by rintro e w' ⟨b, hb, rfl, hB⟩; cases b; exact ⟨rfl, hB⟩; exact absurd (hb.1 rfl) he)
theorem fx_end {w A B : World} {a b s1 s2 : Sc} {ya yb y1 y2 : Lay} {T T' K X Y pa pb k d l : Nat} (hi : FI w a b ya yb T T' K pa pb k A) (hb : Below A.heap.size A B) (hf : BF T T' K X Y k s1 s2 y1 y2 B)
    (hT : w.heap.size ≤ T) (hT' : w.heap.size ≤ T') (hn : T ≠ T') (hd : T < d) (hd' : T' < d) (hl : d < l) (hlA : l < A.heap.size) (hne : partS a k ≠ partS b k) :
    ((((B.setCell ⟨T, 0, none⟩ (.int .i64 k)).setCell ⟨T', 0, none⟩ (.int .i64 0)).heap[l]? = A.heap[l]?) ∧ ((B.setCell ⟨T, 0, none⟩ (.int .i64 k)).setCell ⟨T', 0, none⟩ (.int .i64 0)).heap[d]? = A.heap[d]?) ∧
      FX w a b T T' k ((B.setCell ⟨T, 0, none⟩ (.int .i64 k)).setCell ⟨T', 0, none⟩ (.int .i64 0)) := by
  have hbw : Below w.heap.size w B := hi.2.2.2.2.2.2.2.1.trans (hb.mono hi.2.2.2.2.2.2.2.1.size)
  refine ⟨⟨?_, ?_⟩, ?_, ?_, ?_, hi.2.2.2.2.2.2.2.2, hne⟩
  · rw [Below.heap_setCell _ _ _ _ (show l ≠ T' by omega), Below.heap_setCell _ _ _ _ (show l ≠ T by omega), hb.block l hlA]
  · rw [Below.heap_setCell _ _ _ _ (show d ≠ T' by omega), Below.heap_setCell _ _ _ _ (show d ≠ T by omega), hb.block d (by omega)]
  · rw [World.cell?_of_block (w := B.setCell ⟨T, 0, none⟩ (.int .i64 k)) (Below.heap_setCell _ _ _ _ hn)]
    exact World.cell?_setCell_same' _ _ _ (by rw [hf.t]; rfl)
  · refine World.cell?_setCell_same' _ _ _ ?_
    rw [World.cell?_of_block (w := B) (Below.heap_setCell _ _ _ _ (Ne.symm hn)), hf.u]
    rfl
  · exact (hbw.setCell (p := ⟨T, 0, none⟩) hT _).setCell (p := ⟨T', 0, none⟩) hT' _
theorem fi_end {w A B : World} {a b s1 s2 : Sc} {ya yb y1 y2 : Lay} {T T' K X Y pa pb k d l : Nat} (hi : FI w a b ya yb T T' K pa pb k A) (hb : Below A.heap.size A B) (hf : BF T T' K X Y k s1 s2 y1 y2 B)
    (hK : w.heap.size ≤ K) (hn : T ≠ K) (hn' : T' ≠ K) (hpa : pa ≠ K) (hpb : pb ≠ K) (hd : K < d) (hl : d < l) (hlA : l < A.heap.size) (heq : partS a k = partS b k) :
    ((B.setCell ⟨K, 0, none⟩ (.int .i64 ((k + 1 : Nat) : Int))).heap[l]? = A.heap[l]? ∧ (B.setCell ⟨K, 0, none⟩ (.int .i64 ((k + 1 : Nat) : Int))).heap[d]? = A.heap[d]?) ∧
      FI w a b ya yb T T' K pa pb (k + 1) (B.setCell ⟨K, 0, none⟩ (.int .i64 ((k + 1 : Nat) : Int))) := by
  have hbw : Below w.heap.size w B := hi.2.2.2.2.2.2.2.1.trans (hb.mono hi.2.2.2.2.2.2.2.1.size)
  have hsz : (B.setCell ⟨K, 0, none⟩ (.int .i64 ((k + 1 : Nat) : Int))).heap.size = B.heap.size := by simp
  have c : ∀ (b : Nat), b ≠ K → (B.setCell ⟨K, 0, none⟩ (.int .i64 ((k + 1 : Nat) : Int))).heap[b]? = B.heap[b]? := fun b hb => Below.heap_setCell _ _ _ _ hb
  refine ⟨⟨?_, ?_⟩, (World.cell?_of_block (w := B) (c T hn)).trans hf.t, (World.frozen?_of_block (w := B) (c T hn)).trans hf.tf, (World.cell?_of_block (w := B) (c T' hn')).trans hf.u, (World.frozen?_of_block (w := B) (c T' hn')).trans hf.uf, ?_, ?_, ⟨?_, ?_, ?_, ?_⟩, hbw.setCell (p := ⟨K, 0, none⟩) hK _, ?_⟩
  · rw [c l (by omega), hb.block l hlA]
  · rw [c d (by omega), hb.block d (by omega)]
  · exact World.cell?_setCell_same' _ _ _ (by rw [hf.k]; rfl)
  · rw [World.frozen?_setCell]; exact hf.kf
  · exact rangeAt_setCell (rangeAt_le hb hi.2.2.2.2.2.2.1.1) hpa
  · exact rangeAt_setCell (rangeAt_le hb hi.2.2.2.2.2.2.1.2.1) hpb
  · have := hi.2.2.2.2.2.2.1.2.2.1; have := hb.size; omega
  · have := hi.2.2.2.2.2.2.1.2.2.2; have := hb.size; omega
  · intro j hj
    by_cases e : j = k
    · subst e; exact heq
    · exact hi.2.2.2.2.2.2.2.2 j (by omega)
set_option maxRecDepth 100000 in
set_option maxHeartbeats 4000000 in
theorem efirst_good (a b : Sc) (ya yb : Lay) (w : World) (ha : ScAt w a ya) (hb : ScAt w b yb) (ca : CapOk a ya) (cb : CapOk b yb) (va : validOk a) (vb : validOk b) : Calls Tryz.prog 8 #[.agg (a.cells ya), .agg (b.cells yb)] w (EFirst a b w) := by
  have HA := Lib.hid ha
  have HB := Lib.hid hb
  have HCa := Lib.hid ca
  have HCb := Lib.hid cb
  have HVa := Lib.hid va
  have HVb := Lib.hid vb
  clear ha hb ca cb va vb
  obtain ⟨V, N, P, C⟩ := a
  obtain ⟨o1, k1, o2, k2, o3, k3⟩ := ya
  obtain ⟨V', N', P', C'⟩ := b
  obtain ⟨o1', k1', o2', k2', o3', k3'⟩ := yb
  show Calls Tryz.prog 8 #[.agg #[.int .i64 V, .slice o1 N.length k1, .slice o2 P.length k2, .slice o3 C.length k3], .agg #[.int .i64 V', .slice o1' N'.length k1', .slice o2' P'.length k2', .slice o3' C'.length k3']] w _
  have hBx : Below w.heap.size w ((((w.alloc (.cells #[.int .i64 V, .slice o1 N.length k1, .slice o2 P.length k2, .slice o3 C.length k3] 26)).alloc (.cells #[.int .i64 V', .slice o1' N'.length k1', .slice o2' P'.length k2', .slice o3' C'.length k3'] 26)).alloc (.cells #[.int .i64 0] 3)).alloc (.cells #[.int .i64 0] 29)) :=
    ((((Below.refl _ w).alloc (Nat.le_refl _) _).alloc (by simp) _).alloc (by simp; omega) _).alloc (by simp; omega) _
  have HBx := Lib.hid hBx
  have HA1 := Lib.hid (HA.out.below hBx)
  have HB1 := Lib.hid (HB.out.below hBx)
  clear hBx
  refine (callsIn_wide (n := 0)).1 (callsIn_of_wp_marks Tryz.func8 rfl trivial ?_ rfl)
  simp only [Tryz.ntmps8, List.size_toArray, List.length_cons, List.length_nil, Nat.reduceAdd, Nat.reduceSub, Array.replicate_succ, Array.replicate_zero, List.push_toArray, List.append_toArray, List.nil_append, List.cons_append]
  gi_wp2
  refine ⟨trivial, rfl, (callsIn_wide.2 (valid_true HVa.out _ _ HA1.out)).mono ?_⟩
  rintro e w1 ⟨rfl, hb1⟩
  have a0 : w1.cell? ⟨w.heap.size, 0, none⟩ = some (.int .i64 V) := ((bcell hb1).1 _ _ (by simp; omega)).trans (by go_simp)
  have a1 : w1.cell? ⟨w.heap.size, 1, none⟩ = some (.slice o1 N.length k1) := ((bcell hb1).1 _ _ (by simp; omega)).trans (by go_simp)
  have a2 : w1.cell? ⟨w.heap.size, 2, none⟩ = some (.slice o2 P.length k2) := ((bcell hb1).1 _ _ (by simp; omega)).trans (by go_simp)
  have a3 : w1.cell? ⟨w.heap.size, 3, none⟩ = some (.slice o3 C.length k3) := ((bcell hb1).1 _ _ (by simp; omega)).trans (by go_simp)
  have c0 : w1.cell? ⟨w.heap.size + 1, 0, none⟩ = some (.int .i64 V') := ((bcell hb1).1 _ _ (by simp)).trans (by go_simp)
  have c1 : w1.cell? ⟨w.heap.size + 1, 1, none⟩ = some (.slice o1' N'.length k1') := ((bcell hb1).1 _ _ (by simp)).trans (by go_simp)
  have c2 : w1.cell? ⟨w.heap.size + 1, 2, none⟩ = some (.slice o2' P'.length k2') := ((bcell hb1).1 _ _ (by simp)).trans (by go_simp)
  have c3 : w1.cell? ⟨w.heap.size + 1, 3, none⟩ = some (.slice o3' C'.length k3') := ((bcell hb1).1 _ _ (by simp)).trans (by go_simp)
  have t2 : w1.cell? ⟨w.heap.size + 1 + 1, 0, none⟩ = some (.int .i64 0) := ((bcell hb1).1 _ _ (by simp)).trans (by go_simp)
  have t3 : w1.cell? ⟨w.heap.size + 1 + 1 + 1, 0, none⟩ = some (.int .i64 0) := ((bcell hb1).1 _ _ (by simp)).trans (by go_simp)
  have f2 : w1.frozen? ⟨w.heap.size + 1 + 1, 0, none⟩ = false := ((bcell hb1).2 _ _ (by simp)).trans (by go_simp)
  have f3 : w1.frozen? ⟨w.heap.size + 1 + 1 + 1, 0, none⟩ = false := ((bcell hb1).2 _ _ (by simp)).trans (by go_simp)
  have HBw1 := Lib.hid (HBx.out.trans (hb1.mono (by simp; omega)))
  have HB2 := Lib.hid (HB1.out.below hb1)
  have hs1 : w.heap.size + 4 ≤ w1.heap.size := by have := hb1.size; simpa using this
  clear hb1 HA1 HB1 HBx
  gi_wp2
  refine ⟨trivial, rfl, (callsIn_wide.2 (valid_true HVb.out _ _ HB2.out)).mono ?_⟩
  rintro e w2 ⟨rfl, hb2⟩
  have a0' : w2.cell? ⟨w.heap.size, 0, none⟩ = some (.int .i64 V) := ((bcell hb2).1 _ _ (by omega)).trans a0
  have a1' : w2.cell? ⟨w.heap.size, 1, none⟩ = some (.slice o1 N.length k1) := ((bcell hb2).1 _ _ (by omega)).trans a1
  have a2' : w2.cell? ⟨w.heap.size, 2, none⟩ = some (.slice o2 P.length k2) := ((bcell hb2).1 _ _ (by omega)).trans a2
  have a3' : w2.cell? ⟨w.heap.size, 3, none⟩ = some (.slice o3 C.length k3) := ((bcell hb2).1 _ _ (by omega)).trans a3
  have c0' : w2.cell? ⟨w.heap.size + 1, 0, none⟩ = some (.int .i64 V') := ((bcell hb2).1 _ _ (by omega)).trans c0
  have c1' : w2.cell? ⟨w.heap.size + 1, 1, none⟩ = some (.slice o1' N'.length k1') := ((bcell hb2).1 _ _ (by omega)).trans c1
  have c2' : w2.cell? ⟨w.heap.size + 1, 2, none⟩ = some (.slice o2' P'.length k2') := ((bcell hb2).1 _ _ (by omega)).trans c2
  have c3' : w2.cell? ⟨w.heap.size + 1, 3, none⟩ = some (.slice o3' C'.length k3') := ((bcell hb2).1 _ _ (by omega)).trans c3
  have t2' : w2.cell? ⟨w.heap.size + 1 + 1, 0, none⟩ = some (.int .i64 0) := ((bcell hb2).1 _ _ (by omega)).trans t2
  have t3' : w2.cell? ⟨w.heap.size + 1 + 1 + 1, 0, none⟩ = some (.int .i64 0) := ((bcell hb2).1 _ _ (by omega)).trans t3
  have f2' : w2.frozen? ⟨w.heap.size + 1 + 1, 0, none⟩ = false := ((bcell hb2).2 _ _ (by omega)).trans f2
  have f3' : w2.frozen? ⟨w.heap.size + 1 + 1 + 1, 0, none⟩ = false := ((bcell hb2).2 _ _ (by omega)).trans f3
  have HBw2 := Lib.hid (HBw1.out.trans (hb2.mono (by omega)))
  have hs2 : w.heap.size + 4 ≤ w2.heap.size := by have := hb2.size; omega
  clear hb2 a0 a1 a2 a3 c0 c1 c2 c3 t2 t3 f2 f3 HB2 HBw1 hs1
  have hs5 : w.heap.size < w2.heap.size := by omega
  have hs6 : w.heap.size + 1 < w2.heap.size := by omega
  have hs7 : w.heap.size + 1 + 1 < w2.heap.size := by omega
  have hs8 : w.heap.size + 1 + 1 + 1 < w2.heap.size := by omega
  gi_wp2
  refine ⟨trivial, rfl, (callsIn_wide.2 (parts_any ⟨V, N, P, C⟩ ⟨V', N', P', C'⟩ ⟨o1, k1, o2, k2, o3, k3⟩ ⟨o1', k1', o2', k2', o3', k3'⟩ _)).mono ?_⟩
  rintro e w3 ⟨rfl, rfl⟩
  gi_wp2
  have r0 : (((w2.alloc (.cells #[.int .i64 0] 3)).alloc (.cells (Sc.cells ⟨V, N, P, C⟩ ⟨o1, k1, o2, k2, o3, k3⟩) 26)).alloc (.cells (Sc.cells ⟨V', N', P', C'⟩ ⟨o1', k1', o2', k2', o3', k3'⟩) 26)).heap.size = w2.heap.size + 3 := by simp
  have hFI : FI w ⟨V, N, P, C⟩ ⟨V', N', P', C'⟩ ⟨o1, k1, o2, k2, o3, k3⟩ ⟨o1', k1', o2', k2', o3', k3'⟩ (w.heap.size + 1 + 1) (w.heap.size + 1 + 1 + 1) w2.heap.size (w2.heap.size + 1) (w2.heap.size + 1 + 1) 0 (((w2.alloc (.cells #[.int .i64 0] 3)).alloc (.cells (Sc.cells ⟨V, N, P, C⟩ ⟨o1, k1, o2, k2, o3, k3⟩) 26)).alloc (.cells (Sc.cells ⟨V', N', P', C'⟩ ⟨o1', k1', o2', k2', o3', k3'⟩) 26)) := by
    have hb3 : Below w2.heap.size w2 (((w2.alloc (.cells #[.int .i64 0] 3)).alloc (.cells (Sc.cells ⟨V, N, P, C⟩ ⟨o1, k1, o2, k2, o3, k3⟩) 26)).alloc (.cells (Sc.cells ⟨V', N', P', C'⟩ ⟨o1', k1', o2', k2', o3', k3'⟩) 26)) :=
      (((Below.refl _ w2).alloc (Nat.le_refl _) _).alloc (by simp) _).alloc (by simp; omega) _
    have hz1 : (w2.alloc (.cells #[.int .i64 0] 3)).heap.size = w2.heap.size + 1 := by simp
    have hz2 : ((w2.alloc (.cells #[.int .i64 0] 3)).alloc (.cells (Sc.cells ⟨V, N, P, C⟩ ⟨o1, k1, o2, k2, o3, k3⟩) 26)).heap.size = w2.heap.size + 1 + 1 := by simp
    have p1 := rangeAt_alloc (.cells (Sc.cells ⟨V', N', P', C'⟩ ⟨o1', k1', o2', k2', o3', k3'⟩) 26) (rangeAt_new (w2.alloc (.cells #[.int .i64 0] 3)) (Sc.cells ⟨V, N, P, C⟩ ⟨o1, k1, o2, k2, o3, k3⟩) 26)
    have p2 := rangeAt_new ((w2.alloc (.cells #[.int .i64 0] 3)).alloc (.cells (Sc.cells ⟨V, N, P, C⟩ ⟨o1, k1, o2, k2, o3, k3⟩) 26)) (Sc.cells ⟨V', N', P', C'⟩ ⟨o1', k1', o2', k2', o3', k3'⟩) 26
    rw [hz1] at p1
    rw [hz2] at p2
    refine ⟨(hb3.cell (p := ⟨w.heap.size + 1 + 1, 0, none⟩) hs7).trans t2', (hb3.frozen (p := ⟨w.heap.size + 1 + 1, 0, none⟩) hs7).trans f2', (hb3.cell (p := ⟨w.heap.size + 1 + 1 + 1, 0, none⟩) hs8).trans t3', (hb3.frozen (p := ⟨w.heap.size + 1 + 1 + 1, 0, none⟩) hs8).trans f3', by go_simp, by go_simp, ⟨p1, p2, by rw [r0]; omega, by rw [r0]; omega⟩, HBw2.out.trans (hb3.mono (by omega)), fun j hj => by omega⟩
  generalize (((w2.alloc (.cells #[.int .i64 0] 3)).alloc (.cells (Sc.cells ⟨V, N, P, C⟩ ⟨o1, k1, o2, k2, o3, k3⟩) 26)).alloc (.cells (Sc.cells ⟨V', N', P', C'⟩ ⟨o1', k1', o2', k2', o3', k3'⟩) 26)) = w4 at hFI r0
  have HFI := Lib.hid hFI
  have R0 := Lib.hid r0
  clear hFI r0 a0' a1' a2' a3' c0' c1' c2' c3' t2' t3' f2' f3'
  have hw4 : w.heap.size + 7 ≤ w4.heap.size := by have := R0.out; omega
  have hK4 : w2.heap.size + 3 ≤ w4.heap.size := by have := R0.out; omega
  refine wpIn_range (P := Tryz.prog) rfl (enters_of Tryz.func47 (by kernel_rfl) rfl) w4.heap.size (w4.heap.size + 1) rfl rfl (encs2 ⟨V, N, P, C⟩ ⟨V', N', P', C'⟩) (fun _ => rfl) (Lies2 ⟨V, N, P, C⟩ ⟨V', N', P', C'⟩) (max C.length C'.length)
    (FI w ⟨V, N, P, C⟩ ⟨V', N', P', C'⟩ ⟨o1, k1, o2, k2, o3, k3⟩ ⟨o1', k1', o2', k2', o3', k3'⟩ (w.heap.size + 1 + 1) (w.heap.size + 1 + 1 + 1) w2.heap.size (w2.heap.size + 1) (w2.heap.size + 1 + 1))
    (FX w ⟨V, N, P, C⟩ ⟨V', N', P', C'⟩ (w.heap.size + 1 + 1) (w.heap.size + 1 + 1 + 1))
    (fun k A B h hb => h.but hb (by omega)) (fun k A B h hb => h.but hb (by omega)) HFI.out
    (fun J Jx W hJ hJI hY h0 => parts1_any _ ⟨V, N, P, C⟩ ⟨V', N', P', C'⟩ ⟨o1, k1, o2, k2, o3, k3⟩ ⟨o1', k1', o2', k2', o3', k3'⟩ _ _ _ rfl J Jx W HVa.out HVb.out HCa.out HCb.out hJ (fun k A h => (hJI k A h).two HA.out HB.out) (fun k A x y hk hj hx hy => hY k A (k, x, y) hk hj ⟨rfl, hx, hy⟩) h0)
    (Mid2 ⟨V, N, P, C⟩ ⟨V', N', P', C'⟩ #[.int .i64 V, .slice o1 N.length k1, .slice o2 P.length k2, .slice o3 C.length k3] #[.int .i64 V', .slice o1' N'.length k1', .slice o2' P'.length k2', .slice o3' C'.length k3'] w.heap.size w2.heap.size)
    (fun k x a₁ A B h hb => h.but hb) ?assign ?body ?done ?stop
  case assign =>
    rintro k ⟨k', y1, y2⟩ A K hi ⟨hk, h1, h2⟩ hK
    dsimp only at hk h1 h2
    subst hk
    have HI := Lib.hid hi
    have H1 := Lib.hid h1
    have H2 := Lib.hid h2
    have HK := Lib.hid hK
    clear hi h1 h2 hK
    unfold Mid2 at HK
    dsimp only [encs2] at HK ⊢
    generalize partS ⟨V, N, P, C⟩ k' = s1 at H1 HK ⊢
    generalize partS ⟨V', N', P', C'⟩ k' = s2 at H2 HK ⊢
    obtain ⟨V1, N1, P1, C1⟩ := s1
    obtain ⟨V2, N2, P2, C2⟩ := s2
    obtain ⟨q1, r1, q2, r2, q3, r3⟩ := y1
    obtain ⟨q1', r1', q2', r2', q3', r3'⟩ := y2
    have E1 : Sc.cells ⟨V1, N1, P1, C1⟩ ⟨q1, r1, q2, r2, q3, r3⟩ = #[.int .i64 V1, .slice q1 N1.length r1, .slice q2 P1.length r2, .slice q3 C1.length r3] := rfl
    have E2 : Sc.cells ⟨V2, N2, P2, C2⟩ ⟨q1', r1', q2', r2', q3', r3'⟩ = #[.int .i64 V2, .slice q1' N2.length r1', .slice q2' P2.length r2', .slice q3' C2.length r3'] := rfl
    rw [E1, E2] at HK ⊢
    clear E1 E2
    gi_wp2
    have hb : Below A.heap.size A ((A.alloc (.cells #[.int .i64 V1, .slice q1 N1.length r1, .slice q2 P1.length r2, .slice q3 C1.length r3] 26)).alloc (.cells #[.int .i64 V2, .slice q1' N2.length r1', .slice q2' P2.length r2', .slice q3' C2.length r3'] 26)) :=
      ((Below.refl _ A).alloc (Nat.le_refl _) _).alloc (by simp) _
    have z1 := rangeAt_alloc (.cells #[.int .i64 V2, .slice q1' N2.length r1', .slice q2' P2.length r2', .slice q3' C2.length r3'] 26) (rangeAt_new A #[.int .i64 V1, .slice q1 N1.length r1, .slice q2 P1.length r2, .slice q3 C1.length r3] 26)
    have z2 := rangeAt_new (A.alloc (.cells #[.int .i64 V1, .slice q1 N1.length r1, .slice q2 P1.length r2, .slice q3 C1.length r3] 26)) #[.int .i64 V2, .slice q1' N2.length r1', .slice q2' P2.length r2', .slice q3' C2.length r3'] 26
    rw [World.size_alloc] at z2
    exact HK.out _ _ ⟨A.heap.size, A.heap.size + 1, rfl, z1, z2, H1.out.below hb, H2.out.below hb⟩ hb
  case body =>
    rintro k ⟨k', y1, y2⟩ a₁ A hkM hlt hi ⟨X, Y, rfl, hx, hy, h1, h2⟩
    dsimp only at hx hy h1 h2
    dsimp only [fr8]
    obtain ⟨s1, e1⟩ : ∃ s, partS ⟨V, N, P, C⟩ k = s := ⟨_, rfl⟩
    obtain ⟨s2, e2⟩ : ∃ s, partS ⟨V', N', P', C'⟩ k = s := ⟨_, rfl⟩
    rw [e1] at hx h1
    rw [e2] at hy h2
    rw [e1, e2]
    have HE1 := Lib.hid e1
    have HE2 := Lib.hid e2
    have HI := Lib.hid hi
    have HBF : Hid (BF (w.heap.size + 1 + 1) (w.heap.size + 1 + 1 + 1) w2.heap.size X Y k s1 s2 y1 y2 A) := ⟨hi.1, hi.2.1, hi.2.2.1, hi.2.2.2.1, hi.2.2.2.2.1, hi.2.2.2.2.2.1, hx, hy, h1, h2⟩
    clear e1 e2 hi hx hy h1 h2
    obtain ⟨V1, N1, P1, C1⟩ := s1
    obtain ⟨V2, N2, P2, C2⟩ := s2
    obtain ⟨q1, r1, q2, r2, q3, r3⟩ := y1
    obtain ⟨q1', r1', q2', r2', q3', r3'⟩ := y2
    have E1 : Sc.cells ⟨V1, N1, P1, C1⟩ ⟨q1, r1, q2, r2, q3, r3⟩ = #[.int .i64 V1, .slice q1 N1.length r1, .slice q2 P1.length r2, .slice q3 C1.length r3] := rfl
    have E2 : Sc.cells ⟨V2, N2, P2, C2⟩ ⟨q1', r1', q2', r2', q3', r3'⟩ = #[.int .i64 V2, .slice q1' N2.length r1', .slice q2' P2.length r2', .slice q3' C2.length r3'] := rfl
    rw [E1, E2]
    clear E1 E2
    obtain ⟨x0, x1, x2, x3⟩ := box_cells HBF.out.x
    obtain ⟨z0, z1, z2, z3⟩ := box_cells HBF.out.y
    have t0 := HBF.out.t
    have t1 := HBF.out.tf
    have u0 := HBF.out.u
    have u1 := HBF.out.uf
    have m0 := HBF.out.k
    have m1 := HBF.out.kf
    dsimp only at x0 x1 x2 x3 z0 z1 z2 z3
    have hkb : k ≤ 140737488351232 := by
      have h1 := HA.out.2.2.2.2.2
      have h2 := HB.out.2.2.2.2.2
      dsimp only at h1 h2
      omega
    by_cases hv : V1 = V2
    · have hvd : (V1 != V2) = false := by simpa using hv
      have HV := Lib.hid hv
      clear hv
      have HBA : Hid (Below A.heap.size A A) := (Below.refl _ _ : Below _ _ _)
      gi_wp2
      by_cases hN : N1 = N2
      · have HN := Lib.hid hN
        clear hN
        refine ⟨trivial, rfl, (CallsIn.inRound _ (callsIn_wide.2 (eqN_yes (HBF.out.p.1) (HBF.out.q.1) (HBF.out.p.2.2.2.1) HN.out))).mono ?_⟩
        rintro e B1 ⟨rfl, hb⟩
        have F1 := Lib.hid (HBF.out.below hb)
        have HBB1 := Lib.hid (HBA.out.trans (hb.mono HBA.out.size))
        clear hb
        obtain ⟨x0a, x1a, x2a, x3a⟩ := box_cells F1.out.x
        obtain ⟨z0a, z1a, z2a, z3a⟩ := box_cells F1.out.y
        have t0a := F1.out.t
        have t1a := F1.out.tf
        have u0a := F1.out.u
        have u1a := F1.out.uf
        have m0a := F1.out.k
        have m1a := F1.out.kf
        dsimp only at x0a x1a x2a x3a z0a z1a z2a z3a
        gi_wp2
        by_cases hP : P1 = P2
        · have HP := Lib.hid hP
          clear hP
          refine ⟨trivial, rfl, (CallsIn.inRound _ (callsIn_wide.2 (eqP_yes (F1.out.p.2.1) (F1.out.q.2.1) (F1.out.p.2.2.2.2.1) HP.out))).mono ?_⟩
          rintro e B2 ⟨rfl, hb⟩
          have F2 := Lib.hid (F1.out.below hb)
          have HBB2 := Lib.hid (HBB1.out.trans (hb.mono HBB1.out.size))
          clear hb
          obtain ⟨x0b, x1b, x2b, x3b⟩ := box_cells F2.out.x
          obtain ⟨z0b, z1b, z2b, z3b⟩ := box_cells F2.out.y
          have t0b := F2.out.t
          have t1b := F2.out.tf
          have u0b := F2.out.u
          have u1b := F2.out.uf
          have m0b := F2.out.k
          have m1b := F2.out.kf
          dsimp only at x0b x1b x2b x3b z0b z1b z2b z3b
          gi_wp2
          by_cases hC : C1 = C2
          · have HC := Lib.hid hC
            clear hC
            refine ⟨trivial, rfl, (CallsIn.inRound _ (callsIn_wide.2 (eqI_yes (F2.out.p.2.2.1) (F2.out.q.2.2.1) (F2.out.p.2.2.2.2.2) HC.out))).mono ?_⟩
            rintro e B3 ⟨rfl, hb⟩
            have F3 := Lib.hid (F2.out.below hb)
            have HBB3 := Lib.hid (HBB2.out.trans (hb.mono HBB2.out.size))
            clear hb
            obtain ⟨x0c, x1c, x2c, x3c⟩ := box_cells F3.out.x
            obtain ⟨z0c, z1c, z2c, z3c⟩ := box_cells F3.out.y
            have t0c := F3.out.t
            have t1c := F3.out.tf
            have u0c := F3.out.u
            have u1c := F3.out.uf
            have m0c := F3.out.k
            have m1c := F3.out.kf
            dsimp only at x0c x1c x2c x3c z0c z1c z2c z3c
            gi_wp2
            exact fi_end HI.out HBB3.out F3.out (by omega) (by omega) (by omega) (by omega) (by omega) (by omega) (by omega) hlt (by rw [HE1.out, HE2.out, HV.out, HN.out, HP.out, HC.out])
          · have HC := Lib.hid hC
            clear hC
            refine ⟨trivial, rfl, (CallsIn.inRound _ (callsIn_wide.2 (eqI_no (F2.out.p.2.2.1) (F2.out.q.2.2.1) (F2.out.p.2.2.2.2.2) HC.out))).mono ?_⟩
            rintro e B3 ⟨rfl, hb⟩
            have F3 := Lib.hid (F2.out.below hb)
            have HBB3 := Lib.hid (HBB2.out.trans (hb.mono HBB2.out.size))
            clear hb
            obtain ⟨x0c, x1c, x2c, x3c⟩ := box_cells F3.out.x
            obtain ⟨z0c, z1c, z2c, z3c⟩ := box_cells F3.out.y
            have t0c := F3.out.t
            have t1c := F3.out.tf
            have u0c := F3.out.u
            have u1c := F3.out.uf
            have m0c := F3.out.k
            have m1c := F3.out.kf
            dsimp only at x0c x1c x2c x3c z0c z1c z2c z3c
            gi_wp2
            exact fx_end HI.out HBB3.out F3.out (by omega) (by omega) (by omega) (by omega) (by omega) (by omega) hlt (by rw [HE1.out, HE2.out]; exact fun h => HC.out (congrArg Sc.c h))
        · have HP := Lib.hid hP
          clear hP
          refine ⟨trivial, rfl, (CallsIn.inRound _ (callsIn_wide.2 (eqP_no (F1.out.p.2.1) (F1.out.q.2.1) (F1.out.p.2.2.2.2.1) HP.out))).mono ?_⟩
          rintro e B2 ⟨rfl, hb⟩
          have F2 := Lib.hid (F1.out.below hb)
          have HBB2 := Lib.hid (HBB1.out.trans (hb.mono HBB1.out.size))
          clear hb
          obtain ⟨x0b, x1b, x2b, x3b⟩ := box_cells F2.out.x
          obtain ⟨z0b, z1b, z2b, z3b⟩ := box_cells F2.out.y
          have t0b := F2.out.t
          have t1b := F2.out.tf
          have u0b := F2.out.u
          have u1b := F2.out.uf
          have m0b := F2.out.k
          have m1b := F2.out.kf
          dsimp only at x0b x1b x2b x3b z0b z1b z2b z3b
          gi_wp2
          refine ⟨trivial, ?_⟩
          gi_wp2
          exact fx_end HI.out HBB2.out F2.out (by omega) (by omega) (by omega) (by omega) (by omega) (by omega) hlt (by rw [HE1.out, HE2.out]; exact fun h => HP.out (congrArg Sc.p h))
      · have HN := Lib.hid hN
        clear hN
        refine ⟨trivial, rfl, (CallsIn.inRound _ (callsIn_wide.2 (eqN_no (HBF.out.p.1) (HBF.out.q.1) (HBF.out.p.2.2.2.1) HN.out))).mono ?_⟩
        rintro e B1 ⟨rfl, hb⟩
        have F1 := Lib.hid (HBF.out.below hb)
        have HBB1 := Lib.hid (HBA.out.trans (hb.mono HBA.out.size))
        clear hb
        obtain ⟨x0a, x1a, x2a, x3a⟩ := box_cells F1.out.x
        obtain ⟨z0a, z1a, z2a, z3a⟩ := box_cells F1.out.y
        have t0a := F1.out.t
        have t1a := F1.out.tf
        have u0a := F1.out.u
        have u1a := F1.out.uf
        have m0a := F1.out.k
        have m1a := F1.out.kf
        dsimp only at x0a x1a x2a x3a z0a z1a z2a z3a
        gi_wp2
        refine ⟨trivial, ?_⟩
        gi_wp2
        refine ⟨trivial, ?_⟩
        gi_wp2
        exact fx_end HI.out HBB1.out F1.out (by omega) (by omega) (by omega) (by omega) (by omega) (by omega) hlt (by rw [HE1.out, HE2.out]; exact fun h => HN.out (congrArg Sc.n h))
    · have hvd : (V1 != V2) = true := by simpa using hv
      have HV := Lib.hid hv
      clear hv
      gi_wp2
      refine ⟨trivial, ?_⟩
      gi_wp2
      refine ⟨trivial, ?_⟩
      gi_wp2
      refine ⟨trivial, ?_⟩
      gi_wp2
      exact fx_end HI.out (Below.refl _ _) HBF.out (by omega) (by omega) (by omega) (by omega) (by omega) (by omega) hlt (by rw [HE1.out, HE2.out]; exact fun h => HV.out (congrArg Sc.v h))
  case done =>
    intro A hi hk
    have HI := Lib.hid hi
    have t0 := hi.1
    have t1 := hi.2.1
    have u0 := hi.2.2.1
    have u1 := hi.2.2.2.1
    have HKd := Lib.hid hk
    clear hi hk
    gi_wp2
    have hK2 : ((A.setCell ⟨w.heap.size + 1 + 1, 0, none⟩ (.int .i64 (-1))).setCell ⟨w.heap.size + 1 + 1 + 1, 0, none⟩ (.int .i64 0)).heap[w4.heap.size]? = some (.deferred (some [])) := by
      rw [Below.heap_setCell _ _ _ _ (show w4.heap.size ≠ w.heap.size + 1 + 1 + 1 by omega), Below.heap_setCell _ _ _ _ (show w4.heap.size ≠ w.heap.size + 1 + 1 by omega)]
      exact HKd.out
    have hB := But.putObj (n := w.heap.size) (.deferred none) hK2 rfl (by omega)
    have hc5 := hB.cell (p := ⟨w.heap.size + 1 + 1, 0, none⟩) (v := .int .i64 (-1)) (by
      rw [World.cell?_of_block (w := A.setCell ⟨w.heap.size + 1 + 1, 0, none⟩ (.int .i64 (-1))) (Below.heap_setCell _ _ _ _ (show w.heap.size + 1 + 1 ≠ w.heap.size + 1 + 1 + 1 by omega))]
      exact World.cell?_setCell_same' _ _ _ (by rw [t0]; rfl))
    have hc6 := hB.cell (p := ⟨w.heap.size + 1 + 1 + 1, 0, none⟩) (v := .int .i64 0) (by
      refine World.cell?_setCell_same' _ _ _ ?_
      rw [World.cell?_of_block (w := A) (Below.heap_setCell _ _ _ _ (show w.heap.size + 1 + 1 + 1 ≠ w.heap.size + 1 + 1 by omega)), u0]
      rfl)
    refine ⟨by simp, .inl ⟨_, _, rfl, run_takeDeferred hK2, .tuple #[.int .i64 (-1), .int .i64 0], ?_, ?_⟩⟩
    · simp [results, Tryz.f8, go_sem, hc5, hc6]
    · have hbw : Below w.heap.size w A := HI.out.2.2.2.2.2.2.2.1
      refine ⟨-1, 0, .inr ⟨HVa.out, HVb.out, rfl, .inl ⟨rfl, fun j hj => HI.out.2.2.2.2.2.2.2.2 j (by dsimp only at hj; omega)⟩⟩, rfl, ?_⟩
      exact hB.below ((hbw.setCell (p := ⟨w.heap.size + 1 + 1, 0, none⟩) (by simp; omega) _).setCell (p := ⟨w.heap.size + 1 + 1 + 1, 0, none⟩) (by simp; omega) _) (by have := hbw.size; simpa using this) (Nat.le_refl _)
  case stop =>
    intro k A hkM hi hk
    have HX := Lib.hid hi
    have t0 := hi.1
    have u0 := hi.2.1
    have HKd := Lib.hid hk
    clear hi hk
    gi_wp2
    have hB := But.putObj (n := w.heap.size) (.deferred none) HKd.out rfl (by omega)
    have hc5 := hB.cell t0
    have hc6 := hB.cell u0
    refine ⟨by simp, .inl ⟨_, _, rfl, run_takeDeferred HKd.out, .tuple #[.int .i64 k, .int .i64 0], ?_, ?_⟩⟩
    · simp [results, Tryz.f8, go_sem, hc5, hc6]
    · exact ⟨k, 0, .inr ⟨HVa.out, HVb.out, rfl, .inr ⟨k, rfl, hkM, HX.out.2.2.2.2, HX.out.2.2.2.1⟩⟩, rfl, hB.below HX.out.2.2.1 HX.out.2.2.1.size (Nat.le_refl _)⟩
/-- edition.First. -/
theorem efirst_any (a b : Sc) (ya yb : Lay) (w : World) (ha : ScAt w a ya) (hb : ScAt w b yb) (ca : CapOk a ya) (cb : CapOk b yb) : Calls Tryz.prog 8 #[.agg (a.cells ya), .agg (b.cells yb)] w (EFirst a b w) := by
  by_cases hv : validOk a ∧ validOk b
  · exact efirst_good a b ya yb w ha hb ca cb hv.1 hv.2
  · exact efirst_bad a b ya yb w ha hb hv
end Go.Sc
