/- edition.Apply: what it answers, and its ways out ahead of the edits. edition.Apply of a valid score: the draft is made, the edits go through it. -/
import Derived.Test.YtjpbfggfoahoeaaGreatDoorSrU
import Derived.Test.YtjpbfggfoahoeaaGreatDoorSrS
import Derived.Test.YtjpbfggfoahoeaaGreatDoorScX
import Derived.Deep.RegionWith
import Derived.Deep.CutRange
import Derived.Deep.Cut
namespace Go.Sc
open Go.RowKit Go.Proofs

abbrev EdsAt := RowAt 21 Ed.cells
/-- A slice that is nil has no room. -/
def NilOk (y : Lay) : Prop := (y.o1 = none → y.k1 = 0) ∧ (y.o2 = none → y.k2 = 0) ∧ (y.o3 = none → y.k3 = 0)
def zeroLay : Lay := ⟨none, 0, none, 0, none, 0⟩
theorem zero_at (w : World) : ScAt w zeroSc zeroLay :=
  ⟨fun k n h => by simp [zeroSc] at h, fun k n h => by simp [zeroSc] at h, fun k n h => by simp [zeroSc] at h, by simp [zeroSc], by simp [zeroSc], by simp [zeroSc]⟩
theorem RowAt.nil {α : Type} {size : Nat} {cells : α → List Value} {w : World} {o : Option Addr} {l : List α} (h : RowAt size cells w o l) (ho : o = none) : l.length = 0 := by
  cases l with
  | nil => rfl
  | cons x l =>
    obtain ⟨b, off, h1, _⟩ := h 0 x rfl
    rw [ho] at h1
    cases h1
theorem own_at {α : Type} {size : Nat} {cells : α → List Value} (hc : ∀ x, (cells x).length = size) {w : World} {base : Nat} {e : TypeId} {v : Value} {l : List α} (h : w.ownsRow base e size v l.length (l.flatMap cells)) :
    ∃ (o : Option Addr) (k : Nat), v = .slice o l.length k ∧ RowAt size cells w o l ∧ (o = none → k = 0) ∧ l.length ≤ k := by
  obtain ⟨o, k, hv, hr⟩ := RowAt.own hc h
  refine ⟨o, k, hv, hr, ?_⟩
  rcases h.2 with ⟨h1, h0⟩ | ⟨g, cap, cur, h1, _, _, h2, _⟩
  · rw [hv] at h1
    simp at h1
    exact ⟨fun _ => h1.2.2, by omega⟩
  · rw [hv] at h1
    simp at h1
    obtain ⟨h1, rfl⟩ := h1
    exact ⟨fun e => (by rw [e] at h1; cases h1), h2⟩
/-- Its slices lie in blocks from B on. -/
def NewAt (B : Nat) (y : Lay) : Prop := ∀ b off, (y.o1 = some ⟨b, off, none⟩ ∨ y.o2 = some ⟨b, off, none⟩ ∨ y.o3 = some ⟨b, off, none⟩) → B ≤ b
theorem zero_new (B : Nat) : NewAt B zeroLay := fun b off h => by simp [zeroLay] at h
/-- What edition.Apply answers. -/
def EApply (s : Sc) (l : List Ed) (w : World) (e : Ending) (w' : World) : Prop :=
  ∃ r y er, ApplyE s l r er ∧ e = .returned (.tuple #[.agg (r.cells y), .int .i64 er]) ∧ ScAt w' r y ∧ CapOk r y ∧ (NilOk y ∧ NewAt w.heap.size y) ∧ Below w.heap.size w w'
theorem EApply.bad {s : Sc} {l : List Ed} {w w' : World} (h : ¬ (validOk s ∧ l.length ≤ 200 ∧ (editsF s l).isSome)) (hb : Below w.heap.size w w') : EApply s l w (.returned (.tuple #[.agg #[.int .i64 0, .slice none 0 0, .slice none 0 0, .slice none 0 0], .int .i64 1])) w' :=
  ⟨zeroSc, zeroLay, 1, .inl ⟨h, rfl, rfl⟩, rfl, zero_at w', ⟨Nat.le_refl _, Nat.le_refl _⟩, ⟨⟨fun _ => rfl, fun _ => rfl, fun _ => rfl⟩, zero_new _⟩, hb⟩
set_option maxRecDepth 100000 in
set_option maxHeartbeats 8000000 in
theorem apply_bad (s : Sc) (y : Lay) (l : List Ed) (o : Option Addr) (cap : Nat) (w : World) (h : ScAt w s y) (hv : ¬ (validOk s ∧ l.length ≤ 200)) :
    Calls Tryz.prog 11 #[.agg (s.cells y), .slice o l.length cap] w (EApply s l w) := by
  have HV := Lib.hid hv
  have hb0 : Below w.heap.size w ((w.alloc (.cells (s.cells y) 26)).alloc Z26) := ((Below.refl _ w).alloc (Nat.le_refl _) _).alloc (by simp) _
  have HB0 := Lib.hid hb0
  have HS0 := Lib.hid (h.below hb0)
  clear h hb0 hv
  obtain ⟨V, N, P, C⟩ := s
  obtain ⟨o1, k1, o2, k2, o3, k3⟩ := y
  show Calls Tryz.prog 11 #[.agg #[.int .i64 V, .slice o1 N.length k1, .slice o2 P.length k2, .slice o3 C.length k3], .slice o l.length cap] w _
  by_cases hs : validOk ⟨V, N, P, C⟩
  · have hd : decide ((l.length : Int) > 200) = true := by
      have := HV.out
      have h2 : ¬ l.length ≤ 200 := fun h => this ⟨hs, h⟩
      simp
      omega
    have HVS := Lib.hid hs
    clear hs
    go_enter Tryz.func11, Tryz.ntmps11
    go_wp2_with fail
    refine (valid_true HVS.out ⟨o1, k1, o2, k2, o3, k3⟩ _ HS0.out).mono ?_
    rintro e w1 ⟨rfl, hb1⟩
    have HB1 := Lib.hid (HB0.out.trans (hb1.mono HB0.out.size))
    have t0 : w1.cell? ⟨w.heap.size + 1, 0, none⟩ = some (.int .i64 0) := (hb1.cell (p := ⟨w.heap.size + 1, 0, none⟩) (by simp)).trans (by go_simp)
    have t1 : w1.cell? ⟨w.heap.size + 1, 1, none⟩ = some (.slice none 0 0) := (hb1.cell (p := ⟨w.heap.size + 1, 1, none⟩) (by simp)).trans (by go_simp)
    have t2 : w1.cell? ⟨w.heap.size + 1, 2, none⟩ = some (.slice none 0 0) := (hb1.cell (p := ⟨w.heap.size + 1, 2, none⟩) (by simp)).trans (by go_simp)
    have t3 : w1.cell? ⟨w.heap.size + 1, 3, none⟩ = some (.slice none 0 0) := (hb1.cell (p := ⟨w.heap.size + 1, 3, none⟩) (by simp)).trans (by go_simp)
    have g0 : w1.frozen? ⟨w.heap.size + 1, 0, none⟩ = false := (hb1.frozen (p := ⟨w.heap.size + 1, 0, none⟩) (by simp)).trans (by go_simp)
    have g1 : w1.frozen? ⟨w.heap.size + 1, 1, none⟩ = false := (hb1.frozen (p := ⟨w.heap.size + 1, 1, none⟩) (by simp)).trans (by go_simp)
    have g2 : w1.frozen? ⟨w.heap.size + 1, 2, none⟩ = false := (hb1.frozen (p := ⟨w.heap.size + 1, 2, none⟩) (by simp)).trans (by go_simp)
    have g3 : w1.frozen? ⟨w.heap.size + 1, 3, none⟩ = false := (hb1.frozen (p := ⟨w.heap.size + 1, 3, none⟩) (by simp)).trans (by go_simp)
    clear hb1
    go_wp2_with fail
    refine bodyPost_ret (v := .tuple #[.agg #[.int .i64 0, .slice none 0 0, .slice none 0 0, .slice none 0 0], .int .i64 1]) (by simp [results, Tryz.results11, go_sem, t0, t1, t2, t3]) rfl (EApply.bad (fun h => HV.out ⟨h.1, h.2.1⟩) ?_)
    exact (((HB1.out.setCell (p := ⟨w.heap.size + 1, 0, none⟩) (by simp) _).setCell (p := ⟨w.heap.size + 1, 1, none⟩) (by simp) _).setCell (p := ⟨w.heap.size + 1, 2, none⟩) (by simp) _).setCell (p := ⟨w.heap.size + 1, 3, none⟩) (by simp) _
  · have HVS := Lib.hid hs
    clear hs
    go_enter Tryz.func11, Tryz.ntmps11
    go_wp2_with fail
    refine (valid_false HVS.out ⟨o1, k1, o2, k2, o3, k3⟩ _ HS0.out).mono ?_
    rintro e w1 ⟨rfl, hb1⟩
    have HB1 := Lib.hid (HB0.out.trans (hb1.mono HB0.out.size))
    have t0 : w1.cell? ⟨w.heap.size + 1, 0, none⟩ = some (.int .i64 0) := (hb1.cell (p := ⟨w.heap.size + 1, 0, none⟩) (by simp)).trans (by go_simp)
    have t1 : w1.cell? ⟨w.heap.size + 1, 1, none⟩ = some (.slice none 0 0) := (hb1.cell (p := ⟨w.heap.size + 1, 1, none⟩) (by simp)).trans (by go_simp)
    have t2 : w1.cell? ⟨w.heap.size + 1, 2, none⟩ = some (.slice none 0 0) := (hb1.cell (p := ⟨w.heap.size + 1, 2, none⟩) (by simp)).trans (by go_simp)
    have t3 : w1.cell? ⟨w.heap.size + 1, 3, none⟩ = some (.slice none 0 0) := (hb1.cell (p := ⟨w.heap.size + 1, 3, none⟩) (by simp)).trans (by go_simp)
    have g0 : w1.frozen? ⟨w.heap.size + 1, 0, none⟩ = false := (hb1.frozen (p := ⟨w.heap.size + 1, 0, none⟩) (by simp)).trans (by go_simp)
    have g1 : w1.frozen? ⟨w.heap.size + 1, 1, none⟩ = false := (hb1.frozen (p := ⟨w.heap.size + 1, 1, none⟩) (by simp)).trans (by go_simp)
    have g2 : w1.frozen? ⟨w.heap.size + 1, 2, none⟩ = false := (hb1.frozen (p := ⟨w.heap.size + 1, 2, none⟩) (by simp)).trans (by go_simp)
    have g3 : w1.frozen? ⟨w.heap.size + 1, 3, none⟩ = false := (hb1.frozen (p := ⟨w.heap.size + 1, 3, none⟩) (by simp)).trans (by go_simp)
    clear hb1
    go_wp2_with fail
    refine bodyPost_ret (v := .tuple #[.agg #[.int .i64 0, .slice none 0 0, .slice none 0 0, .slice none 0 0], .int .i64 1]) (by simp [results, Tryz.results11, go_sem, t0, t1, t2, t3]) rfl (EApply.bad (fun h => HV.out ⟨h.1, h.2.1⟩) ?_)
    exact (((HB1.out.setCell (p := ⟨w.heap.size + 1, 0, none⟩) (by simp) _).setCell (p := ⟨w.heap.size + 1, 1, none⟩) (by simp) _).setCell (p := ⟨w.heap.size + 1, 2, none⟩) (by simp) _).setCell (p := ⟨w.heap.size + 1, 3, none⟩) (by simp) _

/-- What the table answers. -/
theorem find_no {k : Int} {b c : Nat} (h : k ≠ 1 ∧ k ≠ 2 ∧ k ≠ 3 ∧ k ≠ 4) (w : World) : (Instr.findKey 3 (.int .i64 k) (tab 4 b c)).run Tryz.prog w = .ok none w := by
  obtain ⟨h1, h2, h3, h4⟩ := h
  have e1 : (k == 1) = false := by simpa using h1
  have e2 : (k == 2) = false := by simpa using h2
  have e3 : (k == 3) = false := by simpa using h3
  have e4 : (k == 4) = false := by simpa using h4
  unfold Instr.findKey
  simp only [Sem.run_bind, run_underlying Tryz.underlying3, Result.andThen_ok, tab, ent, List.take_succ_cons, List.take_nil, Instr.findNow, Instr.sameNow, if_true, e1, e2, e3, e4]
  rfl
theorem run_look {w : World} {M b c : Nat} (h : TabAt w M b c) (k : Int) (r : Option (Nat × Value)) (hf : (Instr.findKey 3 (.int .i64 k) (tab 4 b c)).run Tryz.prog w = .ok r w) :
    (Instr.lookup 91 (.map (some M)) (.int .i64 k) true).run Tryz.prog w = .ok (.tuple #[(r.map (·.2)).getD .nilFunc, .bool r.isSome]) w := by
  have hget : (getObj M).run Tryz.prog w = .ok (.map (tab 4 b c).toArray 4) w := by simp [getObj, Sem.run, h.map]
  unfold Instr.lookup
  simp only [Sem.run_bind, run_underlying Tryz.underlying91, Result.andThen_ok, hget, Sem.run_pure, check_int, hf]
  cases r with
  | some p => rfl
  | none =>
    have hz : (zeroValue 96).run Tryz.prog w = .ok .nilFunc w := by kernel_rfl
    simp [hz, Sem.run_bind, Sem.run_pure]
theorem look1 {w : World} {M b c : Nat} (h : TabAt w M b c) : (Instr.lookup 91 (.map (some M)) (.int .i64 1) true).run Tryz.prog w = .ok (.tuple #[.func (.func 49) #[] #[], .bool true]) w :=
  run_look h 1 (some (0, .func (.func 49) #[] #[])) (by kernel_rfl)
theorem look2 {w : World} {M b c : Nat} (h : TabAt w M b c) : (Instr.lookup 91 (.map (some M)) (.int .i64 2) true).run Tryz.prog w = .ok (.tuple #[fnV 71 b, .bool true]) w :=
  run_look h 2 (some (1, fnV 71 b)) (by kernel_rfl)
theorem look3 {w : World} {M b c : Nat} (h : TabAt w M b c) : (Instr.lookup 91 (.map (some M)) (.int .i64 3) true).run Tryz.prog w = .ok (.tuple #[fnV 71 c, .bool true]) w :=
  run_look h 3 (some (2, fnV 71 c)) (by kernel_rfl)
theorem look4 {w : World} {M b c : Nat} (h : TabAt w M b c) : (Instr.lookup 91 (.map (some M)) (.int .i64 4) true).run Tryz.prog w = .ok (.tuple #[.func (.func 54) #[] #[], .bool true]) w :=
  run_look h 4 (some (3, .func (.func 54) #[] #[])) (by kernel_rfl)
theorem look0 {w : World} {M b c : Nat} (h : TabAt w M b c) {k : Int} (hk : k ≠ 1 ∧ k ≠ 2 ∧ k ≠ 3 ∧ k ≠ 4) : (Instr.lookup 91 (.map (some M)) (.int .i64 k) true).run Tryz.prog w = .ok (.tuple #[.nilFunc, .bool false]) w :=
  run_look h k none (find_no hk w)
end Go.Sc

/-! edition.Apply of a valid score: the draft is made, the edits go through it. -/
namespace Go.Sc
open Go.RowKit Go.Proofs

theorem TabAt.below {w w' : World} {M b c : Nat} (h : TabAt w M b c) (hb : Below w.heap.size w w') : TabAt w' M b c :=
  ⟨(hb.block M (Array.getElem?_eq_some_iff.1 h.map).1).trans h.map, (hb.block b (Array.getElem?_eq_some_iff.1 h.b51).1).trans h.b51, (hb.block c (Array.getElem?_eq_some_iff.1 h.c52).1).trans h.c52⟩
theorem TabAt.lt {w : World} {M b c : Nat} (h : TabAt w M b c) : M < w.heap.size ∧ b < w.heap.size ∧ c < w.heap.size :=
  ⟨(Array.getElem?_eq_some_iff.1 h.map).1, (Array.getElem?_eq_some_iff.1 h.b51).1, (Array.getElem?_eq_some_iff.1 h.c52).1⟩
theorem TabAt.keeps {K : Nat → Prop} {w w' : World} {M b c : Nat} (h : TabAt w M b c) (hK : K M ∧ K b ∧ K c) (hk : Keeps K w w') : TabAt w' M b c :=
  ⟨(hk.block M hK.1).trans h.map, (hk.block b hK.2.1).trans h.b51, (hk.block c hK.2.2).trans h.c52⟩
/-- The draft's block is none of the table's. -/
theorem TabAt.ne {w : World} {M b c D : Nat} {cs : Array Value} (h : TabAt w M b c) (hD : w.heap[D]? = some (.cells cs 90 (0, 0))) : M ≠ D ∧ b ≠ D ∧ c ≠ D := by
  refine ⟨fun e => ?_, fun e => ?_, fun e => ?_⟩
  · have := h.map; rw [e, hD] at this; cases this
  · have := h.b51; rw [e, hD] at this; simp at this
  · have := h.c52; rw [e, hD] at this; simp at this
theorem Keeps.below {K : Nat → Prop} {w a b : World} {B : Nat} (h : Keeps K a b) (hK : ∀ k, k < B → K k) (hB : Below B w a) : Below B w b :=
  ⟨h.os.trans hB.os, h.tape.trans hB.tape, h.output.trans hB.output, Nat.le_trans hB.size h.size, fun k hk => (h.block k (hK k hk)).trans (hB.block k hk)⟩
theorem rangeAt_keeps {K : Nat → Prop} {w w' : World} (h : Keeps K w w') {b o : Nat} {cs : List Value} (hb : K b) (hr : w.rangeAt b o cs) : w'.rangeAt b o cs := fun j v hj =>
  (World.cell?_of_block (h.block b hb)).trans (hr j v hj)
theorem own_base {w : World} {base : Nat} {e : TypeId} {size : Nat} {v : Value} {n : Nat} {xs : List Value} (h : w.ownsRow base e size v n xs) : w.ownsRow 0 e size v n xs := by
  refine ⟨h.1, ?_⟩
  rcases h.2 with h0 | ⟨g, cap, cur, hv, _, hg⟩
  · exact .inl h0
  · exact .inr ⟨g, cap, cur, hv, Nat.zero_le _, hg⟩
/-- The three slices are made anew, and stand in the draft's block. -/
theorem Draft.make {W wa wb wc : World} {D : Nat} {s : Sc} {a b c v1 v2 v3 : Value} (hD : W.heap[D]? = some (.cells #[.int .i64 s.v, a, b, c] 90 (0, 0)))
    (h1 : OwnN wa W.heap.size v1 s.n) (b1 : Below W.heap.size W wa) (h2 : OwnP wb wa.heap.size v2 s.p) (b2 : Below wa.heap.size wa wb) (h3 : OwnI wc wb.heap.size v3 s.c) (b3 : Below wb.heap.size wb wc) :
    Draft (fun k => k < W.heap.size ∧ k ≠ D) (((wc.setCell ⟨D, 1, none⟩ v1).setCell ⟨D, 2, none⟩ v2).setCell ⟨D, 3, none⟩ v3) D s v1 v2 v3 ∧ Keeps (fun k => k < W.heap.size ∧ k ≠ D) W (((wc.setCell ⟨D, 1, none⟩ v1).setCell ⟨D, 2, none⟩ v2).setCell ⟨D, 3, none⟩ v3) := by
  have hDl : D < W.heap.size := (Array.getElem?_eq_some_iff.1 hD).1
  have hoth : ∀ g, g ≠ D → (((wc.setCell ⟨D, 1, none⟩ v1).setCell ⟨D, 2, none⟩ v2).setCell ⟨D, 3, none⟩ v3).heap[g]? = wc.heap[g]? := fun g hg =>
    (Below.heap_setCell _ ⟨D, 3, none⟩ v3 g hg).trans ((Below.heap_setCell _ ⟨D, 2, none⟩ v2 g hg).trans (Below.heap_setCell _ ⟨D, 1, none⟩ v1 g hg))
  have hsz : (((wc.setCell ⟨D, 1, none⟩ v1).setCell ⟨D, 2, none⟩ v2).setCell ⟨D, 3, none⟩ v3).heap.size = wc.heap.size := by simp [World.setCell]
  have hDc : wc.heap[D]? = some (.cells #[.int .i64 s.v, a, b, c] 90 (0, 0)) := by
    rw [b3.block D (by have := b1.size; have := b2.size; omega), b2.block D (by have := b1.size; omega), b1.block D hDl, hD]
  have s1 := b1.size
  have s2 := b2.size
  have s3 := b3.size
  have l1 : ∀ g, v1.ownBlock = some g → W.heap.size ≤ g ∧ g < wa.heap.size := fun g hg => h1.lt g hg
  have l2 : ∀ g, v2.ownBlock = some g → wa.heap.size ≤ g ∧ g < wb.heap.size := fun g hg => h2.lt g hg
  have l3 : ∀ g, v3.ownBlock = some g → wb.heap.size ≤ g ∧ g < wc.heap.size := fun g hg => h3.lt g hg
  refine ⟨⟨?_, ?_, ?_, ?_, ?_, ?_, ?_, ?_, ?_, ?_, ?_, ?_, ?_, ?_, ?_⟩, ?_⟩
  · exact heap_setCell_of (heap_setCell_of (heap_setCell_of hDc 1 v1) 2 v2) 3 v3
  · exact own_base (own_keep h1 (w' := (((wc.setCell ⟨D, 1, none⟩ v1).setCell ⟨D, 2, none⟩ v2).setCell ⟨D, 3, none⟩ v3)) fun g hg => by
      have := l1 g hg
      rw [hoth g (by omega), b3.block g (by omega), b2.block g (by omega)])
  · exact own_base (own_keep h2 (w' := (((wc.setCell ⟨D, 1, none⟩ v1).setCell ⟨D, 2, none⟩ v2).setCell ⟨D, 3, none⟩ v3)) fun g hg => by
      have := l2 g hg
      rw [hoth g (by omega), b3.block g (by omega)])
  · exact own_base (own_keep h3 (w' := (((wc.setCell ⟨D, 1, none⟩ v1).setCell ⟨D, 2, none⟩ v2).setCell ⟨D, 3, none⟩ v3)) fun g hg => by
      have := l3 g hg
      rw [hoth g (by omega)])
  · intro e; have := l1 _ e; omega
  · intro e; have := l2 _ e; omega
  · intro e; have := l3 _ e; omega
  · intro g e e'; have := l1 _ e; have := l2 _ e'; omega
  · intro g e e'; have := l1 _ e; have := l3 _ e'; omega
  · intro g e e'; have := l2 _ e; have := l3 _ e'; omega
  · intro e; exact e.2 rfl
  · intro g e e'; have := l1 _ e; have := e'.1; omega
  · intro g e e'; have := l2 _ e; have := e'.1; omega
  · intro g e e'; have := l3 _ e; have := e'.1; omega
  · intro k hk
    rw [hsz]
    have := hk.1
    omega
  · exact ⟨b3.os.trans (b2.os.trans b1.os), b3.tape.trans (b2.tape.trans b1.tape), b3.output.trans (b2.output.trans b1.output), by rw [hsz]; omega, fun k hk => by
      rw [hoth k hk.2, b3.block k (by have := hk.1; omega), b2.block k (by have := hk.1; omega), b1.block k hk.1]⟩
/-- The draft's score, where nothing but a kept block has turned. -/
theorem Draft.answer {K : Nat → Prop} {w w' : World} {d R : Nat} {s : Sc} {vn vp vc : Value} (h : Draft K w d s vn vp vc) (hR : K R) (hblk : ∀ g, g < w.heap.size → g ≠ R → w'.heap[g]? = w.heap[g]?)
    (hn : s.n.length ≤ 1000000) (hp : s.p.length ≤ 1000000) (hc : s.c.length ≤ 1000000) :
    ∃ y : Lay, vn = .slice y.o1 s.n.length y.k1 ∧ vp = .slice y.o2 s.p.length y.k2 ∧ vc = .slice y.o3 s.c.length y.k3 ∧ ScAt w' s y ∧ CapOk s y ∧ NilOk y := by
  have k1 := own_keep h.notes (w' := w') fun g hg => hblk g (own_lt h.notes hg) (fun e => h.kn g hg (e ▸ hR))
  have k2 := own_keep h.pairs (w' := w') fun g hg => hblk g (own_lt h.pairs hg) (fun e => h.kp g hg (e ▸ hR))
  have k3 := own_keep h.cads (w' := w') fun g hg => hblk g (own_lt h.cads hg) (fun e => h.kc g hg (e ▸ hR))
  obtain ⟨o1, c1, e1, r1, n1, l1⟩ := own_at (cells := Nt.cells) Nt.len k1
  obtain ⟨o2, c2, e2, r2, n2, _⟩ := own_at (cells := Pr.cells) Pr.len k2
  obtain ⟨o3, c3, e3, r3, n3, l3⟩ := own_at (cells := int1) int1_len k3
  exact ⟨⟨o1, c1, o2, c2, o3, c3⟩, e1, e2, e3, ⟨r1, r2, r3, by omega, by omega, by omega⟩, ⟨l1, l3⟩, ⟨n1, n2, n3⟩⟩
/-- The draft's slices are new. -/
theorem Draft.fresh {K : Nat → Prop} {w : World} {d B n1 n2 n3 c1 c2 c3 : Nat} {s : Sc} {y : Lay} (h : Draft K w d s (.slice y.o1 n1 c1) (.slice y.o2 n2 c2) (.slice y.o3 n3 c3)) (hK : ∀ g, ¬ K g → g ≠ d → B ≤ g) : NewAt B y := fun b off hb => by
  rcases hb with e | e | e
  · have ho : (Value.slice y.o1 n1 c1).ownBlock = some b := by rw [e]; rfl
    exact hK b (h.kn b ho) (fun e' => h.dn (e' ▸ ho))
  · have ho : (Value.slice y.o2 n2 c2).ownBlock = some b := by rw [e]; rfl
    exact hK b (h.kp b ho) (fun e' => h.dp (e' ▸ ho))
  · have ho : (Value.slice y.o3 n3 c3).ownBlock = some b := by rw [e]; rfl
    exact hK b (h.kc b ho) (fun e' => h.dc (e' ▸ ho))
theorem edits_next {s s' s'' : Sc} {l : List Ed} {k : Nat} {x : Ed} (h : editsF s (l.take k) = some s') (hx : l[k]? = some x) (he : editF s' x = some s'') : editsF s (l.take (k + 1)) = some (sortF s'') := by
  rw [List.take_add_one, hx, Option.toList_some, editsF_append, h]
  simp only [Option.bind_some]
  rw [editsF, he]
  rfl
theorem edits_none {s s' : Sc} {l : List Ed} {k : Nat} {x : Ed} (h : editsF s (l.take k) = some s') (hx : l[k]? = some x) (he : editF s' x = none) : editsF s l = none := by
  have hl : l = l.take k ++ x :: l.drop (k + 1) := by
    obtain ⟨hk, rfl⟩ := List.getElem?_eq_some_iff.1 hx
    rw [← List.drop_eq_getElem_cons hk, List.take_append_drop]
  rw [hl, editsF_append, h]
  simp only [Option.bind_some]
  rw [editsF, he]
theorem editF_len {s s' : Sc} {x : Ed} (h : editF s x = some s') : s'.p.length ≤ s.p.length + 1 ∧ s'.n.length = s.n.length ∧ s'.c = s.c := by
  unfold editF at h
  by_cases h1 : x.k = 1
  · rw [if_pos h1] at h
    split at h
    · cases h
      simp
    · cases h
  · rw [if_neg h1] at h
    by_cases h2 : x.k = 2
    · rw [if_pos h2] at h
      split at h
      · cases h
        simp
      · cases h
    · rw [if_neg h2] at h
      by_cases h3 : x.k = 3
      · rw [if_pos h3] at h
        split at h
        · cases h
          refine ⟨?_, rfl, rfl⟩
          have := List.length_eraseIdx_le s.p x.i.toNat
          show (s.p.eraseIdx x.i.toNat).length ≤ _
          omega
        · cases h
      · rw [if_neg h3] at h
        split at h
        · cases h
          simp
        · cases h
end Go.Sc
