/- slices.swapRangeCmpFunc, rotateCmpFunc at pairs. The comparison of pairs in edition.Apply; slices.insertionSortCmpFunc at pairs. -/
import Derived.Test.YtjpbfggfoahoeaaGreatDoorSrB
import Derived.BigRegion
import Derived.Test.YtjpbfggfoahoeaaGreatDoorScR
namespace Go.Sc
open Go.RowKit Go.Proofs

theorem one_pr (p : Pr) : ∀ v ∈ p.cells, v.oneCell' = true := by intro v hv; simp [Pr.cells] at hv; rcases hv with h | h | h | h | h | h | h | h | h <;> rw [h] <;> rfl
/-- What an exchange of the elements at x and y reads and writes, at a program of which this alone is known, and at elements of k cells. -/
structure Swaps (P : Program) (k : Nat) (w : World) (g x y : Nat) (cx cy : List Value) : Prop where
  t3 : P.underlying 3 = some (TypeDesc.int IntKind.i64)
  a3 : ∀ w, (isAgg 3).run P w = .ok false w
  z3 : ∀ w, (Go.sizeOf 3).run P w = .ok 1 w
  t23 : P.underlying 23 = some (TypeDesc.slice 43)
  a23 : ∀ w, (isAgg 23).run P w = .ok false w
  z23 : ∀ w, (Go.sizeOf 23).run P w = .ok 1 w
  a43 : ∀ w, (isAgg 43).run P w = .ok true w
  z43 : ∀ w, (Go.sizeOf 43).run P w = .ok k w
  kx : cx.length = k
  ky : cy.length = k
  l1 : Sem.run P (loadCellsFrom ⟨g, x * k, none⟩ 0 k #[]) w = .ok cx.toArray w
  l2 : Sem.run P (loadCellsFrom ⟨g, y * k, none⟩ 0 k #[]) w = .ok cy.toArray w
  s1 : Sem.run P (storeCells ⟨g, x * k, none⟩ cy 0) w = .ok () (w.setCells g (x * k) cy)
  s2 : Sem.run P (storeCells ⟨g, y * k, none⟩ cx 0) (w.setCells g (x * k) cy) = .ok () ((w.setCells g (x * k) cy).setCells g (y * k) cx)
theorem PRow.loads {w : World} {g cap : Nat} {l : List Pr} (h : PRow w g cap l) {i : Nat} {p : Pr} (hp : l[i]? = some p) :
    Sem.run Tryz.prog (loadCellsFrom ⟨g, i * 9, none⟩ 0 9 #[]) w = .ok p.cells.toArray w :=
  run_loadCells_list (P := Tryz.prog) (w := w) ⟨g, i * 9, none⟩ p.cells fun j v hv => by rw [Addr.add_mid]; exact h.range hp j v hv
theorem PRow.stores {w : World} {g cap : Nat} {l : List Pr} (h : PRow w g cap l) {i : Nat} (hi : i < l.length) (p : Pr) :
    Sem.run Tryz.prog (storeCells ⟨g, i * 9, none⟩ p.cells 0) w = .ok () (w.setCells g (i * 9) p.cells) := by
  have := run_storeCells_cells (P := Tryz.prog) g (i * 9) p.cells 0 w (fun j hj => by simpa using (h.there hi j hj).1) (fun j hj => by simpa using (h.there hi j hj).2) (one_pr p)
  rwa [Nat.add_zero] at this
/-- The exchange of two elements of a row, and what lies there behind it. -/
theorem PRow.swaps {w : World} {g cap : Nat} {l : List Pr} (h : PRow w g cap l) {i j : Nat} {p q : Pr} (hp : l[i]? = some p) (hq : l[j]? = some q) {k : Nat} (hk : k = 9) :
    Swaps Tryz.prog k w g i j p.cells q.cells ∧ PRow ((w.setCells g (i * k) q.cells).setCells g (j * k) p.cells) g cap (So.swp l i j) := by
  subst hk
  have hi : i < l.length := (List.getElem?_eq_some_iff.1 hp).1
  have hj : j < l.length := (List.getElem?_eq_some_iff.1 hq).1
  have r1 := h.store hi q
  have hj' : j < (l.set i q).length := by rw [List.length_set]; exact hj
  exact ⟨⟨Tryz.underlying3, Tryz.isAgg3, Tryz.sizeOf3, Tryz.underlying23, Tryz.isAgg23, Tryz.sizeOf23, Tryz.isAgg43, Tryz.sizeOf43, rfl, rfl, h.loads hp, h.loads hq, h.stores hi q, r1.stores hj' p⟩, by rw [So.getElem?_swp hp hq]; exact r1.store hj' p⟩
theorem PRow.drew {w : World} {g cap : Nat} {l : List Pr} (h : PRow w g cap l) : PRow w.drew g cap l := h.keep (Below.refl _ _).drew

set_option maxRecDepth 100000 in
set_option maxHeartbeats 4000000 in
theorem swR_any (g cap : Nat) (l : List Pr) (a b n : Nat) (f : Value) (w : World) (h : PRow w g cap l) (ha : a + n ≤ l.length) (hb : b + n ≤ l.length) :
    Calls Tryz.prog 117 #[.slice (some ⟨g, 0, none⟩) l.length cap, .int .i64 a, .int .i64 b, .int .i64 n, f] w fun e w' => e = .returned (.tuple #[]) ∧ PRow w' g cap (So.swR a b n 0 l) ∧ Just g w w' := by
  have HN : Hid (PRow w g cap l) := h
  have hmax : l.length ≤ maxLen := Nat.le_trans h.len h.max
  unfold maxLen at hmax
  clear h
  go_enter Tryz.func117, Tryz.ntmps117
  go_wp2
  go_loopw [10] (fun v wr => ∃ (i : Nat) (li : List Pr), i ≤ n ∧ v = .int .i64 i ∧ li.length = l.length ∧ Hid (So.swR a b (n - i) i li = So.swR a b n 0 l) ∧ Hid (PRow wr g cap li) ∧ Hid (Just g w wr)) (fun v _ => n + 1 - (intOf v).toNat)
  case atStart => exact ⟨0, l, by omega, rfl, rfl, rfl, HN.out, Just.refl _ _⟩
  case round =>
    obtain ⟨i, li, hi, rfl, hlen, HS, HR, HJ⟩ := hrel
    by_cases hlt : i < n
    · obtain ⟨x, hx⟩ := get_of_lt (show a + i < li.length by omega)
      obtain ⟨y, hy⟩ := get_of_lt (show b + i < li.length by omega)
      have HX : Hid (li[a + i]? = some x) := hx
      have HY : Hid (li[b + i]? = some y) := hy
      go_wp2
      obtain ⟨k, hk⟩ : ∃ k, k = 9 := ⟨_, rfl⟩
      obtain ⟨hsw, hr2⟩ := HR.out.drew.swaps hx hy hk
      clear hx hy
      have HR2 := Lib.hid hr2
      clear hr2
      have HJ2 : Hid (Just g w ((wr.drew.setCells g ((a + i) * k) y.cells).setCells g ((b + i) * k) x.cells)) := (HJ.out.drew.setCells _ _).setCells _ _
      have q1 : IntKind.i64.wrap ((a : Int) + i) = (a : Int) + i := IntWalk.i64_in _ (by omega)
      have q2 : IntKind.i64.wrap ((b : Int) + i) = (b : Int) + i := IntWalk.i64_in _ (by omega)
      have q3 : (a : Int) + i < (l.length : Int) := by omega
      have q4 : (b : Int) + i < (l.length : Int) := by omega
      have q5 : (0 : Int) ≤ (a : Int) + i := by omega
      have q6 : (0 : Int) ≤ (b : Int) + i := by omega
      have q7 : ((a : Int) + i).toNat = a + i := by omega
      have q8 : ((b : Int) + i).toNat = b + i := by omega
      have HK := Lib.hid hk
      clear hk
      generalize x.cells = cx at *
      generalize y.cells = cy at *
      generalize hP : Tryz.prog = P at *
      obtain ⟨t3, a3, z3, t23, a23, z23, a43, z43, kx, ky, l1, l2, s1, s2⟩ := hsw
      go_region
      subst hP
      clear t3 a3 z3 t23 a23 z23 a43 z43 kx ky l1 l2 s1 s2 q1 q2 q3 q4 q5 q6 q7 q8
      generalize World.setCells _ _ _ _ = W at *
      go_wp2
      go_roundw
      case rel =>
        refine ⟨i + 1, So.swp li (a + i) (b + i), by omega, by go_num, by rw [So.length_swp]; exact hlen, ?_, HR2.out, HJ2.out⟩
        show _ = _
        rw [← HS.out, show n - i = n - (i + 1) + 1 by omega]
        rfl
      case measure => simp [intOf]; omega
    · go_wp2
      go_end0
      exact ⟨rfl, by have h0 := HS.out; rw [show n - i = 0 by omega] at h0; rw [← h0]; exact HR.out, HJ.out⟩
/-- The same, its numbers by equations. -/
theorem swR_at (g cap nl : Nat) (l : List Pr) (hn : l.length = nl) (a b n : Nat) (x y z : Int) (f : Value) (w : World) (h : PRow w g cap l) (ha : a + n ≤ nl) (hb : b + n ≤ nl) (hx : x = a) (hy : y = b) (hz : z = n) :
    Calls Tryz.prog 117 #[.slice (some ⟨g, 0, none⟩) nl cap, .int .i64 x, .int .i64 y, .int .i64 z, f] w fun e w' => e = .returned (.tuple #[]) ∧ PRow w' g cap (So.swR a b n 0 l) ∧ Just g w w' := by
  subst hn hx hy hz
  exact swR_any g cap l a b n f w h ha hb
theorem PRow.perm {w : World} {g cap : Nat} {l : List Pr} (h : PRow w g cap l) : l.length ≤ maxLen := Nat.le_trans h.len h.max

set_option maxRecDepth 100000 in
set_option maxHeartbeats 4000000 in
theorem rot_any (g cap : Nat) (l : List Pr) (s m e : Nat) (f : Value) (w : World) (h : PRow w g cap l) (hs : s < m) (hm : m < e) (he : e ≤ l.length) :
    Calls Tryz.prog 91 #[.slice (some ⟨g, 0, none⟩) l.length cap, .int .i64 s, .int .i64 m, .int .i64 e, f] w fun x w' => x = .returned (.tuple #[]) ∧ PRow w' g cap (So.rot m (e - s) (m - s) (e - m) l) ∧ Just g w w' := by
  have HN : Hid (PRow w g cap l) := h
  have hmax : l.length ≤ maxLen := h.perm
  unfold maxLen at hmax
  clear h
  go_enter Tryz.func91, Tryz.ntmps91
  go_wp2
  go_loopw [10, 11] (fun v u wr => ∃ (i j k : Nat) (li : List Pr), v = .int .i64 i ∧ u = .int .i64 j ∧ 0 < i ∧ 0 < j ∧ i ≤ m - s ∧ j ≤ e - m ∧ i + j ≤ k ∧ li.length = l.length ∧ Hid (So.rot m k i j li = So.rot m (e - s) (m - s) (e - m) l) ∧ Hid (PRow wr g cap li) ∧ Hid (Just g w wr)) (fun v u _ => (intOf v).toNat + (intOf u).toNat)
  case atStart => exact ⟨m - s, e - m, e - s, l, by go_num, by go_num, by omega, by omega, Nat.le_refl _, Nat.le_refl _, by omega, rfl, rfl, HN.out, Just.refl _ _⟩
  case round =>
    obtain ⟨i, j, k, li, rfl, rfl, hi, hj, his, hje, hk, hlen, HS, HR, HJ⟩ := hrel
    obtain ⟨k, rfl⟩ : ∃ q, k = q + 1 := ⟨k - 1, by omega⟩
    have z1 : (i : Int) ≤ m := by omega
    have z2 : IntKind.i64.wrap ((m : Int) - i) = (m : Int) - i := IntWalk.i64_in _ (by omega)
    have z3 : IntKind.i64.wrap ((i : Int) - j) = (i : Int) - j := IntWalk.i64_in _ (by omega)
    have z4 : IntKind.i64.wrap ((j : Int) - i) = (j : Int) - i := IntWalk.i64_in _ (by omega)
    have z5 : IntKind.i64.wrap ((m : Int) + j) = (m : Int) + j := IntWalk.i64_in _ (by omega)
    have z6 : IntKind.i64.wrap ((m : Int) + j - i) = (m : Int) + j - i := IntWalk.i64_in _ (by omega)
    by_cases hij : i = j
    · subst hij
      go_wp2_with (go_at_call 117; refine (swR_at g cap _ li hlen (m - i) m i _ _ _ _ wr HR.out (by omega) (by omega) (by omega) (by omega) (by omega)).mono ?_; rintro x w' ⟨rfl, hr, hjj⟩; have HR3 := Lib.hid hr; have HJ3 := Lib.hid hjj; clear hr hjj)
      go_end0
      refine ⟨rfl, ?_, HJ.out.trans HJ3.out⟩
      rw [← HS.out]
      unfold So.rot
      rw [if_pos rfl]
      exact HR3.out
    · have HE : Hid (So.rot m (k + 1) i j li = if j < i then So.rot m k (i - j) j (So.swR (m - i) m j 0 li) else So.rot m k i (j - i) (So.swR (m - i) (m + j - i) i 0 li)) := by show _ = _; rw [So.rot, if_neg hij]
      have hijz : ¬ (i : Int) = j := by omega
      by_cases hlt : j < i
      · have hltz : (j : Int) < i := by omega
        go_wp2_with (go_at_call 117; refine (swR_at g cap _ li hlen (m - i) m j _ _ _ _ wr HR.out (by omega) (by omega) (by omega) (by omega) (by omega)).mono ?_; rintro x w' ⟨rfl, hr, hjj⟩; have HR3 := Lib.hid hr; have HJ3 := Lib.hid hjj; clear hr hjj)
        go_roundw
        case rel =>
          refine ⟨i - j, j, k, _, by go_num, rfl, by omega, hj, by omega, hje, by omega, ?_, ?_, HR3.out, HJ.out.trans HJ3.out⟩
          · rw [(So.perm_swR _ _ _ _ _).length_eq]; exact hlen
          · show _ = _
            rw [← HS.out, HE.out, if_pos hlt]
        case measure => simp [intOf]; omega
      · have hltz : ¬ (j : Int) < i := by omega
        go_wp2_with (go_at_call 117; refine (swR_at g cap _ li hlen (m - i) (m + j - i) i _ _ _ _ wr HR.out (by omega) (by omega) (by omega) (by omega) (by omega)).mono ?_; rintro x w' ⟨rfl, hr, hjj⟩; have HR3 := Lib.hid hr; have HJ3 := Lib.hid hjj; clear hr hjj)
        go_roundw
        case rel =>
          refine ⟨i, j - i, k, _, rfl, by go_num, hi, by omega, his, by omega, by omega, ?_, ?_, HR3.out, HJ.out.trans HJ3.out⟩
          · rw [(So.perm_swR _ _ _ _ _).length_eq]; exact hlen
          · show _ = _
            rw [← HS.out, HE.out, if_neg hlt]
        case measure => simp [intOf]; omega
end Go.Sc

/-! The comparison of pairs in edition.Apply; slices.insertionSortCmpFunc at pairs. -/
namespace Go.Sc
open Go.RowKit Go.Proofs

/-- 'cmp(x, y) < 0'. -/
def ltQ (x y : Pr) : Bool := decide (orI (cmpI x.a y.a) (cmpI x.b y.b) < 0)
set_option maxRecDepth 100000 in
set_option maxHeartbeats 4000000 in
theorem cmpQ_any (a b : Pr) (w : World) : Calls Tryz.prog 30 #[.agg a.cells.toArray, .agg b.cells.toArray] w fun e w' => e = .returned (.int .i64 (orI (cmpI a.a b.a) (cmpI a.b b.b))) ∧ Below w.heap.size w w' := by
  obtain ⟨v, fr, a0, a1, a2, a3, a4, a5, td⟩ := a
  obtain ⟨v', fr', b0, b1, b2, b3, b4, b5, td'⟩ := b
  show Calls Tryz.prog 30 #[.agg #[.int .i64 v, .int .i64 fr, .int .i64 a0, .int .i64 a1, .int .i64 a2, .int .i64 a3, .int .i64 a4, .int .i64 a5, .int .i64 td], .agg #[.int .i64 v', .int .i64 fr', .int .i64 b0, .int .i64 b1, .int .i64 b2, .int .i64 b3, .int .i64 b4, .int .i64 b5, .int .i64 td']] w _
  dsimp only
  go_enter Tryz.func30, Tryz.ntmps30
  go_wp2
  generalize hW : World.alloc (World.alloc w _) _ = W0
  have e0 : W0.cell? ⟨w.heap.size, 0, none⟩ = some (.int .i64 v) := by rw [← hW]; simp
  have e1 : W0.cell? ⟨w.heap.size, 1, none⟩ = some (.int .i64 fr) := by rw [← hW]; simp
  have e2 : W0.cell? ⟨w.heap.size + 1, 0, none⟩ = some (.int .i64 v') := by rw [← hW]; simp
  have e3 : W0.cell? ⟨w.heap.size + 1, 1, none⟩ = some (.int .i64 fr') := by rw [← hW]; simp
  have HB : Hid (Below w.heap.size w W0) := by rw [← hW]; exact ((Below.refl _ _).alloc (Nat.le_refl _) _).alloc (by simp) _
  clear hW
  refine wp_region_still_tail 10 (by kernel_rfl) (by kernel_rfl) ?_
  simp only [List.take_succ_cons, List.take_zero, List.drop_succ_cons, List.drop_zero]
  change wpStill _ _ W0.drew _ _ _
  have HB2 : Hid (Below w.heap.size w W0.drew) := HB.out.drew
  have f0 : W0.drew.cell? ⟨w.heap.size, 0, none⟩ = some (.int .i64 v) := e0
  have f1 : W0.drew.cell? ⟨w.heap.size, 1, none⟩ = some (.int .i64 fr) := e1
  have f2 : W0.drew.cell? ⟨w.heap.size + 1, 0, none⟩ = some (.int .i64 v') := e2
  have f3 : W0.drew.cell? ⟨w.heap.size + 1, 1, none⟩ = some (.int .i64 fr') := e3
  repeat still_step
  still_call (compare_still _ _ _)
  repeat still_step
  still_call (compare_still _ _ _)
  repeat still_step
  refine wpStill_nil ?_
  change wpList _ _ _ _ _ W0.drew
  clear e0 e1 e2 e3 f0 f1 f2 f3 HB
  generalize W0.drew = W2 at *
  go_wp2_with (go_at_call 31; refine (or_any (cmpI v v') (cmpI fr fr') _ _ _ _ (by go_simp) (by go_simp)).mono ?_; rintro e w' ⟨rfl, rfl⟩)
  go_ret
  exact ⟨rfl, HB2.out.alloc (HB2.out.size) _⟩
theorem still_load_g {P : Program} {ops : Array Oper} {w : World} {Q : Act → Prop} {a : Act} {op : Oper} {rest : List Oper} (hgd : Region.wanted op (yielded ops a.tmps) = true) (ty : TypeId) (x : Operand) (ho : op.op = .load ty x)
    (b o : Nat) (hx : a.eval x = .pointer (some ⟨b, o, none⟩)) (cs : List Value) (d : TypeDesc) (hc : w.rangeAt b o cs)
    (hu : P.underlying ty = some d) (hd : d.isRow = true) (hi : (P.info? ty).map (·.size) = some cs.length)
    (h : wpStill P ops w Q rest (a.put op.dst (.agg cs.toArray))) : wpStill P ops w Q (op :: rest) a := by
  unfold wpStill
  rw [if_pos hgd]
  unfold Oper.still execOp
  simp only [ho, hx, Instr.loadAt, Instr.sureAddr, Sem.run_bind, Sem.run_pure, Result.andThen_ok, run_loadVar_mid w b o ty cs d hc hu hd hi]
  exact ⟨rfl, h⟩

set_option maxRecDepth 100000 in
set_option maxHeartbeats 4000000 in
theorem insS_any (g cap : Nat) (l : List Pr) (a b : Nat) (w : World) (h : PRow w g cap l) (hb : b ≤ l.length) (ha : a ≤ b) (hsz : l.length ≤ 1000000) :
    Calls Tryz.prog 72 #[.slice (some ⟨g, 0, none⟩) l.length cap, .int .i64 a, .int .i64 b, .func (.func 30) #[] #[]] w fun x w' => x = .returned (.tuple #[]) ∧ PRow w' g cap (So.insS ltQ a b l) ∧ Just g w w' := by
  have HN : Hid (PRow w g cap l) := h
  clear h
  go_enter Tryz.func72, Tryz.ntmps72
  go_wp2
  go_loopw [8] (fun v wr => ∃ (i : Nat) (li : List Pr), a < i ∧ i ≤ b + 1 ∧ v = .int .i64 i ∧ li.length = l.length ∧ Hid (So.insO ltQ a (b - i) i li = So.insS ltQ a b l) ∧ Hid (PRow wr g cap li) ∧ Hid (Just g w wr)) (fun v _ => b + 1 - (intOf v).toNat)
  case atStart => exact ⟨a + 1, l, by omega, by omega, by go_num, rfl, rfl, HN.out, Just.refl _ _⟩
  case round =>
    obtain ⟨i, li, hai, hib, rfl, hlen, HS, HR, HJ⟩ := hrel
    by_cases hlt : i < b
    · have hltz : (i : Int) < b := by omega
      go_wp2
      go_loopw [9] (fun v wr2 => ∃ (j : Nat) (lj : List Pr), a ≤ j ∧ j ≤ i ∧ v = .int .i64 j ∧ lj.length = l.length ∧ Hid (So.insI ltQ a j lj = So.insI ltQ a i li) ∧ Hid (PRow wr2 g cap lj) ∧ Hid (Just g w wr2)) (fun v _ => (intOf v).toNat)
      case atStart => exact ⟨i, li, by omega, Nat.le_refl _, rfl, hlen, rfl, HR.out, HJ.out⟩
      case round =>
        obtain ⟨j, lj, haj, hji, rfl, hlenj, HSj, HRj, HJj⟩ := hrel
        by_cases hja : a < j
        · have hjaz : (a : Int) < j := by omega
          obtain ⟨j, rfl⟩ : ∃ q, j = q + 1 := ⟨j - 1, by omega⟩
          obtain ⟨x, hx⟩ := get_of_lt (show j + 1 < lj.length by omega)
          obtain ⟨y, hy⟩ := get_of_lt (show j < lj.length by omega)
          have r1 : wr.drew.rangeAt g ((j + 1) * 9) x.cells := HRj.out.drew.range hx
          have r2 : wr.drew.rangeAt g (j * 9) y.cells := HRj.out.drew.range hy
          have HX : Hid (lj[j + 1]? = some x) := hx
          have HY : Hid (lj[j]? = some y) := hy
          have HRA := Lib.hid r1
          have HRB := Lib.hid r2
          clear hx hy r1 r2
          have q1 : IntKind.i64.wrap (j : Int) = (j : Int) := IntWalk.i64_in _ (by omega)
          have q3 : (j : Int) < (l.length : Int) := by omega
          have q5 : (j : Int) + 1 < (l.length : Int) := by omega
          have q6 : ((j : Int) + 1).toNat = j + 1 := by omega
          have q7 : (0 : Int) ≤ (j : Int) + 1 := by omega
          have q8 : (a : Int) < (j : Int) + 1 := by omega
          go_wp2_with fail
          refine wp_region_still_tail 14 (by kernel_rfl) (by kernel_rfl) ?_
          simp only [List.take_succ_cons, List.take_zero, List.drop_succ_cons, List.drop_zero]
          change wpStill _ _ wr.drew _ _ _
          iterate 8 still_step
          refine still_load_g rfl 43 (.tmp 25) rfl g ((j + 1) * 9) ?_ _ _ HRA.out Tryz.underlying43 rfl (by kernel_rfl) ?_
          · rfl
          iterate 4 still_step
          refine still_load_g rfl 43 (.tmp 30) rfl g (j * 9) ?_ _ _ HRB.out Tryz.underlying43 rfl (by kernel_rfl) ?_
          · rfl
          refine wpStill_nil ?_
          change wpList _ _ _ _ _ wr.drew
          have HR3 : Hid (PRow wr.drew g cap lj) := HRj.out.drew
          have HJ3 : Hid (Just g w wr.drew) := HJj.out.drew
          clear HRA HRB
          generalize wr.drew = W2 at *
          obtain ⟨c, hc⟩ : ∃ c, orI (cmpI x.a y.a) (cmpI x.b y.b) = c := ⟨_, rfl⟩
          have HL : Hid (So.less ltQ lj (j + 1) j = decide (c < 0)) := by show _ = _; rw [So.less_of HX.out HY.out]; unfold ltQ; rw [hc]
          have hcm := fun w0 => cmpQ_any x y w0
          rw [hc] at hcm
          have HCM : Aside _ := hcm
          clear hcm hc
          by_cases hlv : c < 0
          · go_wp2_with (go_at_call 30; refine (HCM.out _).mono ?_; rintro e w' ⟨rfl, hb2⟩; have HR4 := Lib.hid (HR3.out.keep hb2); have HJ4 := Lib.hid (HJ3.out.trans (Just.of hb2)); clear hb2)
            obtain ⟨k, hk⟩ : ∃ k, k = 9 := ⟨_, rfl⟩
            obtain ⟨hsw, hr2⟩ := HR4.out.drew.swaps HX.out HY.out hk
            have HR2 := Lib.hid hr2
            have HJ2 : Hid (Just g w ((w'.drew.setCells g ((j + 1) * k) y.cells).setCells g (j * k) x.cells)) := (HJ4.out.drew.setCells _ _).setCells _ _
            have HK := Lib.hid hk
            clear hk hr2 HR3 HJ3 HR4 HJ4
            generalize x.cells = cx at *
            generalize y.cells = cy at *
            generalize hP : Tryz.prog = P at *
            obtain ⟨t3, a3, z3, t23, a23, z23, a43, z43, kx, ky, l1, l2, s1, s2⟩ := hsw
            go_region
            subst hP
            clear t3 a3 z3 t23 a23 z23 a43 z43 kx ky l1 l2 s1 s2
            generalize World.setCells _ _ _ _ = W at *
            go_wp2
            go_roundw
            case rel =>
              refine ⟨j, So.swp lj (j + 1) j, by omega, by omega, by go_num, by rw [So.length_swp]; exact hlenj, ?_, HR2.out, HJ2.out⟩
              show _ = _
              rw [← HSj.out, So.insI, if_pos hja, HL.out, decide_eq_true hlv, if_pos rfl]
            case measure => simp [intOf] <;> omega
          · go_wp2_with (go_at_call 30; refine (HCM.out _).mono ?_; rintro e w' ⟨rfl, hb2⟩; have HR4 := Lib.hid (HR3.out.keep hb2); have HJ4 := Lib.hid (HJ3.out.trans (Just.of hb2)); clear hb2)
            go_roundw
            case rel =>
              refine ⟨i + 1, lj, by omega, by omega, by go_num, hlenj, ?_, HR4.out, HJ4.out⟩
              show _ = _
              rw [← HS.out, show b - i = b - (i + 1) + 1 by omega, So.insO, ← HSj.out, So.insI, if_pos hja, HL.out, decide_eq_false (show ¬ c < 0 by omega), if_neg Bool.false_ne_true]
            case measure => simp [intOf] <;> omega
        · have hjaz : decide ((j : Int) > (a : Int)) = false := decide_eq_false (by omega)
          go_wp2_with fail
          go_region
          all_goals go_wp2
          go_roundw
          case rel =>
            refine ⟨i + 1, lj, by omega, by omega, by go_num, hlenj, ?_, HRj.out.drew, HJj.out.drew⟩
            show _ = _
            rw [← HS.out, show b - i = b - (i + 1) + 1 by omega, So.insO, ← HSj.out, So.insI_stop _ _ _ _ (by omega)]
          case measure => simp [intOf] <;> omega
    · have hltz : ¬ (i : Int) < b := by omega
      go_wp2
      go_end0
      exact ⟨rfl, by have h0 := HS.out; rw [show b - i = 0 by omega] at h0; rw [← h0]; exact HR.out, HJ.out⟩
end Go.Sc
