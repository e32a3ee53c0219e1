/- The law EditionEdits: it answers true. -/
import Derived.Test.YtjpbfggfoahoeaaGreatDoorSrX
import Derived.Test.YtjpbfggfoahoeaaGreatDoorScJ
namespace Go.Sc
open Go.RowKit Go.Proofs

theorem info45 : (Tryz.prog.info? 45).map (fun i => (i.zero, i.size, i.bytes)) = some (some (.agg zeros45), 21, 168) := by kernel_rfl
theorem info45' : ∃ i, Tryz.prog.info? 45 = some i ∧ i.zero = some (.agg zeros45) ∧ i.size = 21 ∧ i.bytes = 168 := by
  cases hq : Tryz.prog.info? 45 with
  | none => have := info45; rw [hq] at this; cases this
  | some i =>
    have hi := info45
    rw [hq] at hi
    simp only [Option.map_some, Option.some.injEq, Prod.mk.injEq] at hi
    exact ⟨i, rfl, hi.1, hi.2.1, hi.2.2⟩
theorem one_edl (x : Ed) : ∀ v ∈ x.cells, v.oneCell' = true := by
  intro v hv
  have h := one_ed x
  rw [Array.all_eq_true_iff_forall_mem] at h
  exact h v (by simpa using hv)
/-- Edits appended to a row of edits that the call owns. -/
theorem app_eds (w : World) (base : Nat) (ty : TypeId) (v : Value) (l0 : List Ed) (hown : w.ownsRow base 45 21 v l0.length (l0.flatMap Ed.cells)) (o : Option Addr) (l : List Ed) (cap : Nat) (hrow : EdsAt w o l) (hlen : l0.length + l.length ≤ 1000) (hbase : base ≤ w.heap.size) :
    ∃ v' w', (Builtin.append_ #[35, 35] ty #[v, .slice o l.length cap]).run Tryz.prog w = .ok v' w' ∧ w'.ownsRow base 45 21 v' (l0 ++ l).length ((l0 ++ l).flatMap Ed.cells) ∧ w.grownBy w' v.ownBlock := by
  obtain ⟨i0, hi0, hz0, hz1, hz2⟩ := info45'
  rw [List.length_append, List.flatMap_append]
  cases o with
  | none =>
    have h0 : l = [] := List.length_eq_zero_iff.1 (hrow.nil rfl)
    subst h0
    simp only [List.length_nil, Nat.add_zero, List.flatMap_nil, List.append_nil]
    refine ⟨v, w, ?_, hown, World.grownBy.refl _ _⟩
    rcases hown.2 with ⟨rfl, _⟩ | ⟨g, c, cur, rfl, _, _, h1, _⟩
    · simp [Builtin.append_, run_underlying Tryz.underlying35, Tryz.sizeOf45, Builtin.lenOf, Builtin.firstCells]
    · simp [Builtin.append_, run_underlying Tryz.underlying35, Tryz.sizeOf45, Builtin.lenOf, Builtin.firstCells, h1, storeCells]
  | some ad =>
    obtain ⟨v', w', hr, h2, h3, _, _⟩ := run_append_own_at (P := Tryz.prog) w base 35 ty 45 i0 (.agg zeros45) 21 168 Tryz.underlying35 hi0 hz0 hz1 hz2 rfl (by decide) v l0.length (l0.flatMap Ed.cells) hown ad l.length cap (l.flatMap Ed.cells) (flat_length Ed.len l) (RowAt.news Ed.len (by decide) hrow) (flat_one one_edl l) (by unfold maxLen; omega) (by omega) hbase
    exact ⟨v', w', hr, h2, h3⟩
theorem step_append_eds (w : World) {ops : Array Oper} {oo : Oper} {a : Act} {K : Act → World → Prop} {Q : Exit → Act → World → Prop} {E : Prop} (hgd : oo.guard = none) (s x : Operand)
    (ho : oo.op = .call { callee := .builtin .append, args := #[s, x], argTypes := #[35, 35] })
    (base : Nat) (v : Value) (l0 : List Ed) (hs : a.eval s = v) (hown : w.ownsRow base 45 21 v l0.length (l0.flatMap Ed.cells)) (o : Option Addr) (l : List Ed) (cap : Nat) (hx : a.eval x = .slice o l.length cap) (hrow : EdsAt w o l) (hlen : l0.length + l.length ≤ 1000) (hbase : base ≤ w.heap.size)
    (h : ∀ v' w', w'.ownsRow base 45 21 v' (l0 ++ l).length ((l0 ++ l).flatMap Ed.cells) → w.grownBy w' v.ownBlock → K (a.put oo.dst v') w') :
    if Region.wanted oo (yielded ops a.tmps) = true then Oper.wp Tryz.prog oo a w K Q else E := by
  have hw : Region.wanted oo (yielded ops a.tmps) = true := by simp [Region.wanted, hgd]
  rw [if_pos hw]
  obtain ⟨v', w', hr, h2, h3⟩ := app_eds w base oo.type v l0 hown o l cap hrow hlen hbase
  unfold Oper.wp execOp
  simp only [ho, resolve, invoke, builtin, Sem.run_bind, Sem.run_pure, Result.andThen_ok, List.map_toArray, List.map_cons, List.map_nil, hs, hx, hr]
  exact h v' w' h2 h3
theorem eds_two (w : World) (x y : Ed) : EdsAt (w.alloc (.cells (x.cells ++ y.cells).toArray 45)) (some ⟨w.heap.size, 0, none⟩) [x, y] := fun k n hk => by
  have hr := rangeAt_new w (x.cells ++ y.cells).toArray 45
  rw [List.toList_toArray] at hr
  match k, hk with
  | 0, hk =>
    simp at hk
    subst hk
    refine ⟨w.heap.size, 0, rfl, by simp, fun j v hj => ?_⟩
    have hjl : j < x.cells.length := (List.getElem?_eq_some_iff.1 hj).1
    have := hr j v (by rw [List.getElem?_append_left hjl]; exact hj)
    simpa using this
  | 1, hk =>
    simp at hk
    subst hk
    refine ⟨w.heap.size, 0, rfl, by simp, fun j v hj => ?_⟩
    have := hr (21 + j) v (by rw [List.getElem?_append_right (by rw [Ed.len]; omega), Ed.len, show 21 + j - 21 = j by omega]; exact hj)
    simpa using this
  | k + 2, hk => simp at hk
/-- What the law carries. -/
structure EdsW (w0 : World) (s : Sc) (y : Lay) (o1 : Option Addr) (l1 : List Ed) (o2 : Option Addr) (l2 : List Ed) (w : World) : Prop where
  below : Below w0.heap.size w0 w
  laid : LaidAt w
  sc : ScAt w s y
  box : w.rangeAt w0.heap.size 0 (s.cells y).toList
  e1 : EdsAt w o1 l1
  e2 : EdsAt w o2 l2
theorem EdsW.go {w0 w w' : World} {s : Sc} {y : Lay} {o1 o2 : Option Addr} {l1 l2 : List Ed} (h : EdsW w0 s y o1 l1 o2 l2 w) (hb : Below w.heap.size w w') : EdsW w0 s y o1 l1 o2 l2 w' :=
  ⟨h.below.trans (hb.mono h.below.size), h.laid.below hb, h.sc.below hb, rangeAt_le hb h.box, h.e1.below hb, h.e2.below hb⟩
/-- A score that an edit gave, in its box. -/
structure ResW (B : Nat) (r : Sc) (z : Lay) (w : World) : Prop where
  sc : ScAt w r z
  box : w.rangeAt B 0 (r.cells z).toList
  lt : B < w.heap.size
theorem ResW.go {B : Nat} {r : Sc} {z : Lay} {w w' : World} (h : ResW B r z w) (hb : Below w.heap.size w w') : ResW B r z w' :=
  ⟨h.sc.below hb, rangeAt_le hb h.box, Nat.lt_of_lt_of_le h.lt hb.size⟩
theorem res_new {w : World} {r : Sc} {z : Lay} (h : ScAt w r z) : ResW w.heap.size r z (w.alloc (.cells (r.cells z) 26)) :=
  ⟨h.below ((Below.refl _ w).alloc (Nat.le_refl _) _), rangeAt_new w _ 26, by simp⟩
theorem eds_start (w : World) (s : Sc) (y : Lay) (o1 o2 : Option Addr) (l1 l2 : List Ed) (hl : LaidAt w) (ha : ScAt w s y) (h1 : EdsAt w o1 l1) (h2 : EdsAt w o2 l2) : EdsW w s y o1 l1 o2 l2 (w.alloc (.cells (s.cells y) 26)) := by
  have h : Below w.heap.size w (w.alloc (.cells (s.cells y) 26)) := (Below.refl _ w).alloc (Nat.le_refl _) _
  exact ⟨h, hl.below h, ha.below h, rangeAt_new w _ 26, h1.below h, h2.below h⟩
theorem rowAt_setCell {α : Type} {size : Nat} {cells : α → List Value} {w : World} {o : Option Addr} {l : List α} (h : RowAt size cells w o l) {B i : Nat} (u : Value) (hne : ∀ b off, o = some ⟨b, off, none⟩ → b ≠ B) : RowAt size cells (w.setCell ⟨B, i, none⟩ u) o l := fun k n hk => by
  obtain ⟨b, off, h1, h2, h3⟩ := h k n hk
  exact ⟨b, off, h1, by simpa [World.setCell] using h2, rangeAt_setCell h3 (hne b off h1)⟩
/-- The zero score in a block. -/
abbrev ZB (w : World) (B : Nat) : Prop := w.heap[B]? = some (.cells #[.int .i64 0, .slice none 0 0, .slice none 0 0, .slice none 0 0] 26 (0, 0))
/-- A score is stored into a block that holds one; its slices lie in later blocks. -/
theorem res_set {w : World} {B C : Nat} {r : Sc} {z : Lay} (hB : ZB w B) (h : ScAt w r z) (hnew : NewAt C z) (hBC : B < C) :
    ResW B r z ((((w.setCell ⟨B, 0, none⟩ (.int .i64 r.v)).setCell ⟨B, 1, none⟩ (.slice z.o1 r.n.length z.k1)).setCell ⟨B, 2, none⟩ (.slice z.o2 r.p.length z.k2)).setCell ⟨B, 3, none⟩ (.slice z.o3 r.c.length z.k3)) := by
  have n1 : ∀ b off, z.o1 = some ⟨b, off, none⟩ → b ≠ B := fun b off e => by have := hnew b off (.inl e); omega
  have n2 : ∀ b off, z.o2 = some ⟨b, off, none⟩ → b ≠ B := fun b off e => by have := hnew b off (.inr (.inl e)); omega
  have n3 : ∀ b off, z.o3 = some ⟨b, off, none⟩ → b ≠ B := fun b off e => by have := hnew b off (.inr (.inr e)); omega
  have hblk := heap_setCell_of (heap_setCell_of (heap_setCell_of (heap_setCell_of hB 0 (.int .i64 r.v)) 1 (.slice z.o1 r.n.length z.k1)) 2 (.slice z.o2 r.p.length z.k2)) 3 (.slice z.o3 r.c.length z.k3)
  refine ⟨⟨?_, ?_, ?_, h.2.2.2⟩, ?_, ?_⟩
  · exact rowAt_setCell (rowAt_setCell (rowAt_setCell (rowAt_setCell h.1 _ n1) _ n1) _ n1) _ n1
  · exact rowAt_setCell (rowAt_setCell (rowAt_setCell (rowAt_setCell h.2.1 _ n2) _ n2) _ n2) _ n2
  · exact rowAt_setCell (rowAt_setCell (rowAt_setCell (rowAt_setCell h.2.2.1 _ n3) _ n3) _ n3) _ n3
  · intro j v hj
    rw [cell_of_row _ B (0 + j) _ 26 (0, 0) hblk]
    simpa [Sc.cells] using hj
  · have := (Array.getElem?_eq_some_iff.1 hB).1
    simpa [World.setCell] using this
/-- No block of a score is that of a row of edits. -/
theorem own_ne {w : World} {base B : Nat} {v : Value} {n : Nat} {xs : List Value} (h : w.ownsRow base 45 21 v n xs) (hB : ZB w B) : some B ≠ v.ownBlock := fun e => by
  rcases h.2 with ⟨hv, _⟩ | ⟨g, cap, cur, hv, _, hg, _⟩
  · rw [hv] at e; cases e
  · rw [hv] at e
    have e' : B = g := Option.some.inj e
    subst e'
    have hB' : w.heap[B]? = _ := hB
    rw [hg] at hB'
    simp at hB'
theorem zb_grown {w w' : World} {base : Nat} {v : Value} {n : Nat} {xs : List Value} (h : w.ownsRow base 45 21 v n xs) (hg : w.grownBy w' v.ownBlock) : ∀ B, ZB w B → ZB w' B := fun B hB =>
  (hg.block B (Array.getElem?_eq_some_iff.1 hB).1 (own_ne h hB)).trans hB
theorem zb_below {w w' : World} (hb : Below w.heap.size w w') : ∀ B, ZB w B → ZB w' B := fun B hB => (hb.block B (Array.getElem?_eq_some_iff.1 hB).1).trans hB
theorem set4_below {B0 : Nat} {a w : World} (h : Below B0 a w) {B : Nat} (hB : B0 ≤ B) (u0 u1 u2 u3 : Value) : Below B0 a ((((w.setCell ⟨B, 0, none⟩ u0).setCell ⟨B, 1, none⟩ u1).setCell ⟨B, 2, none⟩ u2).setCell ⟨B, 3, none⟩ u3) :=
  (((h.setCell (p := ⟨B, 0, none⟩) hB u0).setCell (p := ⟨B, 1, none⟩) hB u1).setCell (p := ⟨B, 2, none⟩) hB u2).setCell (p := ⟨B, 3, none⟩) hB u3
set_option maxRecDepth 100000 in
set_option maxHeartbeats 16000000 in
theorem law_edits (s : Sc) (y : Lay) (oa ob : Option Addr) (la lb : List Ed) (ca cb : Nat) (at8 : Int) (w : World) (hl : LaidAt w) (ha : ScAt w s y) (hn : NilOk y) (h1 : EdsAt w oa la) (h2 : EdsAt w ob lb) (h0 : 0 ≤ at8) (h255 : at8 ≤ 255) :
    Calls Tryz.prog 4 #[.agg (s.cells y), .slice oa la.length ca, .slice ob lb.length cb, .int .u8 at8] w (fun e w' => e = .returned (.bool true) ∧ Below w.heap.size w w') := by
  have HW0 := Lib.hid (eds_start w s y oa ob la lb hl ha h1 h2)
  have HN := Lib.hid hn
  clear hl ha hn h1 h2
  obtain ⟨V, N, P, C⟩ := s
  obtain ⟨o1, k1, o2, k2, o3, k3⟩ := y
  show Calls Tryz.prog 4 #[.agg #[.int .i64 V, .slice o1 N.length k1, .slice o2 P.length k2, .slice o3 C.length k3], .slice oa la.length ca, .slice ob lb.length cb, .int .u8 at8] w _
  go_enter Tryz.func4, Tryz.ntmps4
  go_wp2_with fail
  refine (head_any HW0.out.laid).mono ?_
  rintro e w1 ⟨rfl, hb1⟩
  have HW1 := Lib.hid (HW0.out.go hb1)
  clear hb1 HW0
  obtain ⟨x0, x1, x2, x3⟩ := box_cells HW1.out.box
  dsimp only at x0 x1 x2 x3
  by_cases hf : fewOk ⟨V, N, P, C⟩
  case neg =>
    have HF := Lib.hid hf
    clear hf
    go_wp2_with fail
    refine (few_no (y := ⟨o1, k1, o2, k2, o3, k3⟩) HF.out).mono ?_
    rintro e w9 ⟨rfl, hb⟩
    have HB := Lib.hid (HW1.out.go hb).below
    clear hb
    go_wp2_with fail
    go_ret
    exact ⟨rfl, HB.out⟩
  have HF := Lib.hid hf
  clear hf
  go_wp2_with fail
  refine (few_yes (y := ⟨o1, k1, o2, k2, o3, k3⟩) HF.out).mono ?_
  rintro e w2 ⟨rfl, hb⟩
  have HW2 := Lib.hid (HW1.out.go hb)
  clear hb HW1 x0 x1 x2 x3
  by_cases hla : la.length ≤ 20
  case neg =>
    have d1 : decide ((la.length : Int) > 20) = true := by simp; omega
    go_wp2_with fail
    go_ret
    exact ⟨rfl, HW2.out.below⟩
  have d1 : decide ((la.length : Int) > 20) = false := by simp; omega
  by_cases hlb : lb.length ≤ 20
  case neg =>
    have d2 : decide ((lb.length : Int) > 20) = true := by simp; omega
    go_wp2_with fail
    go_ret
    exact ⟨rfl, HW2.out.below⟩
  have d2 : decide ((lb.length : Int) > 20) = false := by simp; omega
  obtain ⟨x0, x1, x2, x3⟩ := box_cells HW2.out.box
  dsimp only at x0 x1 x2 x3
  go_wp2_with fail
  clear d1 d2
  refine (apply_any ⟨V, N, P, C⟩ ⟨o1, k1, o2, k2, o3, k3⟩ [] none 0 _ HW2.out.sc HN.out (fun k n h => by simp at h)).mono ?_
  rintro e w3 ⟨r, yr, er, hA, rfl, hsr, _, _, hb⟩
  have HW3 := Lib.hid (HW2.out.go hb)
  have HSR := Lib.hid hsr
  have hnone := hA.none
  clear hA hsr hb HW2 x0 x1 x2 x3
  obtain ⟨V1, N1, P1, C1⟩ := r
  obtain ⟨p1, q1, p2, q2, p3, q3⟩ := yr
  dsimp only [Sc.cells]
  have hb4 : Below w3.heap.size w3 (w3.alloc (.cells #[.int .i64 V1, .slice p1 N1.length q1, .slice p2 P1.length q2, .slice p3 C1.length q3] 26)) := (Below.refl _ w3).alloc (Nat.le_refl _) _
  have HW4 := Lib.hid (HW3.out.go hb4)
  have HR4 : Hid (ResW w3.heap.size ⟨V1, N1, P1, C1⟩ ⟨p1, q1, p2, q2, p3, q3⟩ (w3.alloc (.cells #[.int .i64 V1, .slice p1 N1.length q1, .slice p2 P1.length q2, .slice p3 C1.length q3] 26))) := res_new HSR.out
  clear hb4 HW3 HSR
  rcases hnone with ⟨hnv, rfl⟩ | ⟨hv, hreq, rfl⟩
  case inl =>
    clear hnv
    go_wp2_with fail
    go_ret
    exact ⟨rfl, HW4.out.below⟩
  have HV := Lib.hid hv
  have HREQ := Lib.hid hreq
  clear hv hreq
  go_upto_region 7 with (fail)
  generalize hW4 : World.alloc w3 _ = w4 at *
  clear hW4
  obtain ⟨x0, x1, x2, x3⟩ := box_cells HW4.out.box
  dsimp only at x0 x1 x2 x3
  obtain ⟨y0, y1, y2, y3⟩ := box_cells HR4.out.box
  dsimp only at y0 y1 y2 y3
  go_wp2_with fail
  refine (requal_yes (ya := ⟨p1, q1, p2, q2, p3, q3⟩) (yb := ⟨o1, k1, o2, k2, o3, k3⟩) HR4.out.sc HW4.out.sc HREQ.out).mono ?_
  rintro e w5 ⟨rfl, hb⟩
  have HW5 := Lib.hid (HW4.out.go hb)
  clear hb HW4 HR4 x0 x1 x2 x3 y0 y1 y2 y3
  obtain ⟨x0, x1, x2, x3⟩ := box_cells HW5.out.box
  dsimp only at x0 x1 x2 x3
  go_wp2_with fail
  refine (apply_any ⟨V, N, P, C⟩ ⟨o1, k1, o2, k2, o3, k3⟩ la oa ca _ HW5.out.sc HN.out HW5.out.e1).mono ?_
  rintro e w6 ⟨r, yr, ef, hA, rfl, hsr, _, hnr, hb⟩
  have HW6 := Lib.hid (HW5.out.go hb)
  have HSR := Lib.hid hsr
  have HA1 := Lib.hid hA
  have HN2 := Lib.hid hnr
  clear hA hsr hb hnr HW5 x0 x1 x2 x3
  obtain ⟨V2, N2, P2, C2⟩ := r
  obtain ⟨r1, t1, r2, t2, r3, t3⟩ := yr
  dsimp only [Sc.cells]
  have hb7 : Below w6.heap.size w6 (w6.alloc (.cells #[.int .i64 V2, .slice r1 N2.length t1, .slice r2 P2.length t2, .slice r3 C2.length t3] 26)) := (Below.refl _ w6).alloc (Nat.le_refl _) _
  have HW7 := Lib.hid (HW6.out.go hb7)
  have HR7 : Hid (ResW w6.heap.size ⟨V2, N2, P2, C2⟩ ⟨r1, t1, r2, t2, r3, t3⟩ (w6.alloc (.cells #[.int .i64 V2, .slice r1 N2.length t1, .slice r2 P2.length t2, .slice r3 C2.length t3] 26))) := res_new HSR.out
  have hB12 : w6.heap.size < w6.heap.size + 1 := by omega
  clear hb7 HW6 HSR
  go_upto_region 9 with (fail)
  generalize hW7 : World.alloc w6 _ = w7 at *
  clear hW7
  obtain ⟨x0, x1, x2, x3⟩ := box_cells HW7.out.box
  dsimp only at x0 x1 x2 x3
  obtain ⟨B12, hB⟩ : ∃ B, w6.heap.size = B := ⟨_, rfl⟩
  rw [hB] at HR7
  rw [hB]
  clear hB hB12
  obtain ⟨lc, hlc⟩ : ∃ lc, la ++ lb = lc := ⟨_, rfl⟩
  have HLC := Lib.hid hlc
  clear hlc
  have hzA : w.heap.size < w7.heap.size := World.block_lt_of_cell? w7 _ x0
  have hoa : (w7.alloc (.cells #[] 45)).ownsRow w7.heap.size 45 21 (.slice (some ⟨w7.heap.size, 0, none⟩) 0 0) 0 [] := World.ownsRow_made w7 #[] 0 (Nat.le_refl _) (by decide) rfl
  have HOa : Hid (((w7.alloc (.cells #[] 45)).drew).ownsRow w7.heap.size 45 21 (.slice (some ⟨w7.heap.size, 0, none⟩) 0 0) ([] : List Ed).length (([] : List Ed).flatMap Ed.cells)) := hoa
  have HOb : Hid ((((w7.alloc (.cells #[] 45)).alloc Z26).drew).ownsRow w7.heap.size 45 21 (.slice (some ⟨w7.heap.size, 0, none⟩) 0 0) ([] : List Ed).length (([] : List Ed).flatMap Ed.cells)) := hoa.alloc Z26
  have hoc : ((w7.alloc Z26).alloc (.cells #[] 45)).ownsRow w7.heap.size 45 21 (.slice (some ⟨(w7.alloc Z26).heap.size, 0, none⟩) 0 0) 0 [] := World.ownsRow_made (w7.alloc Z26) #[] 0 (by simp) (by decide) rfl
  rw [World.size_alloc] at hoc
  have HOc : Hid ((((w7.alloc Z26).alloc (.cells #[] 45)).drew).ownsRow w7.heap.size 45 21 (.slice (some ⟨w7.heap.size + 1, 0, none⟩) 0 0) ([] : List Ed).length (([] : List Ed).flatMap Ed.cells)) := hoc
  have HBa : Hid (Below w7.heap.size w7 ((w7.alloc (.cells #[] 45)).drew)) := ((Below.refl _ w7).alloc (Nat.le_refl _) _).drew
  have HBb : Hid (Below w7.heap.size w7 (((w7.alloc (.cells #[] 45)).alloc Z26).drew)) := (((Below.refl _ w7).alloc (Nat.le_refl _) _).alloc (by simp) _).drew
  have HBc : Hid (Below w7.heap.size w7 (((w7.alloc Z26).alloc (.cells #[] 45)).drew)) := (((Below.refl _ w7).alloc (Nat.le_refl _) _).alloc (by simp) _).drew
  have HEa : Hid (EdsAt ((w7.alloc (.cells #[] 45)).drew) oa la) := HW7.out.e1.below HBa.out
  have HEb : Hid (EdsAt (((w7.alloc (.cells #[] 45)).alloc Z26).drew) oa la) := HW7.out.e1.below HBb.out
  have HEc : Hid (EdsAt (((w7.alloc Z26).alloc (.cells #[] 45)).drew) oa la) := HW7.out.e1.below HBc.out
  have hzb' := heap_alloc_at (w7.alloc (.cells #[] 45)) Z26
  rw [World.size_alloc] at hzb'
  have HZb : Hid (ZB (((w7.alloc (.cells #[] 45)).alloc Z26).drew) (w7.heap.size + 1)) := hzb'
  have HZc : Hid (ZB (((w7.alloc Z26).alloc (.cells #[] 45)).drew) w7.heap.size) := (heap_alloc_old (w7.alloc Z26) _ (by simp)).trans (heap_alloc_at w7 Z26)
  clear hoa hoc hzb'
  go_cut [14, 15] from 61 to 69 (fun b g wx => ∃ (B : Nat) (rr : Sc) (zz : Lay) (eg : Int), b = .pointer (some ⟨B, 0, none⟩) ∧ g = .int .i64 eg ∧ Hid (ApplyE ⟨V, N, P, C⟩ lc rr eg) ∧ Hid (EdsW w ⟨V, N, P, C⟩ ⟨o1, k1, o2, k2, o3, k3⟩ oa la ob lb wx) ∧ Hid (ResW B rr zz wx) ∧ Hid (ResW B12 ⟨V2, N2, P2, C2⟩ ⟨r1, t1, r2, t2, r3, t3⟩ wx))
  case first =>
    have hxd := x0
    go_region_held3 (fun W => W.cell? ⟨w.heap.size, 0, none⟩ = some (.int .i64 V) ∧ W.cell? ⟨w.heap.size, 1, none⟩ = some (.slice o1 N.length k1) ∧ W.cell? ⟨w.heap.size, 2, none⟩ = some (.slice o2 P.length k2) ∧ W.cell? ⟨w.heap.size, 3, none⟩ = some (.slice o3 C.length k3)) (first | with_reducible exact ⟨x0, x1, x2, x3⟩ | (refine ⟨?_, ?_, ?_, ?_⟩ <;> go_simp) | go_keep) (first
      | (go_at_call 11; refine (apply_any ⟨V, N, P, C⟩ ⟨o1, k1, o2, k2, o3, k3⟩ lc oc kc _ (by first | exact HWX.out.sc | exact HWX.out.sc.below ((Below.refl _ w9).alloc (Nat.le_refl _) _)) HN.out (by first | exact HROW.out | exact HROW.out.alloc _)).mono ?_; rintro e w10 ⟨r, yr, eg, hA, rfl, hsr, _, ⟨_, hnew⟩, hb⟩; obtain ⟨V3, N3, P3, C3⟩ := r; obtain ⟨u1, m1, u2, m2, u3, m3⟩ := yr; dsimp only [Sc.cells]; have HA2 := Lib.hid hA; have HSR := Lib.hid hsr; have HNEW := Lib.hid hnew; have hb10 : Below w7.heap.size w7 w10 := (by first | exact HB9.out.trans (hb.mono HB9.out.size) | exact (HB9.out.alloc HB9.out.size _).trans (hb.mono (by have := HB9.out.size; simp <;> omega))); have HB10 := Lib.hid hb10; have HZ3 : Aside _ := zb_below hb; clear hA hsr hnew hb hb10; have HWX := Lib.hid (HW7.out.go HB10.out); obtain ⟨x0, x1, x2, x3⟩ := box_cells HWX.out.box; dsimp only at x0 x1 x2 x3; have hz10 : w.heap.size < w10.heap.size := World.block_lt_of_cell? w10 _ x0; (first | (have hz9 : ZB w9 w7.heap.size := (by with_reducible exact HZ2.out _ (HZ1.out _ HZc.out)); have hbc := (Array.getElem?_eq_some_iff.1 hz9).1; have hzb : ZB w10 w7.heap.size := (by with_reducible exact HZ3.out _ hz9); clear hz9; have hq := fun o => cell_of_row w10 w7.heap.size o _ 26 (0, 0) hzb; have hfz : ∀ o, w10.frozen? ⟨w7.heap.size, o, none⟩ = false := fun o => (by unfold World.frozen?; simp [hzb]); have t0 := hq 0; have t1 := hq 1; have t2 := hq 2; have t3 := hq 3; have g0 := hfz 0; have g1 := hfz 1; have g2 := hfz 2; have g3 := hfz 3; simp only [List.getElem?_toArray, List.getElem?_cons_succ, List.getElem?_cons_zero] at t0 t1 t2 t3; have HZB := Lib.hid hzb; have HBC := Lib.hid hbc; clear hq hfz hzb hbc) | (have hz9 : ZB w9 (w7.heap.size + 1) := (by with_reducible exact HZ2.out _ (HZ1.out _ HZb.out)); have hbc := (Array.getElem?_eq_some_iff.1 hz9).1; have hzb : ZB w10 (w7.heap.size + 1) := (by with_reducible exact HZ3.out _ hz9); clear hz9; have hq := fun o => cell_of_row w10 (w7.heap.size + 1) o _ 26 (0, 0) hzb; have hfz : ∀ o, w10.frozen? ⟨(w7.heap.size + 1), o, none⟩ = false := fun o => (by unfold World.frozen?; simp [hzb]); have t0 := hq 0; have t1 := hq 1; have t2 := hq 2; have t3 := hq 3; have g0 := hfz 0; have g1 := hfz 1; have g2 := hfz 2; have g3 := hfz 3; simp only [List.getElem?_toArray, List.getElem?_cons_succ, List.getElem?_cons_zero] at t0 t1 t2 t3; have HZB := Lib.hid hzb; have HBC := Lib.hid hbc; clear hq hfz hzb hbc) | (have hz9 : ZB w9 w8.heap.size := (by with_reducible exact HZ2.out _ (heap_alloc_at w8 Z26)); have hbc := (Array.getElem?_eq_some_iff.1 hz9).1; have hzb : ZB w10 w8.heap.size := (by with_reducible exact HZ3.out _ hz9); clear hz9; have hq := fun o => cell_of_row w10 w8.heap.size o _ 26 (0, 0) hzb; have hfz : ∀ o, w10.frozen? ⟨w8.heap.size, o, none⟩ = false := fun o => (by unfold World.frozen?; simp [hzb]); have t0 := hq 0; have t1 := hq 1; have t2 := hq 2; have t3 := hq 3; have g0 := hfz 0; have g1 := hfz 1; have g2 := hfz 2; have g3 := hfz 3; simp only [List.getElem?_toArray, List.getElem?_cons_succ, List.getElem?_cons_zero] at t0 t1 t2 t3; have HZB := Lib.hid hzb; have HBC := Lib.hid hbc; clear hq hfz hzb hbc) | (have hz9 : ZB (w9.alloc Z26) w9.heap.size := (heap_alloc_at w9 Z26); have hbc := (Array.getElem?_eq_some_iff.1 hz9).1; have hzb : ZB w10 w9.heap.size := (by with_reducible exact HZ3.out _ hz9); clear hz9; have hq := fun o => cell_of_row w10 w9.heap.size o _ 26 (0, 0) hzb; have hfz : ∀ o, w10.frozen? ⟨w9.heap.size, o, none⟩ = false := fun o => (by unfold World.frozen?; simp [hzb]); have t0 := hq 0; have t1 := hq 1; have t2 := hq 2; have t3 := hq 3; have g0 := hfz 0; have g1 := hfz 1; have g2 := hfz 2; have g3 := hfz 3; simp only [List.getElem?_toArray, List.getElem?_cons_succ, List.getElem?_cons_zero] at t0 t1 t2 t3; have HZB := Lib.hid hzb; have HBC := Lib.hid hbc; clear hq hfz hzb hbc) | skip))
      | (refine step_append_eds _ rfl (.tmp 62) (.tmp 63) rfl w7.heap.size _ [] rfl (by first | exact HOc.out | exact World.ownsRow_made _ #[] 0 (by first | omega | (simp <;> omega)) (by decide) rfl | exact (World.ownsRow_made _ #[] 0 (by first | omega | (simp <;> omega)) (by decide) rfl).alloc _) oa la ca rfl (by first | with_reducible exact HEa.out | with_reducible exact HEb.out | with_reducible exact HEc.out) (by simp <;> omega) (by first | with_reducible exact HBa.out.size | with_reducible exact HBb.out.size | with_reducible exact HBc.out.size) ?_; intro v' w8 hown hgrow; have hz1 := zb_grown (base := w7.heap.size) (n := ([] : List Ed).length) (xs := ([] : List Ed).flatMap Ed.cells) (by first | exact HOc.out | exact World.ownsRow_made _ #[] 0 (by first | omega | (simp <;> omega)) (by decide) rfl | exact (World.ownsRow_made _ #[] 0 (by first | omega | (simp <;> omega)) (by decide) rfl).alloc _) hgrow; have hb8 : Below w7.heap.size w7 w8 := (by first | exact HBc.out.grown hgrow HBc.out.size (by intro b e; have e' := Option.some.inj e; simp at e'; omega) | exact HBa.out.grown hgrow HBa.out.size (by intro b e; have e' := Option.some.inj e; simp at e'; omega) | exact HBb.out.grown hgrow HBb.out.size (by intro b e; have e' := Option.some.inj e; simp at e'; omega)); rw [List.nil_append] at hown; have HB8 := Lib.hid hb8; have HO8 := Lib.hid hown; have HZ1 : Aside _ := hz1; clear hown hgrow hb8 hz1; have HWX := Lib.hid (HW7.out.go HB8.out); obtain ⟨x0, x1, x2, x3⟩ := box_cells HWX.out.box; dsimp only at x0 x1 x2 x3; have hz8 : w.heap.size < w8.heap.size := World.block_lt_of_cell? w8 _ x0)
      | (refine step_append_eds _ rfl (.tmp 64) (.tmp 65) rfl w7.heap.size _ la rfl (by first | exact HO8.out | exact HO8.out.alloc _) ob lb cb rfl (by first | exact HWX.out.e2 | exact HWX.out.e2.below ((Below.refl _ w8).alloc (Nat.le_refl _) _)) (by omega) (by first | exact HB8.out.size | (have := HB8.out.size; simp <;> omega)) ?_; intro v'' w9 hown hgrow; have hz2 := zb_grown (base := w7.heap.size) (n := la.length) (xs := la.flatMap Ed.cells) (by first | exact HO8.out | exact HO8.out.alloc _) hgrow; have hb9 : Below w7.heap.size w7 w9 := (by first | exact HB8.out.grown hgrow HB8.out.size (fun b e => (HO8.out.lt b e).1) | exact (HB8.out.alloc HB8.out.size _).grown hgrow (by have := HB8.out.size; simp <;> omega) (fun b e => (HO8.out.lt b e).1)); have HB9 := Lib.hid hb9; have HZ2 : Aside _ := hz2; rw [HLC.out] at hown; obtain ⟨oc, kc, hv, hrow, _⟩ := own_at Ed.len hown; subst hv; have HROW := Lib.hid hrow; clear hown hgrow hb9 hrow hz2; have HWX := Lib.hid (HW7.out.go HB9.out); obtain ⟨x0, x1, x2, x3⟩ := box_cells HWX.out.box; dsimp only at x0 x1 x2 x3; have hz9w : w.heap.size < w9.heap.size := World.block_lt_of_cell? w9 _ x0))
    all_goals go_wp2_with fail
    all_goals go_meet
    · have hE : Below w7.heap.size w7 (w10.alloc (.cells #[.int .i64 V3, .slice u1 N3.length m1, .slice u2 P3.length m2, .slice u3 C3.length m3] 26)) := HB10.out.alloc HB10.out.size _
      have hR : ResW w10.heap.size ⟨V3, N3, P3, C3⟩ ⟨u1, m1, u2, m2, u3, m3⟩ (w10.alloc (.cells #[.int .i64 V3, .slice u1 N3.length m1, .slice u2 P3.length m2, .slice u3 C3.length m3] 26)) := res_new HSR.out
      have t1 := Lib.hid (HW7.out.go hE)
      have t2 := Lib.hid hR
      have t3 := Lib.hid (HR7.out.go hE)
      with_reducible exact ⟨w10.heap.size, ⟨V3, N3, P3, C3⟩, ⟨u1, m1, u2, m2, u3, m3⟩, eg, rfl, rfl, HA2, t1, t2, t3⟩
    · have h8 := HB8.out.size
      have h9 := HB9.out.size
      have hE : Below w7.heap.size w7 ((((w10.setCell ⟨w9.heap.size, 0, none⟩ (.int .i64 V3)).setCell ⟨w9.heap.size, 1, none⟩ (.slice u1 N3.length m1)).setCell ⟨w9.heap.size, 2, none⟩ (.slice u2 P3.length m2)).setCell ⟨w9.heap.size, 3, none⟩ (.slice u3 C3.length m3)) := set4_below HB10.out (B := w9.heap.size) (by omega) _ _ _ _
      have hR : ResW w9.heap.size ⟨V3, N3, P3, C3⟩ ⟨u1, m1, u2, m2, u3, m3⟩ ((((w10.setCell ⟨w9.heap.size, 0, none⟩ (.int .i64 V3)).setCell ⟨w9.heap.size, 1, none⟩ (.slice u1 N3.length m1)).setCell ⟨w9.heap.size, 2, none⟩ (.slice u2 P3.length m2)).setCell ⟨w9.heap.size, 3, none⟩ (.slice u3 C3.length m3)) := res_set HZB.out HSR.out HNEW.out HBC.out
      have t1 := Lib.hid (HW7.out.go hE)
      have t2 := Lib.hid hR
      have t3 := Lib.hid (HR7.out.go hE)
      with_reducible exact ⟨w9.heap.size, ⟨V3, N3, P3, C3⟩, ⟨u1, m1, u2, m2, u3, m3⟩, eg, rfl, rfl, HA2, t1, t2, t3⟩
    · have h8 := HB8.out.size
      have h9 := HB9.out.size
      have hE : Below w7.heap.size w7 ((((w10.setCell ⟨w8.heap.size, 0, none⟩ (.int .i64 V3)).setCell ⟨w8.heap.size, 1, none⟩ (.slice u1 N3.length m1)).setCell ⟨w8.heap.size, 2, none⟩ (.slice u2 P3.length m2)).setCell ⟨w8.heap.size, 3, none⟩ (.slice u3 C3.length m3)) := set4_below HB10.out (B := w8.heap.size) (by omega) _ _ _ _
      have hR : ResW w8.heap.size ⟨V3, N3, P3, C3⟩ ⟨u1, m1, u2, m2, u3, m3⟩ ((((w10.setCell ⟨w8.heap.size, 0, none⟩ (.int .i64 V3)).setCell ⟨w8.heap.size, 1, none⟩ (.slice u1 N3.length m1)).setCell ⟨w8.heap.size, 2, none⟩ (.slice u2 P3.length m2)).setCell ⟨w8.heap.size, 3, none⟩ (.slice u3 C3.length m3)) := res_set HZB.out HSR.out HNEW.out HBC.out
      have t1 := Lib.hid (HW7.out.go hE)
      have t2 := Lib.hid hR
      have t3 := Lib.hid (HR7.out.go hE)
      with_reducible exact ⟨w8.heap.size, ⟨V3, N3, P3, C3⟩, ⟨u1, m1, u2, m2, u3, m3⟩, eg, rfl, rfl, HA2, t1, t2, t3⟩
    · have h8 := HB8.out.size
      have h9 := HB9.out.size
      have hE : Below w7.heap.size w7 ((((w10.setCell ⟨(w7.heap.size + 1), 0, none⟩ (.int .i64 V3)).setCell ⟨(w7.heap.size + 1), 1, none⟩ (.slice u1 N3.length m1)).setCell ⟨(w7.heap.size + 1), 2, none⟩ (.slice u2 P3.length m2)).setCell ⟨(w7.heap.size + 1), 3, none⟩ (.slice u3 C3.length m3)) := set4_below HB10.out (B := (w7.heap.size + 1)) (by omega) _ _ _ _
      have hR : ResW (w7.heap.size + 1) ⟨V3, N3, P3, C3⟩ ⟨u1, m1, u2, m2, u3, m3⟩ ((((w10.setCell ⟨(w7.heap.size + 1), 0, none⟩ (.int .i64 V3)).setCell ⟨(w7.heap.size + 1), 1, none⟩ (.slice u1 N3.length m1)).setCell ⟨(w7.heap.size + 1), 2, none⟩ (.slice u2 P3.length m2)).setCell ⟨(w7.heap.size + 1), 3, none⟩ (.slice u3 C3.length m3)) := res_set HZB.out HSR.out HNEW.out HBC.out
      have t1 := Lib.hid (HW7.out.go hE)
      have t2 := Lib.hid hR
      have t3 := Lib.hid (HR7.out.go hE)
      with_reducible exact ⟨(w7.heap.size + 1), ⟨V3, N3, P3, C3⟩, ⟨u1, m1, u2, m2, u3, m3⟩, eg, rfl, rfl, HA2, t1, t2, t3⟩
    · have h8 := HB8.out.size
      have h9 := HB9.out.size
      have hE : Below w7.heap.size w7 ((((w10.setCell ⟨w7.heap.size, 0, none⟩ (.int .i64 V3)).setCell ⟨w7.heap.size, 1, none⟩ (.slice u1 N3.length m1)).setCell ⟨w7.heap.size, 2, none⟩ (.slice u2 P3.length m2)).setCell ⟨w7.heap.size, 3, none⟩ (.slice u3 C3.length m3)) := set4_below HB10.out (B := w7.heap.size) (by omega) _ _ _ _
      have hR : ResW w7.heap.size ⟨V3, N3, P3, C3⟩ ⟨u1, m1, u2, m2, u3, m3⟩ ((((w10.setCell ⟨w7.heap.size, 0, none⟩ (.int .i64 V3)).setCell ⟨w7.heap.size, 1, none⟩ (.slice u1 N3.length m1)).setCell ⟨w7.heap.size, 2, none⟩ (.slice u2 P3.length m2)).setCell ⟨w7.heap.size, 3, none⟩ (.slice u3 C3.length m3)) := res_set HZB.out HSR.out HNEW.out HBC.out
      have t1 := Lib.hid (HW7.out.go hE)
      have t2 := Lib.hid hR
      have t3 := Lib.hid (HR7.out.go hE)
      with_reducible exact ⟨w7.heap.size, ⟨V3, N3, P3, C3⟩, ⟨u1, m1, u2, m2, u3, m3⟩, eg, rfl, rfl, HA2, t1, t2, t3⟩
  case rest =>
  obtain ⟨B14, rr, zz, eg, rfl, rfl, HA2, HW11, HS11, HR11⟩ := hcut
  clear HW7 HR7 x0 x1 x2 x3 hzA
  generalize hW11 : wc = w11 at *
  clear hW11
  obtain ⟨V3, N3, P3, C3⟩ := rr
  obtain ⟨u1, m1, u2, m2, u3, m3⟩ := zz
  go_upto_if 71 with (fail)
  go_cut [9, 16, 17] from 72 to 88 (fun u _ _ wx => u = .bool true ∧ Hid (EdsW w ⟨V, N, P, C⟩ ⟨o1, k1, o2, k2, o3, k3⟩ oa la ob lb wx))
  case first =>
    by_cases hf0 : ef = 0
    case neg =>
      have hfd : (ef == 0) = false := by simpa using hf0
      clear hf0
      go_wp2_with fail
      go_meet
      exact ⟨rfl, HW11⟩
    subst hf0
    obtain ⟨y0, y1, y2, y3⟩ := box_cells HR11.out.box
    dsimp only at y0 y1 y2 y3
    go_wp2_with fail
    refine (apply_any ⟨V2, N2, P2, C2⟩ ⟨r1, t1, r2, t2, r3, t3⟩ lb ob cb _ HR11.out.sc HN2.out.1 HW11.out.e2).mono ?_
    rintro e w12 ⟨r, yr, eh, hA, rfl, hsr, _, _, hb⟩
    have hpar := ApplyE.parts HA1.out hA (by rw [HLC.out]; exact HA2.out) hla hlb
    have HW12 := Lib.hid (HW11.out.go hb)
    have HS12 := Lib.hid (HS11.out.go hb)
    have HSR := Lib.hid hsr
    clear hA hsr hb y0 y1 y2 y3 HW11 HS11 HR11
    obtain ⟨V4, N4, P4, C4⟩ := r
    obtain ⟨g1, j1, g2, j2, g3, j3⟩ := yr
    dsimp only [Sc.cells]
    have HEQ := Lib.hid hpar.1
    have heh := hpar.2
    subst heh
    clear hpar
    have hb13 : Below w12.heap.size w12 (w12.alloc (.cells #[.int .i64 V4, .slice g1 N4.length j1, .slice g2 P4.length j2, .slice g3 C4.length j3] 26)) := (Below.refl _ w12).alloc (Nat.le_refl _) _
    have HW13 := Lib.hid (HW12.out.go hb13)
    have HS13 := Lib.hid (HS12.out.go hb13)
    have HR13 : Hid (ResW w12.heap.size ⟨V4, N4, P4, C4⟩ ⟨g1, j1, g2, j2, g3, j3⟩ (w12.alloc (.cells #[.int .i64 V4, .slice g1 N4.length j1, .slice g2 P4.length j2, .slice g3 C4.length j3] 26))) := res_new HSR.out
    clear hb13 HW12 HS12 HSR
    go_upto_region 12 with (fail)
    generalize hW13 : World.alloc w12 _ = w13 at *
    clear hW13
    obtain ⟨y0, y1, y2, y3⟩ := box_cells HR13.out.box
    dsimp only at y0 y1 y2 y3
    obtain ⟨z0, z1, z2, z3⟩ := box_cells HS13.out.box
    dsimp only at z0 z1 z2 z3
    go_wp2_with (go_at_call 9; refine (requal_yes (ya := ⟨g1, j1, g2, j2, g3, j3⟩) (yb := ⟨u1, m1, u2, m2, u3, m3⟩) HR13.out.sc HS13.out.sc HEQ.out).mono ?_; rintro e w14 ⟨rfl, hb⟩; have HW14 := Lib.hid (HW13.out.go hb); clear hb)
    go_meet
    exact ⟨rfl, HW14⟩
  case rest =>
    obtain ⟨rfl, HWC⟩ := hcut
    clear HW11 HS11 HR11
    generalize hWc : wc = w15 at *
    clear hWc
    obtain ⟨x0, x1, x2, x3⟩ := box_cells HWC.out.box
    dsimp only at x0 x1 x2 x3
    by_cases hp0 : P.length = 0
    case pos =>
      have hpd : ((P.length : Int) == 0) = true := by simp [hp0]
      clear hp0
      go_wp2_with fail
      go_ret
      exact ⟨rfl, HWC.out.below⟩
    have hpd : ((P.length : Int) == 0) = false := by simpa using hp0
    obtain ⟨a8, rfl⟩ : ∃ a : Nat, at8 = (a : Int) := ⟨at8.toNat, by omega⟩
    obtain ⟨k, hk⟩ : ∃ k, a8 % P.length = k := ⟨_, rfl⟩
    have hklt : k < P.length := by rw [← hk]; exact Nat.mod_lt _ (by omega)
    have htm : Int.tmod (a8 : Int) (P.length : Int) = (k : Int) := by rw [← hk]; rfl
    have hwr : IntKind.i64.wrap (a8 : Int) = (a8 : Int) := IntWalk.i64_in _ (by omega)
    have hP30 : P.length ≤ 30 := HF.out.2.1
    have hwk : IntKind.i64.wrap (k : Int) = (k : Int) := IntWalk.i64_in _ (by omega)
    have hne0 : ¬ (P.length : Int) = 0 := by omega
    have hne1 : ¬ P.length = 0 := hp0
    clear hp0
    go_upto_region 16 with (fail)
    obtain ⟨pp, hpp⟩ := get_of_lt hklt
    obtain ⟨ba, off, hoo, hba, hrp⟩ := HWC.out.sc.2.1 k pp hpp
    dsimp only at hoo
    subst hoo
    have HPP := Lib.hid hpp
    clear hpp
    obtain ⟨pa, pb, c0, c1, c2, c3, c4, c5, bd⟩ := pp
    have hrp : w15.rangeAt ba (off + k * 9) [.int .i64 pa, .int .i64 pb, .int .i64 c0, .int .i64 c1, .int .i64 c2, .int .i64 c3, .int .i64 c4, .int .i64 c5, .int .i64 bd] := hrp
    have HRP := Lib.hid hrp
    have hrr := hrp
    have r0 : w15.cell? ⟨ba, off + k * 9, none⟩ = some (.int .i64 pa) := hrr 0 _ rfl; have r1 : w15.cell? ⟨ba, off + k * 9 + 1, none⟩ = some (.int .i64 pb) := hrr 1 _ rfl; have r2 : w15.cell? ⟨ba, off + k * 9 + 2, none⟩ = some (.int .i64 c0) := hrr 2 _ rfl; have r3 : w15.cell? ⟨ba, off + k * 9 + 3, none⟩ = some (.int .i64 c1) := hrr 3 _ rfl; have r4 : w15.cell? ⟨ba, off + k * 9 + 4, none⟩ = some (.int .i64 c2) := hrr 4 _ rfl; have r5 : w15.cell? ⟨ba, off + k * 9 + 5, none⟩ = some (.int .i64 c3) := hrr 5 _ rfl; have r6 : w15.cell? ⟨ba, off + k * 9 + 6, none⟩ = some (.int .i64 c4) := hrr 6 _ rfl; have r7 : w15.cell? ⟨ba, off + k * 9 + 7, none⟩ = some (.int .i64 c5) := hrr 7 _ rfl; have r8 : w15.cell? ⟨ba, off + k * 9 + 8, none⟩ = some (.int .i64 bd) := hrr 8 _ rfl
    clear hrp hrr htm hwr
    have k0z : (0 : Int) ≤ (k : Int) := by omega
    have k1z : (k : Int) < (P.length : Int) := by omega
    have hzA : w.heap.size < w15.heap.size := World.block_lt_of_cell? w15 _ x0
    have hzB : ba < w15.heap.size := World.block_lt_of_cell? w15 _ r0
    have HEa : Aside (∀ L, L = ((⟨3, (k : Int), ⟨0, 0, 0, 0, 0, 0, 0, 0, 0, false⟩, ⟨0, 0, 0, 0, 0, 0, 0, 0, 0⟩⟩ : Ed).cells ++ (⟨4, 0, ⟨0, 0, 0, 0, 0, 0, 0, 0, 0, false⟩, ⟨pa, pb, c0, c1, c2, c3, c4, c5, bd⟩⟩ : Ed).cells).toArray → EdsAt ((w15.alloc (.cells L 45)).drew) (some ⟨w15.heap.size, 0, none⟩) [(⟨3, (k : Int), ⟨0, 0, 0, 0, 0, 0, 0, 0, 0, false⟩, ⟨0, 0, 0, 0, 0, 0, 0, 0, 0⟩⟩ : Ed), (⟨4, 0, ⟨0, 0, 0, 0, 0, 0, 0, 0, 0, false⟩, ⟨pa, pb, c0, c1, c2, c3, c4, c5, bd⟩⟩ : Ed)]) := fun L hL => by subst hL; exact eds_two w15 (⟨3, (k : Int), ⟨0, 0, 0, 0, 0, 0, 0, 0, 0, false⟩, ⟨0, 0, 0, 0, 0, 0, 0, 0, 0⟩⟩ : Ed) (⟨4, 0, ⟨0, 0, 0, 0, 0, 0, 0, 0, 0, false⟩, ⟨pa, pb, c0, c1, c2, c3, c4, c5, bd⟩⟩ : Ed)
    have HEb : Aside (∀ L, L = ((⟨3, (k : Int), ⟨0, 0, 0, 0, 0, 0, 0, 0, 0, false⟩, ⟨0, 0, 0, 0, 0, 0, 0, 0, 0⟩⟩ : Ed).cells ++ (⟨4, 0, ⟨0, 0, 0, 0, 0, 0, 0, 0, 0, false⟩, ⟨pa, pb, c0, c1, c2, c3, c4, c5, bd⟩⟩ : Ed).cells).toArray → EdsAt (((w15.alloc (.cells L 45)).alloc Z26).drew) (some ⟨w15.heap.size, 0, none⟩) [(⟨3, (k : Int), ⟨0, 0, 0, 0, 0, 0, 0, 0, 0, false⟩, ⟨0, 0, 0, 0, 0, 0, 0, 0, 0⟩⟩ : Ed), (⟨4, 0, ⟨0, 0, 0, 0, 0, 0, 0, 0, 0, false⟩, ⟨pa, pb, c0, c1, c2, c3, c4, c5, bd⟩⟩ : Ed)]) := fun L hL => by subst hL; exact (eds_two w15 (⟨3, (k : Int), ⟨0, 0, 0, 0, 0, 0, 0, 0, 0, false⟩, ⟨0, 0, 0, 0, 0, 0, 0, 0, 0⟩⟩ : Ed) (⟨4, 0, ⟨0, 0, 0, 0, 0, 0, 0, 0, 0, false⟩, ⟨pa, pb, c0, c1, c2, c3, c4, c5, bd⟩⟩ : Ed)).below (((Below.refl _ _).alloc (Nat.le_refl _) _).drew)
    have HEc : Aside (∀ L, L = ((⟨3, (k : Int), ⟨0, 0, 0, 0, 0, 0, 0, 0, 0, false⟩, ⟨0, 0, 0, 0, 0, 0, 0, 0, 0⟩⟩ : Ed).cells ++ (⟨4, 0, ⟨0, 0, 0, 0, 0, 0, 0, 0, 0, false⟩, ⟨pa, pb, c0, c1, c2, c3, c4, c5, bd⟩⟩ : Ed).cells).toArray → EdsAt (((w15.alloc Z26).alloc (.cells L 45)).drew) (some ⟨w15.heap.size + 1, 0, none⟩) [(⟨3, (k : Int), ⟨0, 0, 0, 0, 0, 0, 0, 0, 0, false⟩, ⟨0, 0, 0, 0, 0, 0, 0, 0, 0⟩⟩ : Ed), (⟨4, 0, ⟨0, 0, 0, 0, 0, 0, 0, 0, 0, false⟩, ⟨pa, pb, c0, c1, c2, c3, c4, c5, bd⟩⟩ : Ed)]) := fun L hL => by
      have h := eds_two (w15.alloc Z26) (⟨3, (k : Int), ⟨0, 0, 0, 0, 0, 0, 0, 0, 0, false⟩, ⟨0, 0, 0, 0, 0, 0, 0, 0, 0⟩⟩ : Ed) (⟨4, 0, ⟨0, 0, 0, 0, 0, 0, 0, 0, 0, false⟩, ⟨pa, pb, c0, c1, c2, c3, c4, c5, bd⟩⟩ : Ed)
      rw [World.size_alloc] at h
      subst hL
      exact h
    have HB1 : Aside (∀ o, Below w15.heap.size w15 ((w15.alloc o).drew)) := fun o => ((Below.refl _ w15).alloc (Nat.le_refl _) _).drew
    have HB2 : Aside (∀ o p, Below w15.heap.size w15 (((w15.alloc o).alloc p).drew)) := fun o p => (((Below.refl _ w15).alloc (Nat.le_refl _) _).alloc (by simp) _).drew
    have HS1 : Aside (∀ o, ScAt ((w15.alloc o).drew) ⟨V, N, P, C⟩ ⟨o1, k1, some ⟨ba, off, none⟩, k2, o3, k3⟩) := fun o => (HWC.out.go (HB1.out o)).sc
    have HS2 : Aside (∀ o p, ScAt (((w15.alloc o).alloc p).drew) ⟨V, N, P, C⟩ ⟨o1, k1, some ⟨ba, off, none⟩, k2, o3, k3⟩) := fun o p => (HWC.out.go (HB2.out o p)).sc
    have HZb : Aside (∀ L, ZB (((w15.alloc (.cells L 45)).alloc Z26).drew) (w15.heap.size + 1)) := fun L => by
      have h := heap_alloc_at (w15.alloc (.cells L 45)) Z26
      rw [World.size_alloc] at h
      exact h
    have HZc : Aside (∀ L, ZB (((w15.alloc Z26).alloc (.cells L 45)).drew) w15.heap.size) := fun L => (heap_alloc_old (w15.alloc Z26) _ (by simp)).trans (heap_alloc_at w15 Z26)
    have HLb : Aside (∀ L, w15.heap.size + 1 < (((w15.alloc (.cells L 45)).alloc Z26).drew).heap.size) := fun L => (Array.getElem?_eq_some_iff.1 (HZb.out L)).1
    have HLc : Aside (∀ L, w15.heap.size < (((w15.alloc Z26).alloc (.cells L 45)).drew).heap.size) := fun L => (Array.getElem?_eq_some_iff.1 (HZc.out L)).1
    go_cut [19, 20] from 101 to 113 (fun b g wx => ∃ (B : Nat) (rr : Sc) (zz : Lay), b = .pointer (some ⟨B, 0, none⟩) ∧ g = .int .i64 0 ∧ Hid (rr = ⟨V, N, P, C⟩) ∧ Hid (EdsW w ⟨V, N, P, C⟩ ⟨o1, k1, some ⟨ba, off, none⟩, k2, o3, k3⟩ oa la ob lb wx) ∧ Hid (ResW B rr zz wx))
    case first =>
      go_region_held3 (fun W => W.cell? ⟨w.heap.size, 0, none⟩ = some (.int .i64 V) ∧ W.cell? ⟨w.heap.size, 1, none⟩ = some (.slice o1 N.length k1) ∧ W.cell? ⟨w.heap.size, 2, none⟩ = some (.slice (some ⟨ba, off, none⟩) P.length k2) ∧ W.cell? ⟨w.heap.size, 3, none⟩ = some (.slice o3 C.length k3) ∧ W.cell? ⟨ba, off + k * 9, none⟩ = some (.int .i64 pa) ∧ W.cell? ⟨ba, off + k * 9 + 1, none⟩ = some (.int .i64 pb) ∧ W.cell? ⟨ba, off + k * 9 + 2, none⟩ = some (.int .i64 c0) ∧ W.cell? ⟨ba, off + k * 9 + 3, none⟩ = some (.int .i64 c1) ∧ W.cell? ⟨ba, off + k * 9 + 4, none⟩ = some (.int .i64 c2) ∧ W.cell? ⟨ba, off + k * 9 + 5, none⟩ = some (.int .i64 c3) ∧ W.cell? ⟨ba, off + k * 9 + 6, none⟩ = some (.int .i64 c4) ∧ W.cell? ⟨ba, off + k * 9 + 7, none⟩ = some (.int .i64 c5) ∧ W.cell? ⟨ba, off + k * 9 + 8, none⟩ = some (.int .i64 bd)) (first | with_reducible exact ⟨x0, x1, x2, x3, r0, r1, r2, r3, r4, r5, r6, r7, r8⟩ | (refine ⟨?_, ?_, ?_, ?_, ?_, ?_, ?_, ?_, ?_, ?_, ?_, ?_, ?_⟩ <;> go_simp) | go_keep) (first
        | (go_at_call 11; refine (apply_any ⟨V, N, P, C⟩ ⟨o1, k1, some ⟨ba, off, none⟩, k2, o3, k3⟩ [(⟨3, (k : Int), ⟨0, 0, 0, 0, 0, 0, 0, 0, 0, false⟩, ⟨0, 0, 0, 0, 0, 0, 0, 0, 0⟩⟩ : Ed), (⟨4, 0, ⟨0, 0, 0, 0, 0, 0, 0, 0, 0, false⟩, ⟨pa, pb, c0, c1, c2, c3, c4, c5, bd⟩⟩ : Ed)] _ 2 _ (by first | with_reducible exact HS1.out _ | with_reducible exact HS2.out _ _) HN.out (by first | ((with_reducible refine HEa.out _ ?_); rfl) | ((with_reducible refine HEb.out _ ?_); rfl) | ((with_reducible refine HEc.out _ ?_); rfl))).mono ?_; rintro e w18 ⟨r, yr, ei, hA, rfl, hsr, _, ⟨_, hnew⟩, hb⟩; obtain ⟨hreq, rfl⟩ := ApplyE.back HV.out hP30 HPP.out rfl rfl rfl rfl hA; obtain ⟨V5, N5, P5, C5⟩ := r; obtain ⟨g1', j1, g2', j2, g3', j3⟩ := yr; dsimp only [Sc.cells]; have HSR := Lib.hid hsr; have HREQ2 := Lib.hid hreq; have HNEW := Lib.hid hnew; have hb18 : Below w15.heap.size w15 w18 := (by first | with_reducible exact (HB1.out _).trans (hb.mono (HB1.out _).size) | with_reducible exact (HB2.out _ _).trans (hb.mono (HB2.out _ _).size)); have HB18 := Lib.hid hb18; have HZ3 : Aside _ := zb_below hb; clear hA hsr hreq hnew hb hb18; have HWX := Lib.hid (HWC.out.go HB18.out); obtain ⟨x0, x1, x2, x3⟩ := box_cells HWX.out.box; dsimp only at x0 x1 x2 x3; have hrr := rangeAt_le HB18.out HRP.out; have r0 : w18.cell? ⟨ba, off + k * 9, none⟩ = some (.int .i64 pa) := hrr 0 _ rfl; have r1 : w18.cell? ⟨ba, off + k * 9 + 1, none⟩ = some (.int .i64 pb) := hrr 1 _ rfl; have r2 : w18.cell? ⟨ba, off + k * 9 + 2, none⟩ = some (.int .i64 c0) := hrr 2 _ rfl; have r3 : w18.cell? ⟨ba, off + k * 9 + 3, none⟩ = some (.int .i64 c1) := hrr 3 _ rfl; have r4 : w18.cell? ⟨ba, off + k * 9 + 4, none⟩ = some (.int .i64 c2) := hrr 4 _ rfl; have r5 : w18.cell? ⟨ba, off + k * 9 + 5, none⟩ = some (.int .i64 c3) := hrr 5 _ rfl; have r6 : w18.cell? ⟨ba, off + k * 9 + 6, none⟩ = some (.int .i64 c4) := hrr 6 _ rfl; have r7 : w18.cell? ⟨ba, off + k * 9 + 7, none⟩ = some (.int .i64 c5) := hrr 7 _ rfl; have r8 : w18.cell? ⟨ba, off + k * 9 + 8, none⟩ = some (.int .i64 bd) := hrr 8 _ rfl; have hz18 : w.heap.size < w18.heap.size := World.block_lt_of_cell? w18 _ x0; have hb18 : ba < w18.heap.size := World.block_lt_of_cell? w18 _ r0; (first | (have hzb : ZB w18 w15.heap.size := (by with_reducible exact HZ3.out _ (HZc.out _)); have hq := fun o => cell_of_row w18 w15.heap.size o _ 26 (0, 0) hzb; have hfz : ∀ o, w18.frozen? ⟨w15.heap.size, o, none⟩ = false := fun o => (by unfold World.frozen?; simp [hzb]); have t0 := hq 0; have t1 := hq 1; have t2 := hq 2; have t3 := hq 3; have g0 := hfz 0; have g1 := hfz 1; have g2 := hfz 2; have g3 := hfz 3; simp only [List.getElem?_toArray, List.getElem?_cons_succ, List.getElem?_cons_zero] at t0 t1 t2 t3; have HZB := Lib.hid hzb; clear hq hfz hzb) | (have hzb : ZB w18 (w15.heap.size + 1) := (by with_reducible exact HZ3.out _ (HZb.out _)); have hq := fun o => cell_of_row w18 (w15.heap.size + 1) o _ 26 (0, 0) hzb; have hfz : ∀ o, w18.frozen? ⟨(w15.heap.size + 1), o, none⟩ = false := fun o => (by unfold World.frozen?; simp [hzb]); have t0 := hq 0; have t1 := hq 1; have t2 := hq 2; have t3 := hq 3; have g0 := hfz 0; have g1 := hfz 1; have g2 := hfz 2; have g3 := hfz 3; simp only [List.getElem?_toArray, List.getElem?_cons_succ, List.getElem?_cons_zero] at t0 t1 t2 t3; have HZB := Lib.hid hzb; clear hq hfz hzb) | skip)))
      all_goals go_wp2_with fail
      all_goals go_meet
      · have hE : Below w15.heap.size w15 (w18.alloc (.cells #[.int .i64 V5, .slice g1' N5.length j1, .slice g2' P5.length j2, .slice g3' C5.length j3] 26)) := HB18.out.alloc HB18.out.size _
        have hR : ResW w18.heap.size ⟨V5, N5, P5, C5⟩ ⟨g1', j1, g2', j2, g3', j3⟩ (w18.alloc (.cells #[.int .i64 V5, .slice g1' N5.length j1, .slice g2' P5.length j2, .slice g3' C5.length j3] 26)) := res_new HSR.out
        have t1 := Lib.hid (HWC.out.go hE)
        have t2 := Lib.hid hR
        with_reducible exact ⟨w18.heap.size, ⟨V5, N5, P5, C5⟩, ⟨g1', j1, g2', j2, g3', j3⟩, rfl, rfl, HREQ2, t1, t2⟩
      · have hE : Below w15.heap.size w15 ((((w18.setCell ⟨(w15.heap.size + 1), 0, none⟩ (.int .i64 V5)).setCell ⟨(w15.heap.size + 1), 1, none⟩ (.slice g1' N5.length j1)).setCell ⟨(w15.heap.size + 1), 2, none⟩ (.slice g2' P5.length j2)).setCell ⟨(w15.heap.size + 1), 3, none⟩ (.slice g3' C5.length j3)) := set4_below HB18.out (B := (w15.heap.size + 1)) (by omega) _ _ _ _
        have hR : ResW (w15.heap.size + 1) ⟨V5, N5, P5, C5⟩ ⟨g1', j1, g2', j2, g3', j3⟩ ((((w18.setCell ⟨(w15.heap.size + 1), 0, none⟩ (.int .i64 V5)).setCell ⟨(w15.heap.size + 1), 1, none⟩ (.slice g1' N5.length j1)).setCell ⟨(w15.heap.size + 1), 2, none⟩ (.slice g2' P5.length j2)).setCell ⟨(w15.heap.size + 1), 3, none⟩ (.slice g3' C5.length j3)) := res_set HZB.out HSR.out HNEW.out (HLb.out _)
        have t1 := Lib.hid (HWC.out.go hE)
        have t2 := Lib.hid hR
        with_reducible exact ⟨(w15.heap.size + 1), ⟨V5, N5, P5, C5⟩, ⟨g1', j1, g2', j2, g3', j3⟩, rfl, rfl, HREQ2, t1, t2⟩
      · have hE : Below w15.heap.size w15 ((((w18.setCell ⟨w15.heap.size, 0, none⟩ (.int .i64 V5)).setCell ⟨w15.heap.size, 1, none⟩ (.slice g1' N5.length j1)).setCell ⟨w15.heap.size, 2, none⟩ (.slice g2' P5.length j2)).setCell ⟨w15.heap.size, 3, none⟩ (.slice g3' C5.length j3)) := set4_below HB18.out (B := w15.heap.size) (by omega) _ _ _ _
        have hR : ResW w15.heap.size ⟨V5, N5, P5, C5⟩ ⟨g1', j1, g2', j2, g3', j3⟩ ((((w18.setCell ⟨w15.heap.size, 0, none⟩ (.int .i64 V5)).setCell ⟨w15.heap.size, 1, none⟩ (.slice g1' N5.length j1)).setCell ⟨w15.heap.size, 2, none⟩ (.slice g2' P5.length j2)).setCell ⟨w15.heap.size, 3, none⟩ (.slice g3' C5.length j3)) := res_set HZB.out HSR.out HNEW.out (HLc.out _)
        have t1 := Lib.hid (HWC.out.go hE)
        have t2 := Lib.hid hR
        with_reducible exact ⟨w15.heap.size, ⟨V5, N5, P5, C5⟩, ⟨g1', j1, g2', j2, g3', j3⟩, rfl, rfl, HREQ2, t1, t2⟩
    case rest =>
    obtain ⟨B19, rr, zz, rfl, rfl, HREQ2, HW19, HR19⟩ := hcut
    clear x0 x1 x2 x3 r0 r1 r2 r3 r4 r5 r6 r7 r8 hzA k0z k1z
    generalize hW19 : wc = w19 at *
    clear hW19
    obtain ⟨V5, N5, P5, C5⟩ := rr
    obtain ⟨g1, j1, g2, j2, g3, j3⟩ := zz
    go_upto_region 17 with (fail)
    obtain ⟨x0, x1, x2, x3⟩ := box_cells HW19.out.box
    dsimp only at x0 x1 x2 x3
    obtain ⟨y0, y1, y2, y3⟩ := box_cells HR19.out.box
    dsimp only at y0 y1 y2 y3
    go_wp2_with (go_at_call 9; refine (requal_yes (ya := ⟨g1, j1, g2, j2, g3, j3⟩) (yb := ⟨o1, k1, some ⟨ba, off, none⟩, k2, o3, k3⟩) HR19.out.sc HW19.out.sc HREQ2.out).mono ?_; rintro e w20 ⟨rfl, hb⟩; have HW20 := Lib.hid (HW19.out.go hb); clear hb)
    go_ret
    exact ⟨rfl, HW20.out.below⟩
end Go.Sc
