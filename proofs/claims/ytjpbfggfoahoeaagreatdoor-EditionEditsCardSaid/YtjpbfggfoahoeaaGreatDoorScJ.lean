/- The law EditionFirst: it answers true. -/
import Derived.Test.YtjpbfggfoahoeaaGreatDoorScT
import Derived.Test.YtjpbfggfoahoeaaGreatDoorCeHead
namespace Go.Sc
open Go.RowKit Go.Proofs

/-- The package-level variables pitch.primes and size.logs hold what the text lays. -/
def LaidAt (w : World) : Prop := ∃ (v0 v4 : Array Value) (e0 e4 : TypeId) (f0 f4 : Nat × Nat), w.heap[0]? = some (.cells v0 e0 f0) ∧ v0.toList = [2, 3, 5, 7, 11, 13].map (Value.int .i64) ∧
  w.heap[4]? = some (.cells v4 e4 f4) ∧ v4.toList = [1000000000, 1000000000, 1584962500, 1584962501, 2321928094, 2321928095, 2807354922, 2807354923, 3459431618, 3459431619, 3700439718, 3700439719].map (Value.int .i64)
theorem LaidAt.below {w w' : World} (h : LaidAt w) (hb : Below w.heap.size w w') : LaidAt w' := by
  obtain ⟨v0, v4, e0, e4, f0, f4, h0, h1, h2, h3⟩ := h
  exact ⟨v0, v4, e0, e4, f0, f4, (hb.block 0 (Array.getElem?_eq_some_iff.1 h0).1).trans h0, h1, (hb.block 4 (Array.getElem?_eq_some_iff.1 h2).1).trans h2, h3⟩
theorem head_any {w : World} (h : LaidAt w) : Calls Tryz.prog 6 #[] w (fun e w' => e = .returned (.bool true) ∧ Below w.heap.size w w') := by
  obtain ⟨v0, v4, e0, e4, f0, f4, h0, h1, h2, h3⟩ := h
  exact (Go.Ce.head_calls h0 h1 h2 h3).mono (fun e w' ⟨he, ho⟩ => ⟨he, ⟨ho.os, ho.tape, ho.output, ho.size, fun k hk => ho.block k hk⟩⟩)
theorem few_yes {s : Sc} {y : Lay} {w : World} (h : fewOk s) : Calls Tryz.prog 7 #[.agg (s.cells y), .slice none 0 0, .slice none 0 0] w (fun e w' => e = .returned (.bool true) ∧ Below w.heap.size w w') :=
  (few_any s y w).mono (by rintro e w' ⟨b, hb, rfl, hB⟩; exact ⟨by rw [hb.2 h], hB⟩)
theorem few_no {s : Sc} {y : Lay} {w : World} (h : ¬ fewOk s) : Calls Tryz.prog 7 #[.agg (s.cells y), .slice none 0 0, .slice none 0 0] w (fun e w' => e = .returned (.bool false) ∧ Below w.heap.size w w') :=
  (few_any s y w).mono (by rintro e w' ⟨b, hb, rfl, hB⟩; cases b; exact ⟨rfl, hB⟩; exact absurd (hb.1 rfl) h)
theorem requal_yes {a b : Sc} {ya yb : Lay} {w : World} (ha : ScAt w a ya) (hb : ScAt w b yb) (h : a = b) : Calls Tryz.prog 9 #[.agg (a.cells ya), .agg (b.cells yb)] w (fun e w' => e = .returned (.bool true) ∧ Below w.heap.size w w') :=
  (requal_any a b ya yb w ha hb).mono (by rintro e w' ⟨b, hb, rfl, hB⟩; exact ⟨by rw [hb.2 h], hB⟩)
theorem requal_no {a b : Sc} {ya yb : Lay} {w : World} (ha : ScAt w a ya) (hb : ScAt w b yb) (h : ¬ a = b) : Calls Tryz.prog 9 #[.agg (a.cells ya), .agg (b.cells yb)] w (fun e w' => e = .returned (.bool false) ∧ Below w.heap.size w w') :=
  (requal_any a b ya yb w ha hb).mono (by rintro e w' ⟨b, hb, rfl, hB⟩; cases b; exact ⟨rfl, hB⟩; exact absurd (hb.1 rfl) h)
theorem run_min (p q : Int) (W : World) : (Builtin.min_ #[3, 3] 3 #[.int .i64 p, .int .i64 q]).run Tryz.prog W = .ok (.int .i64 (if q < p then q else p)) W := by
  simp only [Builtin.min_, Builtin.min2, List.foldlM_cons, List.foldlM_nil, Sem.run_bind, Sem.run_pure, Result.andThen_ok]
/-- What the law carries: the three scores in their boxes, the variables laid. -/
structure LawAt (w0 : World) (a b c : Sc) (ya yb yc : Lay) (w : World) : Prop where
  below : Below w0.heap.size w0 w
  laid : LaidAt w
  la : ScAt w a ya
  lb : ScAt w b yb
  lc : ScAt w c yc
  x : w.rangeAt w0.heap.size 0 (a.cells ya).toList
  y : w.rangeAt (w0.heap.size + 1) 0 (b.cells yb).toList
  z : w.rangeAt (w0.heap.size + 1 + 1) 0 (c.cells yc).toList
theorem LawAt.go {w0 w w' : World} {a b c : Sc} {ya yb yc : Lay} (h : LawAt w0 a b c ya yb yc w) (hb : Below w.heap.size w w') : LawAt w0 a b c ya yb yc w' :=
  ⟨h.below.trans (hb.mono h.below.size), h.laid.below hb, h.la.below hb, h.lb.below hb, h.lc.below hb, rangeAt_le hb h.x, rangeAt_le hb h.y, rangeAt_le hb h.z⟩
theorem law_start (w : World) (a b c : Sc) (ya yb yc : Lay) (hl : LaidAt w) (ha : ScAt w a ya) (hb : ScAt w b yb) (hc : ScAt w c yc) :
    LawAt w a b c ya yb yc (((w.alloc (.cells (a.cells ya) 26)).alloc (.cells (b.cells yb) 26)).alloc (.cells (c.cells yc) 26)) := by
  have h : Below w.heap.size w (((w.alloc (.cells (a.cells ya) 26)).alloc (.cells (b.cells yb) 26)).alloc (.cells (c.cells yc) 26)) :=
    (((Below.refl _ w).alloc (Nat.le_refl _) _).alloc (by simp) _).alloc (by simp; omega) _
  have p2 := rangeAt_new (w.alloc (.cells (a.cells ya) 26)) (b.cells yb) 26
  have p3 := rangeAt_new ((w.alloc (.cells (a.cells ya) 26)).alloc (.cells (b.cells yb) 26)) (c.cells yc) 26
  rw [World.size_alloc] at p2
  rw [World.size_alloc, World.size_alloc] at p3
  exact ⟨h, hl.below h, ha.below h, hb.below h, hc.below h, rangeAt_alloc _ (rangeAt_alloc _ (rangeAt_new w _ 26)), rangeAt_alloc _ p2, p3⟩
set_option maxRecDepth 100000 in
set_option maxHeartbeats 8000000 in
theorem law_first (a b c : Sc) (ya yb yc : Lay) (w : World) (hl : LaidAt w) (ha : ScAt w a ya) (hb : ScAt w b yb) (hc : ScAt w c yc) (ca : CapOk a ya) (cb : CapOk b yb) (cc : CapOk c yc) :
    Calls Tryz.prog 3 #[.agg (a.cells ya), .agg (b.cells yb), .agg (c.cells yc)] w (fun e w' => e = .returned (.bool true) ∧ Below w.heap.size w w') := by
  have HW0 := Lib.hid (law_start w a b c ya yb yc hl ha hb hc)
  have HCa := Lib.hid ca
  have HCb := Lib.hid cb
  have HCc := Lib.hid cc
  clear hl ha hb hc ca cb cc
  obtain ⟨Va, Na, Pa, Ca⟩ := a
  obtain ⟨a1, a2, a3, a4, a5, a6⟩ := ya
  obtain ⟨Vb, Nb, Pb, Cb⟩ := b
  obtain ⟨b1, b2, b3, b4, b5, b6⟩ := yb
  obtain ⟨Vc, Nc, Pc, Cc⟩ := c
  obtain ⟨c1, c2, c3, c4, c5, c6⟩ := yc
  show Calls Tryz.prog 3 #[.agg #[.int .i64 Va, .slice a1 Na.length a2, .slice a3 Pa.length a4, .slice a5 Ca.length a6], .agg #[.int .i64 Vb, .slice b1 Nb.length b2, .slice b3 Pb.length b4, .slice b5 Cb.length b6], .agg #[.int .i64 Vc, .slice c1 Nc.length c2, .slice c3 Pc.length c4, .slice c5 Cc.length c6]] w _
  go_enter Tryz.func3, Tryz.ntmps3
  go_wp2_with fail
  refine (head_any HW0.out.laid).mono ?_
  rintro e w1 ⟨rfl, hb1⟩
  have HW1 := Lib.hid (HW0.out.go hb1)
  clear hb1 HW0
  obtain ⟨x0, x1, x2, x3⟩ := box_cells HW1.out.x
  obtain ⟨y0, y1, y2, y3⟩ := box_cells HW1.out.y
  obtain ⟨z0, z1, z2, z3⟩ := box_cells HW1.out.z
  dsimp only at x0 x1 x2 x3 y0 y1 y2 y3 z0 z1 z2 z3
  by_cases hf : fewOk ⟨Va, Na, Pa, Ca⟩
  case neg =>
    have HF := Lib.hid hf
    clear hf
    go_wp2_with fail
    refine (few_no (y := ⟨a1, a2, a3, a4, a5, a6⟩) HF.out).mono ?_
    rintro e w9 ⟨rfl, hb⟩
    have HB := Lib.hid (HW1.out.go hb).below
    clear hb
    go_wp2_with fail
    go_ret
    exact ⟨rfl, HB.out⟩
  have HFa := Lib.hid hf
  clear hf
  go_wp2_with fail
  refine (few_yes (y := ⟨a1, a2, a3, a4, a5, a6⟩) HFa.out).mono ?_
  rintro e w2 ⟨rfl, hb⟩
  have HW2 := Lib.hid (HW1.out.go hb)
  clear hb HW1 x0 x1 x2 x3 y0 y1 y2 y3 z0 z1 z2 z3
  obtain ⟨x0, x1, x2, x3⟩ := box_cells HW2.out.x
  obtain ⟨y0, y1, y2, y3⟩ := box_cells HW2.out.y
  obtain ⟨z0, z1, z2, z3⟩ := box_cells HW2.out.z
  dsimp only at x0 x1 x2 x3 y0 y1 y2 y3 z0 z1 z2 z3
  go_wp2_with fail
  by_cases hf : fewOk ⟨Vb, Nb, Pb, Cb⟩
  case neg =>
    have HF := Lib.hid hf
    clear hf
    refine (few_no (y := ⟨b1, b2, b3, b4, b5, b6⟩) HF.out).mono ?_
    rintro e w9 ⟨rfl, hb⟩
    have HB := Lib.hid (HW2.out.go hb).below
    clear hb
    go_wp2_with fail
    go_ret
    exact ⟨rfl, HB.out⟩
  have HFb := Lib.hid hf
  clear hf
  refine (few_yes (y := ⟨b1, b2, b3, b4, b5, b6⟩) HFb.out).mono ?_
  rintro e w3 ⟨rfl, hb⟩
  have HW3 := Lib.hid (HW2.out.go hb)
  clear hb HW2 x0 x1 x2 x3 y0 y1 y2 y3 z0 z1 z2 z3
  obtain ⟨x0, x1, x2, x3⟩ := box_cells HW3.out.x
  obtain ⟨y0, y1, y2, y3⟩ := box_cells HW3.out.y
  obtain ⟨z0, z1, z2, z3⟩ := box_cells HW3.out.z
  dsimp only at x0 x1 x2 x3 y0 y1 y2 y3 z0 z1 z2 z3
  go_wp2_with fail
  by_cases hf : fewOk ⟨Vc, Nc, Pc, Cc⟩
  case neg =>
    have HF := Lib.hid hf
    clear hf
    refine (few_no (y := ⟨c1, c2, c3, c4, c5, c6⟩) HF.out).mono ?_
    rintro e w9 ⟨rfl, hb⟩
    have HB := Lib.hid (HW3.out.go hb).below
    clear hb
    go_wp2_with fail
    go_ret
    exact ⟨rfl, HB.out⟩
  have HFc := Lib.hid hf
  clear hf
  refine (few_yes (y := ⟨c1, c2, c3, c4, c5, c6⟩) HFc.out).mono ?_
  rintro e w4 ⟨rfl, hb⟩
  have HW4 := Lib.hid (HW3.out.go hb)
  clear hb HW3 x0 x1 x2 x3 y0 y1 y2 y3 z0 z1 z2 z3
  obtain ⟨x0, x1, x2, x3⟩ := box_cells HW4.out.x
  obtain ⟨y0, y1, y2, y3⟩ := box_cells HW4.out.y
  obtain ⟨z0, z1, z2, z3⟩ := box_cells HW4.out.z
  dsimp only at x0 x1 x2 x3 y0 y1 y2 y3 z0 z1 z2 z3
  go_wp2_with fail
  refine (efirst_any ⟨Va, Na, Pa, Ca⟩ ⟨Vb, Nb, Pb, Cb⟩ ⟨a1, a2, a3, a4, a5, a6⟩ ⟨b1, b2, b3, b4, b5, b6⟩ _ HW4.out.la HW4.out.lb HCa.out HCb.out).mono ?_
  rintro e w5 ⟨x, er, hF, rfl, hb⟩
  have HW5 := Lib.hid (HW4.out.go hb)
  have HX := Lib.hid hF
  clear hF
  clear hb HW4 x0 x1 x2 x3 y0 y1 y2 y3 z0 z1 z2 z3
  obtain ⟨x0, x1, x2, x3⟩ := box_cells HW5.out.x
  obtain ⟨y0, y1, y2, y3⟩ := box_cells HW5.out.y
  obtain ⟨z0, z1, z2, z3⟩ := box_cells HW5.out.z
  dsimp only at x0 x1 x2 x3 y0 y1 y2 y3 z0 z1 z2 z3
  go_wp2_with fail
  refine (efirst_any ⟨Vb, Nb, Pb, Cb⟩ ⟨Va, Na, Pa, Ca⟩ ⟨b1, b2, b3, b4, b5, b6⟩ ⟨a1, a2, a3, a4, a5, a6⟩ _ HW5.out.lb HW5.out.la HCb.out HCa.out).mono ?_
  rintro e w6 ⟨y, fr, hF, hret, hb⟩
  have HW6 := Lib.hid (HW5.out.go hb)
  obtain ⟨rfl, rfl⟩ := HX.out.unique hF.sym
  subst hret
  clear hF
  clear hb HW5 x0 x1 x2 x3 y0 y1 y2 y3 z0 z1 z2 z3
  obtain ⟨x0, x1, x2, x3⟩ := box_cells HW6.out.x
  obtain ⟨y0, y1, y2, y3⟩ := box_cells HW6.out.y
  obtain ⟨z0, z1, z2, z3⟩ := box_cells HW6.out.z
  dsimp only at x0 x1 x2 x3 y0 y1 y2 y3 z0 z1 z2 z3
  rcases HX.out.err with ⟨rfl, hv⟩ | ⟨rfl, va, vb⟩
  · clear hv
    go_wp2_with fail
    go_ret
    exact ⟨rfl, HW6.out.below⟩
  obtain ⟨r1, r2⟩ := HX.out.range
  have HVa := Lib.hid va
  have HVb := Lib.hid vb
  clear va vb
  by_cases hx : x = -1
  · have hab := HX.out.same hx
    have HAB := Lib.hid hab
    clear hab
    subst hx
    go_wp2_with fail
    refine (requal_yes (ya := ⟨a1, a2, a3, a4, a5, a6⟩) (yb := ⟨b1, b2, b3, b4, b5, b6⟩) HW6.out.la HW6.out.lb HAB.out).mono ?_
    rintro e w7 ⟨rfl, hb⟩
    have HW7 := Lib.hid (HW6.out.go hb)
    clear hb HW6 x0 x1 x2 x3 y0 y1 y2 y3 z0 z1 z2 z3
    obtain ⟨x0, x1, x2, x3⟩ := box_cells HW7.out.x
    obtain ⟨y0, y1, y2, y3⟩ := box_cells HW7.out.y
    obtain ⟨z0, z1, z2, z3⟩ := box_cells HW7.out.z
    dsimp only at x0 x1 x2 x3 y0 y1 y2 y3 z0 z1 z2 z3
    go_wp2_with fail
    refine (efirst_any ⟨Vb, Nb, Pb, Cb⟩ ⟨Vc, Nc, Pc, Cc⟩ ⟨b1, b2, b3, b4, b5, b6⟩ ⟨c1, c2, c3, c4, c5, c6⟩ _ HW7.out.lb HW7.out.lc HCb.out HCc.out).mono ?_
    rintro e w8 ⟨z, g, hG, rfl, hb⟩
    have HW8 := Lib.hid (HW7.out.go hb)
    have HZ := Lib.hid hG
    clear hG
    clear hb HW7 x0 x1 x2 x3 y0 y1 y2 y3 z0 z1 z2 z3
    obtain ⟨x0, x1, x2, x3⟩ := box_cells HW8.out.x
    obtain ⟨y0, y1, y2, y3⟩ := box_cells HW8.out.y
    obtain ⟨z0, z1, z2, z3⟩ := box_cells HW8.out.z
    dsimp only at x0 x1 x2 x3 y0 y1 y2 y3 z0 z1 z2 z3
    go_wp2_with fail
    refine (efirst_any ⟨Va, Na, Pa, Ca⟩ ⟨Vc, Nc, Pc, Cc⟩ ⟨a1, a2, a3, a4, a5, a6⟩ ⟨c1, c2, c3, c4, c5, c6⟩ _ HW8.out.la HW8.out.lc HCa.out HCc.out).mono ?_
    rintro e w9 ⟨u, h, hG, rfl, hb⟩
    have HW9 := Lib.hid (HW8.out.go hb)
    have HU := Lib.hid hG
    clear hG
    clear hb HW8 x0 x1 x2 x3 y0 y1 y2 y3 z0 z1 z2 z3
    obtain ⟨x0, x1, x2, x3⟩ := box_cells HW9.out.x
    obtain ⟨y0, y1, y2, y3⟩ := box_cells HW9.out.y
    obtain ⟨z0, z1, z2, z3⟩ := box_cells HW9.out.z
    dsimp only at x0 x1 x2 x3 y0 y1 y2 y3 z0 z1 z2 z3
    rcases HZ.out.err with ⟨rfl, hv⟩ | ⟨rfl, vb, vc⟩
    · rcases HU.out.err with ⟨rfl, hv2⟩ | ⟨rfl, va, vc⟩
      · clear hv hv2
        go_wp2_with fail
        go_ret
        exact ⟨rfl, HW9.out.below⟩
      · exact absurd ⟨HVb.out, vc⟩ hv
    · rcases HU.out.err with ⟨rfl, hv2⟩ | ⟨rfl, va, vc2⟩
      · exact absurd ⟨HVa.out, vc⟩ hv2
      · clear vb vc va vc2
        obtain ⟨m, hm, hmu⟩ : ∃ m : Int, (∀ W, (Builtin.min_ #[3, 3] 3 #[.int .i64 (farI (-1)), .int .i64 (farI z)]).run Tryz.prog W = .ok (.int .i64 m) W) ∧ m ≤ farI u :=
          ⟨_, run_min _ _, by rcases HX.out.tri HZ.out HU.out with h | h <;> split <;> omega⟩
        go_wp2_with (first | (go_at_call 10; refine (far_any _ _).mono ?_; rintro e w' ⟨rfl, rfl⟩))
        go_ret
        exact ⟨rfl, HW9.out.below⟩
  · have hab := HX.out.other hx
    have HAB := Lib.hid hab
    clear hab
    have hxd : (x == -1) = false := by simpa using hx
    clear hx
    go_wp2_with fail
    refine (requal_no (ya := ⟨a1, a2, a3, a4, a5, a6⟩) (yb := ⟨b1, b2, b3, b4, b5, b6⟩) HW6.out.la HW6.out.lb HAB.out).mono ?_
    rintro e w7 ⟨rfl, hb⟩
    have HW7 := Lib.hid (HW6.out.go hb)
    clear hb HW6 x0 x1 x2 x3 y0 y1 y2 y3 z0 z1 z2 z3
    obtain ⟨x0, x1, x2, x3⟩ := box_cells HW7.out.x
    obtain ⟨y0, y1, y2, y3⟩ := box_cells HW7.out.y
    obtain ⟨z0, z1, z2, z3⟩ := box_cells HW7.out.z
    dsimp only at x0 x1 x2 x3 y0 y1 y2 y3 z0 z1 z2 z3
    go_wp2_with fail
    refine (efirst_any ⟨Vb, Nb, Pb, Cb⟩ ⟨Vc, Nc, Pc, Cc⟩ ⟨b1, b2, b3, b4, b5, b6⟩ ⟨c1, c2, c3, c4, c5, c6⟩ _ HW7.out.lb HW7.out.lc HCb.out HCc.out).mono ?_
    rintro e w8 ⟨z, g, hG, rfl, hb⟩
    have HW8 := Lib.hid (HW7.out.go hb)
    have HZ := Lib.hid hG
    clear hG
    clear hb HW7 x0 x1 x2 x3 y0 y1 y2 y3 z0 z1 z2 z3
    obtain ⟨x0, x1, x2, x3⟩ := box_cells HW8.out.x
    obtain ⟨y0, y1, y2, y3⟩ := box_cells HW8.out.y
    obtain ⟨z0, z1, z2, z3⟩ := box_cells HW8.out.z
    dsimp only at x0 x1 x2 x3 y0 y1 y2 y3 z0 z1 z2 z3
    go_wp2_with fail
    refine (efirst_any ⟨Va, Na, Pa, Ca⟩ ⟨Vc, Nc, Pc, Cc⟩ ⟨a1, a2, a3, a4, a5, a6⟩ ⟨c1, c2, c3, c4, c5, c6⟩ _ HW8.out.la HW8.out.lc HCa.out HCc.out).mono ?_
    rintro e w9 ⟨u, h, hG, rfl, hb⟩
    have HW9 := Lib.hid (HW8.out.go hb)
    have HU := Lib.hid hG
    clear hG
    clear hb HW8 x0 x1 x2 x3 y0 y1 y2 y3 z0 z1 z2 z3
    obtain ⟨x0, x1, x2, x3⟩ := box_cells HW9.out.x
    obtain ⟨y0, y1, y2, y3⟩ := box_cells HW9.out.y
    obtain ⟨z0, z1, z2, z3⟩ := box_cells HW9.out.z
    dsimp only at x0 x1 x2 x3 y0 y1 y2 y3 z0 z1 z2 z3
    rcases HZ.out.err with ⟨rfl, hv⟩ | ⟨rfl, vb, vc⟩
    · rcases HU.out.err with ⟨rfl, hv2⟩ | ⟨rfl, va, vc⟩
      · clear hv hv2
        go_wp2_with fail
        go_ret
        exact ⟨rfl, HW9.out.below⟩
      · exact absurd ⟨HVb.out, vc⟩ hv
    · rcases HU.out.err with ⟨rfl, hv2⟩ | ⟨rfl, va, vc2⟩
      · exact absurd ⟨HVa.out, vc⟩ hv2
      · clear vb vc va vc2
        obtain ⟨m, hm, hmu⟩ : ∃ m : Int, (∀ W, (Builtin.min_ #[3, 3] 3 #[.int .i64 (farI x), .int .i64 (farI z)]).run Tryz.prog W = .ok (.int .i64 m) W) ∧ m ≤ farI u :=
          ⟨_, run_min _ _, by rcases HX.out.tri HZ.out HU.out with h | h <;> split <;> omega⟩
        go_wp2_with (first | (go_at_call 10; refine (far_any _ _).mono ?_; rintro e w' ⟨rfl, rfl⟩))
        go_ret
        exact ⟨rfl, HW9.out.below⟩
end Go.Sc
