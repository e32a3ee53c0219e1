/- The law EditionLate: it answers true. -/
import Derived.Test.YtjpbfggfoahoeaaGreatDoorSrX
import Derived.Test.YtjpbfggfoahoeaaGreatDoorScJ
namespace Go.Sc
open Go.RowKit Go.Proofs

/-- What the law carries: the score and the edit in their boxes, the variables laid. -/
structure LateAt (w0 : World) (s : Sc) (y : Lay) (x : Ed) (w : World) : Prop where
  below : Below w0.heap.size w0 w
  laid : LaidAt w
  sc : ScAt w s y
  box : w.rangeAt w0.heap.size 0 (s.cells y).toList
  ed : w.rangeAt (w0.heap.size + 1) 0 x.cells
theorem LateAt.go {w0 w w' : World} {s : Sc} {y : Lay} {x : Ed} (h : LateAt w0 s y x w) (hb : Below w.heap.size w w') : LateAt w0 s y x w' :=
  ⟨h.below.trans (hb.mono h.below.size), h.laid.below hb, h.sc.below hb, rangeAt_le hb h.box, rangeAt_le hb h.ed⟩
/-- Behind the edit: the edited score in its box, too. -/
structure LateB (w0 : World) (s : Sc) (y : Lay) (x : Ed) (B : Nat) (r : Sc) (z : Lay) (w : World) : Prop where
  base : LateAt w0 s y x w
  sc : ScAt w r z
  box : w.rangeAt B 0 (r.cells z).toList
theorem LateB.go {w0 w w' : World} {s r : Sc} {y z : Lay} {x : Ed} {B : Nat} (h : LateB w0 s y x B r z w) (hb : Below w.heap.size w w') : LateB w0 s y x B r z w' :=
  ⟨h.base.go hb, h.sc.below hb, rangeAt_le hb h.box⟩
theorem LateB.cells {w0 w : World} {s r : Sc} {y z : Lay} {x : Ed} {B : Nat} (h : LateB w0 s y x B r z w) :
    (w.cell? ⟨w0.heap.size, 0, none⟩ = some (.int .i64 s.v) ∧ w.cell? ⟨w0.heap.size, 1, none⟩ = some (.slice y.o1 s.n.length y.k1) ∧ w.cell? ⟨w0.heap.size, 2, none⟩ = some (.slice y.o2 s.p.length y.k2) ∧ w.cell? ⟨w0.heap.size, 3, none⟩ = some (.slice y.o3 s.c.length y.k3)) ∧
    (w.cell? ⟨B, 0, none⟩ = some (.int .i64 r.v) ∧ w.cell? ⟨B, 1, none⟩ = some (.slice z.o1 r.n.length z.k1) ∧ w.cell? ⟨B, 2, none⟩ = some (.slice z.o2 r.p.length z.k2) ∧ w.cell? ⟨B, 3, none⟩ = some (.slice z.o3 r.c.length z.k3)) ∧
    w.cell? ⟨w0.heap.size + 1, 0, none⟩ = some (.int .i64 x.k) ∧ w.cell? ⟨w0.heap.size + 1, 1, none⟩ = some (.int .i64 x.i) ∧ w.cell? ⟨w0.heap.size + 1, 13, none⟩ = some (.int .i64 x.p.b) :=
  ⟨box_cells h.base.box, box_cells h.box, by simpa using h.base.ed 0 _ rfl, by simpa using h.base.ed 1 _ rfl, by simpa using h.base.ed 13 _ rfl⟩
theorem late_edit {s r : Sc} {x : Ed} (hA : ApplyE s [x] r 0) : validOk s ∧ validOk r ∧ ∃ y0, editF s x = some y0 ∧ sortF y0 = r := by
  rcases hA with ⟨_, _, h⟩ | ⟨h1, _, s', h2, ⟨h3, h4, _⟩ | ⟨_, _, h⟩⟩
  · omega
  · subst h4
    rw [editsF] at h2
    cases he : editF s x with
    | none => rw [he] at h2; cases h2
    | some y0 =>
      rw [he] at h2
      simp only [editsF, Option.some.injEq] at h2
      exact ⟨h1, h3, y0, rfl, h2⟩
  · omega
theorem late_kind {s y0 : Sc} {x : Ed} (h : editF s x = some y0) : 1 ≤ x.k ∧ x.k ≤ 4 := by
  unfold editF at h
  by_cases h1 : x.k = 1
  · omega
  · rw [if_neg h1] at h
    by_cases h2 : x.k = 2
    · omega
    · rw [if_neg h2] at h
      by_cases h3 : x.k = 3
      · omega
      · rw [if_neg h3] at h
        split at h
        · omega
        · cases h
theorem late_start (w : World) (s : Sc) (y : Lay) (x : Ed) (hl : LaidAt w) (ha : ScAt w s y) : LateAt w s y x ((w.alloc (.cells (s.cells y) 26)).alloc (.cells x.cells.toArray 45)) := by
  have h : Below w.heap.size w ((w.alloc (.cells (s.cells y) 26)).alloc (.cells x.cells.toArray 45)) := ((Below.refl _ w).alloc (Nat.le_refl _) _).alloc (by simp) _
  have p2 := rangeAt_new (w.alloc (.cells (s.cells y) 26)) x.cells.toArray 45
  rw [World.size_alloc] at p2
  exact ⟨h, hl.below h, ha.below h, rangeAt_alloc _ (rangeAt_new w _ 26), p2⟩
set_option maxRecDepth 100000 in
set_option maxHeartbeats 16000000 in
theorem law_late (s : Sc) (y : Lay) (x : Ed) (w : World) (hl : LaidAt w) (ha : ScAt w s y) (hc : CapOk s y) (hn : NilOk y) :
    Calls Tryz.prog 5 #[.agg (s.cells y), .agg x.cells.toArray] w (fun e w' => e = .returned (.bool true) ∧ Below w.heap.size w w') := by
  have HW0 := Lib.hid (late_start w s y x hl ha)
  have HC := Lib.hid hc
  have HN := Lib.hid hn
  clear hl ha hc hn
  obtain ⟨V, N, P, C⟩ := s
  obtain ⟨o1, k1, o2, k2, o3, k3⟩ := y
  show Calls Tryz.prog 5 #[.agg #[.int .i64 V, .slice o1 N.length k1, .slice o2 P.length k2, .slice o3 C.length k3], .agg x.cells.toArray] w _
  go_enter Tryz.func5, Tryz.ntmps5
  go_wp2_with fail
  refine (head_any HW0.out.laid).mono ?_
  rintro e w1 ⟨rfl, hb1⟩
  have HW1 := Lib.hid (HW0.out.go hb1)
  clear hb1 HW0
  obtain ⟨x0, x1, x2, x3⟩ := box_cells HW1.out.box
  dsimp only at x0 x1 x2 x3
  by_cases hf : fewOk ⟨V, N, P, C⟩
  case neg =>
    have HF := Lib.hid hf
    clear hf
    go_wp2_with fail
    refine (few_no (y := ⟨o1, k1, o2, k2, o3, k3⟩) HF.out).mono ?_
    rintro e w9 ⟨rfl, hb⟩
    have HB := Lib.hid (HW1.out.go hb).below
    clear hb
    go_wp2_with fail
    go_ret
    exact ⟨rfl, HB.out⟩
  have HF := Lib.hid hf
  clear hf
  go_wp2_with fail
  refine (few_yes (y := ⟨o1, k1, o2, k2, o3, k3⟩) HF.out).mono ?_
  rintro e w2 ⟨rfl, hb⟩
  have HW2 := Lib.hid (HW1.out.go hb)
  clear hb HW1 x0 x1 x2 x3
  obtain ⟨x0, x1, x2, x3⟩ := box_cells HW2.out.box
  dsimp only at x0 x1 x2 x3
  have HED := Lib.hid HW2.out.ed
  have hsz : x.cells.toArray.size = 21 := rfl
  have hsz2 : x.cells.length = 21 := rfl
  go_wp2_with (refine wpList_load_mid rfl 45 (.tmp 3) rfl (w.heap.size + 1) 0 rfl _ _ HED.out Tryz.underlying45 rfl (by kernel_rfl) ?_)
  rw [fold_ed x]
  clear hsz hsz2
  have hb3 : Below w2.heap.size w2 (w2.alloc (.cells x.cells.toArray 45)) := (Below.refl _ w2).alloc (Nat.le_refl _) _
  have HW3 := Lib.hid (HW2.out.go hb3)
  clear hb3 x0 x1 x2 x3 HED
  refine (apply_any ⟨V, N, P, C⟩ ⟨o1, k1, o2, k2, o3, k3⟩ [x] (some ⟨w2.heap.size, 0, none⟩) 1 _ HW3.out.sc HN.out (eds_new w2 x)).mono ?_
  rintro e w4 ⟨r, yr, er, hA, rfl, hsr, hcr, hnr, hb⟩
  have HW4 := Lib.hid (HW3.out.go hb)
  have HA := Lib.hid hA
  have HSR := Lib.hid hsr
  have HCR := Lib.hid hcr
  clear hA hsr hcr hnr hb HW3 HW2
  have her : (er = 0 ∧ validOk ⟨V, N, P, C⟩ ∧ validOk r ∧ ∃ y0, editF ⟨V, N, P, C⟩ x = some y0 ∧ sortF y0 = r) ∨ (er != 0) = true := by
    by_cases h : er = 0
    · subst h
      exact .inl ⟨rfl, late_edit HA.out⟩
    · exact .inr (by simpa using h)
  have HER := Lib.hid her
  clear her
  obtain ⟨V', N', P', C'⟩ := r
  obtain ⟨p1, q1, p2, q2, p3, q3⟩ := yr
  dsimp only [Sc.cells]
  have hb5 : Below w4.heap.size w4 (w4.alloc (.cells #[.int .i64 V', .slice p1 N'.length q1, .slice p2 P'.length q2, .slice p3 C'.length q3] 26)) := (Below.refl _ w4).alloc (Nat.le_refl _) _
  have HL0 := Lib.hid (LateB.mk (HW4.out.go hb5) (HSR.out.below hb5) (rangeAt_new w4 #[.int .i64 V', .slice p1 N'.length q1, .slice p2 P'.length q2, .slice p3 C'.length q3] 26))
  clear hb5 HSR
  rcases HER.out with ⟨rfl, hvs, hvr, y00, hed, hso⟩ | hne
  case inr =>
    have HB5 := Lib.hid HL0.out.base.below
    go_wp2_with fail
    go_ret
    exact ⟨rfl, HB5.out⟩
  have HVS := Lib.hid hvs
  have HVR := Lib.hid hvr
  have HEDT := Lib.hid hed
  have HSO := Lib.hid hso
  clear hvs hvr hed hso HER
  go_upto_region 7 with (fail)
  generalize hW5 : World.alloc w4 _ = w5 at *
  clear hW5
  obtain ⟨⟨x0, x1, x2, x3⟩, ⟨y0, y1, y2, y3⟩, e0, e1, e13⟩ := HL0.out.cells
  dsimp only at x0 x1 x2 x3 y0 y1 y2 y3
  go_wp2_with fail
  refine (efirst_any ⟨V, N, P, C⟩ ⟨V', N', P', C'⟩ ⟨o1, k1, o2, k2, o3, k3⟩ ⟨p1, q1, p2, q2, p3, q3⟩ _ HL0.out.base.sc HL0.out.sc HC.out HCR.out).mono ?_
  rintro e w6 ⟨kf, ef, hF, rfl, hb⟩
  have HL1 := Lib.hid (HL0.out.go hb)
  clear x0 x1 x2 x3 y0 y1 y2 y3 e0 e1 e13 hb HL0 HW4
  obtain rfl : ef = 0 := by
    rcases hF.err with ⟨_, h⟩ | ⟨h, _⟩
    · exact absurd ⟨HVS.out, HVR.out⟩ h
    · exact h
  have hlate := late_law HVS.out HVR.out HEDT.out HSO.out hF
  have HLATE := Lib.hid hlate
  have hkd := late_kind HEDT.out
  clear hF hlate
  obtain ⟨⟨x0, x1, x2, x3⟩, ⟨y0, y1, y2, y3⟩, e0, e1, e13⟩ := HL1.out.cells
  dsimp only at x0 x1 x2 x3 y0 y1 y2 y3
  obtain ⟨kk, hkk⟩ : ∃ kk, x.k = kk := ⟨_, rfl⟩
  obtain ⟨ii, hii⟩ : ∃ ii, x.i = ii := ⟨_, rfl⟩
  obtain ⟨bb, hbb⟩ : ∃ bb, x.p.b = bb := ⟨_, rfl⟩
  have HKI : Hid (x.k = kk ∧ x.i = ii ∧ x.p.b = bb) := ⟨hkk, hii, hbb⟩
  rw [hkk] at e0 hkd
  rw [hii] at e1
  rw [hbb] at e13
  clear hkk hii hbb
  have z1 : decide (kk < 1) = false := decide_eq_false (by omega)
  have z2 : decide (kk > 4) = false := decide_eq_false (by omega)
  clear x0 x1 x2 x3 y0 y1 y2 y3 z1 z2
  have HLX := Lib.hid (HL1.out.go (Below.refl _ w6).drew)
  rcases (show kk = 1 ∨ kk = 2 ∨ kk = 3 ∨ kk = 4 by omega) with rfl | rfl | rfl | rfl
  · clear e0 e1 e13 hkd
    have hl := HLATE.out
    unfold Late at hl
    rw [if_pos HKI.out.1, HKI.out.2.1] at hl
    obtain ⟨s1, hs1⟩ : ∃ s1, secI ⟨V, N, P, C⟩ ii = s1 := ⟨_, rfl⟩
    obtain ⟨s2, hs2⟩ : ∃ s2, secI ⟨V', N', P', C'⟩ ii = s2 := ⟨_, rfl⟩
    obtain ⟨fk, hfk⟩ : ∃ fk, farI kf = fk := ⟨_, rfl⟩
    rw [hs1, hs2, hfk] at hl
    have sc1 : ∀ W, LateB w ⟨V, N, P, C⟩ ⟨o1, k1, o2, k2, o3, k3⟩ x w4.heap.size ⟨V', N', P', C'⟩ ⟨p1, q1, p2, q2, p3, q3⟩ W → Calls Tryz.prog 12 #[.agg #[.int .i64 V, .slice o1 N.length k1, .slice o2 P.length k2, .slice o3 C.length k3], .int .i64 ii] W (fun e w' => e = .returned (.int .i64 s1) ∧ Below W.heap.size W w') := fun W hW => by
      have := section_any ⟨V, N, P, C⟩ ⟨o1, k1, o2, k2, o3, k3⟩ ii W hW.base.sc
      rwa [hs1] at this
    have sc2 : ∀ W, LateB w ⟨V, N, P, C⟩ ⟨o1, k1, o2, k2, o3, k3⟩ x w4.heap.size ⟨V', N', P', C'⟩ ⟨p1, q1, p2, q2, p3, q3⟩ W → Calls Tryz.prog 12 #[.agg #[.int .i64 V', .slice p1 N'.length q1, .slice p2 P'.length q2, .slice p3 C'.length q3], .int .i64 ii] W (fun e w' => e = .returned (.int .i64 s2) ∧ Below W.heap.size W w') := fun W hW => by
      have := section_any ⟨V', N', P', C'⟩ ⟨p1, q1, p2, q2, p3, q3⟩ ii W hW.sc
      rwa [hs2] at this
    have scf : ∀ W, Calls Tryz.prog 10 #[.int .i64 kf] W (fun e w' => e = .returned (.int .i64 fk) ∧ W = w') := fun W => by
      have := far_any kf W
      rwa [hfk] at this
    have SC1 : Aside _ := sc1
    have SC2 : Aside _ := sc2
    have SCF : Aside _ := scf
    clear sc1 sc2 scf hs1 hs2 hfk
    obtain ⟨m, hm, hmu⟩ : ∃ m : Int, (∀ W, (Builtin.min_ #[3, 3] 3 #[.int .i64 s1, .int .i64 s2]).run Tryz.prog W = .ok (.int .i64 m) W) ∧ m ≤ fk :=
      ⟨_, run_min _ _, by split <;> omega⟩
    obtain ⟨⟨x0, x1, x2, x3⟩, ⟨y0, y1, y2, y3⟩, e0, e1, e13⟩ := HL1.out.cells
    rw [HKI.out.1] at e0; rw [HKI.out.2.1] at e1; rw [HKI.out.2.2] at e13; dsimp only at x0 x1 x2 x3 y0 y1 y2 y3
    go_upto_region 11 with (fail)
    clear x0 x1 x2 x3 y0 y1 y2 y3 e0 e1 e13 hl
    obtain ⟨⟨x0, x1, x2, x3⟩, ⟨y0, y1, y2, y3⟩, e0, e1, e13⟩ := HLX.out.cells
    rw [HKI.out.1] at e0; rw [HKI.out.2.1] at e1; rw [HKI.out.2.2] at e13; dsimp only at x0 x1 x2 x3 y0 y1 y2 y3
    go_region_held3 (fun W => W.cell? ⟨w.heap.size, 0, none⟩ = some (.int .i64 V) ∧ W.cell? ⟨w.heap.size, 1, none⟩ = some (.slice o1 N.length k1) ∧ W.cell? ⟨w.heap.size, 2, none⟩ = some (.slice o2 P.length k2) ∧ W.cell? ⟨w.heap.size, 3, none⟩ = some (.slice o3 C.length k3) ∧ W.cell? ⟨w4.heap.size, 0, none⟩ = some (.int .i64 V') ∧ W.cell? ⟨w4.heap.size, 1, none⟩ = some (.slice p1 N'.length q1) ∧ W.cell? ⟨w4.heap.size, 2, none⟩ = some (.slice p2 P'.length q2) ∧ W.cell? ⟨w4.heap.size, 3, none⟩ = some (.slice p3 C'.length q3) ∧ W.cell? ⟨w.heap.size + 1, 1, none⟩ = some (.int .i64 ii)) (first | exact ⟨x0, x1, x2, x3, y0, y1, y2, y3, e1⟩ | go_keep) (first
      | (go_at_call 10; refine (SCF.out _).mono ?_; rintro e w' ⟨rfl, rfl⟩)
      | (go_at_call 12; refine (SC1.out _ HLX.out).mono ?_; clear SC1; rintro e w' ⟨rfl, hb⟩; have HLX := Lib.hid (HLX.out.go hb); clear hb; obtain ⟨⟨x0, x1, x2, x3⟩, ⟨y0, y1, y2, y3⟩, e0, e1, e13⟩ := HLX.out.cells; rw [HKI.out.1] at e0; rw [HKI.out.2.1] at e1; rw [HKI.out.2.2] at e13; dsimp only at x0 x1 x2 x3 y0 y1 y2 y3)
      | (go_at_call 12; refine (SC2.out _ HLX.out).mono ?_; rintro e w' ⟨rfl, hb⟩; have HLX := Lib.hid (HLX.out.go hb); clear hb; obtain ⟨⟨x0, x1, x2, x3⟩, ⟨y0, y1, y2, y3⟩, e0, e1, e13⟩ := HLX.out.cells; rw [HKI.out.1] at e0; rw [HKI.out.2.1] at e1; rw [HKI.out.2.2] at e13; dsimp only at x0 x1 x2 x3 y0 y1 y2 y3))
    go_wp2_with fail
    go_ret
    exact ⟨rfl, HLX.out.base.below⟩
  · clear e0 e1 e13 hkd
    have hl := HLATE.out
    unfold Late at hl
    rw [if_neg (by rw [HKI.out.1]; decide), if_pos HKI.out.1, HKI.out.2.1, HKI.out.2.2] at hl
    obtain ⟨pp, hi0, hpp, hl⟩ := hl
    obtain ⟨n, rfl⟩ : ∃ n : Nat, ii = (n : Int) := ⟨ii.toNat, by omega⟩
    have hpp : P[n]? = some pp := by simpa using hpp
    have HPP := Lib.hid hpp
    clear hpp hi0
    obtain ⟨s1, hs1⟩ : ∃ s1, secI ⟨V, N, P, C⟩ pp.b = s1 := ⟨_, rfl⟩
    obtain ⟨fk, hfk⟩ : ∃ fk, farI kf = fk := ⟨_, rfl⟩
    obtain ⟨s2, hs2⟩ : ∃ s2, secI ⟨V, N, P, C⟩ bb = s2 := ⟨_, rfl⟩
    rw [hs1, hs2, hfk] at hl
    have sc1 : ∀ W, LateB w ⟨V, N, P, C⟩ ⟨o1, k1, o2, k2, o3, k3⟩ x w4.heap.size ⟨V', N', P', C'⟩ ⟨p1, q1, p2, q2, p3, q3⟩ W → Calls Tryz.prog 12 #[.agg #[.int .i64 V, .slice o1 N.length k1, .slice o2 P.length k2, .slice o3 C.length k3], .int .i64 pp.b] W (fun e w' => e = .returned (.int .i64 s1) ∧ Below W.heap.size W w') := fun W hW => by
      have := section_any ⟨V, N, P, C⟩ ⟨o1, k1, o2, k2, o3, k3⟩ pp.b W hW.base.sc
      rwa [hs1] at this
    have sc2 : ∀ W, LateB w ⟨V, N, P, C⟩ ⟨o1, k1, o2, k2, o3, k3⟩ x w4.heap.size ⟨V', N', P', C'⟩ ⟨p1, q1, p2, q2, p3, q3⟩ W → Calls Tryz.prog 12 #[.agg #[.int .i64 V, .slice o1 N.length k1, .slice o2 P.length k2, .slice o3 C.length k3], .int .i64 bb] W (fun e w' => e = .returned (.int .i64 s2) ∧ Below W.heap.size W w') := fun W hW => by
      have := section_any ⟨V, N, P, C⟩ ⟨o1, k1, o2, k2, o3, k3⟩ bb W hW.base.sc
      rwa [hs2] at this
    have scf : ∀ W, Calls Tryz.prog 10 #[.int .i64 kf] W (fun e w' => e = .returned (.int .i64 fk) ∧ W = w') := fun W => by
      have := far_any kf W
      rwa [hfk] at this
    have SC1 : Aside _ := sc1
    have SC2 : Aside _ := sc2
    have SCF : Aside _ := scf
    clear scf hfk sc1 hs1 sc2 hs2
    obtain ⟨m, hm, hmu⟩ : ∃ m : Int, (∀ W, (Builtin.min_ #[3, 3] 3 #[.int .i64 s1, .int .i64 s2]).run Tryz.prog W = .ok (.int .i64 m) W) ∧ m ≤ fk :=
      ⟨_, run_min _ _, by split <;> omega⟩
    clear hl
    obtain ⟨⟨x0, x1, x2, x3⟩, ⟨y0, y1, y2, y3⟩, e0, e1, e13⟩ := HL1.out.cells
    rw [HKI.out.1] at e0; rw [HKI.out.2.1] at e1; rw [HKI.out.2.2] at e13; dsimp only at x0 x1 x2 x3 y0 y1 y2 y3
    obtain ⟨ba, off, hoo, hba, hrp⟩ := HLX.out.base.sc.2.1 n pp HPP.out
    dsimp only at hoo
    subst hoo
    have hpb : w6.drew.cell? ⟨ba, off + n * 9 + 1, none⟩ = some (.int .i64 pp.b) := by simpa using hrp 1 _ rfl
    have n0 : (0 : Int) ≤ (n : Int) := by omega
    have n1 : (n : Int) < (P.length : Int) := by have := (List.getElem?_eq_some_iff.1 HPP.out).1; omega
    have n2 : ¬ (P.length : Int) ≤ (n : Int) := by omega
    have n3 : decide ((n : Int) < 0) = false := decide_eq_false (by omega)
    have n4 : decide ((n : Int) ≥ (P.length : Int)) = false := decide_eq_false (by omega)
    go_upto_region 16 with (fail)
    clear x0 x1 x2 x3 y0 y1 y2 y3 e0 e1 e13
    obtain ⟨⟨x0, x1, x2, x3⟩, ⟨y0, y1, y2, y3⟩, e0, e1, e13⟩ := HLX.out.cells
    rw [HKI.out.1] at e0; rw [HKI.out.2.1] at e1; rw [HKI.out.2.2] at e13; dsimp only at x0 x1 x2 x3 y0 y1 y2 y3
    have HBOX := Lib.hid (show w6.drew.rangeAt w.heap.size 0 [.int .i64 V, .slice o1 N.length k1, .slice (some ⟨ba, off, none⟩) P.length k2, .slice o3 C.length k3] from HLX.out.base.box)
    clear hba hrp
    refine wp_region_still_tail 8 (by kernel_rfl) (by kernel_rfl) ?_
    simp only [List.take_succ_cons, List.take_zero, List.drop_succ_cons, List.drop_zero]
    change wpStill _ _ w6.drew _ _ _
    refine still_load rfl 26 (.tmp 2) rfl w.heap.size 0 ?_ _ _ HBOX.out Tryz.underlying26 rfl (by kernel_rfl) ?_
    · rfl
    iterate 7 still_step
    refine wpStill_nil ?_
    change wpList _ _ _ _ _ w6.drew
    clear hpb
    clear HBOX
    generalize w6.drew = w7 at *
    go_wp2_with (first
      | (go_at_call 10; refine (SCF.out _).mono ?_; rintro e w' ⟨rfl, rfl⟩)
      | (go_at_call 12; refine (SC1.out _ HLX.out).mono ?_; clear SC1; rintro e w' ⟨rfl, hb⟩; have HLX := Lib.hid (HLX.out.go hb); clear hb; obtain ⟨⟨x0, x1, x2, x3⟩, ⟨y0, y1, y2, y3⟩, e0, e1, e13⟩ := HLX.out.cells; rw [HKI.out.1] at e0; rw [HKI.out.2.1] at e1; rw [HKI.out.2.2] at e13; dsimp only at x0 x1 x2 x3 y0 y1 y2 y3)
      | (go_at_call 12; refine (SC2.out _ HLX.out).mono ?_; rintro e w' ⟨rfl, hb⟩; have HLX := Lib.hid (HLX.out.go hb); clear hb; obtain ⟨⟨x0, x1, x2, x3⟩, ⟨y0, y1, y2, y3⟩, e0, e1, e13⟩ := HLX.out.cells; rw [HKI.out.1] at e0; rw [HKI.out.2.1] at e1; rw [HKI.out.2.2] at e13; dsimp only at x0 x1 x2 x3 y0 y1 y2 y3))
    go_ret
    exact ⟨rfl, HLX.out.base.below⟩
  · clear e0 e1 e13 hkd
    have hl := HLATE.out
    unfold Late at hl
    rw [if_neg (by rw [HKI.out.1]; decide), if_neg (by rw [HKI.out.1]; decide), if_pos HKI.out.1, HKI.out.2.1] at hl
    obtain ⟨pp, hi0, hpp, hl⟩ := hl
    obtain ⟨n, rfl⟩ : ∃ n : Nat, ii = (n : Int) := ⟨ii.toNat, by omega⟩
    have hpp : P[n]? = some pp := by simpa using hpp
    have HPP := Lib.hid hpp
    clear hpp hi0
    obtain ⟨s1, hs1⟩ : ∃ s1, secI ⟨V, N, P, C⟩ pp.b = s1 := ⟨_, rfl⟩
    obtain ⟨fk, hfk⟩ : ∃ fk, farI kf = fk := ⟨_, rfl⟩
    rw [hs1, hfk] at hl
    have sc1 : ∀ W, LateB w ⟨V, N, P, C⟩ ⟨o1, k1, o2, k2, o3, k3⟩ x w4.heap.size ⟨V', N', P', C'⟩ ⟨p1, q1, p2, q2, p3, q3⟩ W → Calls Tryz.prog 12 #[.agg #[.int .i64 V, .slice o1 N.length k1, .slice o2 P.length k2, .slice o3 C.length k3], .int .i64 pp.b] W (fun e w' => e = .returned (.int .i64 s1) ∧ Below W.heap.size W w') := fun W hW => by
      have := section_any ⟨V, N, P, C⟩ ⟨o1, k1, o2, k2, o3, k3⟩ pp.b W hW.base.sc
      rwa [hs1] at this
    have scf : ∀ W, Calls Tryz.prog 10 #[.int .i64 kf] W (fun e w' => e = .returned (.int .i64 fk) ∧ W = w') := fun W => by
      have := far_any kf W
      rwa [hfk] at this
    have SC1 : Aside _ := sc1
    have SCF : Aside _ := scf
    clear scf hfk sc1 hs1
    obtain ⟨⟨x0, x1, x2, x3⟩, ⟨y0, y1, y2, y3⟩, e0, e1, e13⟩ := HL1.out.cells
    rw [HKI.out.1] at e0; rw [HKI.out.2.1] at e1; rw [HKI.out.2.2] at e13; dsimp only at x0 x1 x2 x3 y0 y1 y2 y3
    obtain ⟨ba, off, hoo, hba, hrp⟩ := HLX.out.base.sc.2.1 n pp HPP.out
    dsimp only at hoo
    subst hoo
    have hpb : w6.drew.cell? ⟨ba, off + n * 9 + 1, none⟩ = some (.int .i64 pp.b) := by simpa using hrp 1 _ rfl
    have n0 : (0 : Int) ≤ (n : Int) := by omega
    have n1 : (n : Int) < (P.length : Int) := by have := (List.getElem?_eq_some_iff.1 HPP.out).1; omega
    have n2 : ¬ (P.length : Int) ≤ (n : Int) := by omega
    have n3 : decide ((n : Int) < 0) = false := decide_eq_false (by omega)
    have n4 : decide ((n : Int) ≥ (P.length : Int)) = false := decide_eq_false (by omega)
    go_upto_region 16 with (fail)
    clear x0 x1 x2 x3 y0 y1 y2 y3 e0 e1 e13
    obtain ⟨⟨x0, x1, x2, x3⟩, ⟨y0, y1, y2, y3⟩, e0, e1, e13⟩ := HLX.out.cells
    rw [HKI.out.1] at e0; rw [HKI.out.2.1] at e1; rw [HKI.out.2.2] at e13; dsimp only at x0 x1 x2 x3 y0 y1 y2 y3
    have HBOX := Lib.hid (show w6.drew.rangeAt w.heap.size 0 [.int .i64 V, .slice o1 N.length k1, .slice (some ⟨ba, off, none⟩) P.length k2, .slice o3 C.length k3] from HLX.out.base.box)
    clear hba hrp
    refine wp_region_still_tail 8 (by kernel_rfl) (by kernel_rfl) ?_
    simp only [List.take_succ_cons, List.take_zero, List.drop_succ_cons, List.drop_zero]
    change wpStill _ _ w6.drew _ _ _
    refine still_load rfl 26 (.tmp 2) rfl w.heap.size 0 ?_ _ _ HBOX.out Tryz.underlying26 rfl (by kernel_rfl) ?_
    · rfl
    iterate 7 still_step
    refine wpStill_nil ?_
    change wpList _ _ _ _ _ w6.drew
    clear hpb
    clear HBOX
    generalize w6.drew = w7 at *
    go_wp2_with (first
      | (go_at_call 10; refine (SCF.out _).mono ?_; rintro e w' ⟨rfl, rfl⟩)
      | (go_at_call 12; refine (SC1.out _ HLX.out).mono ?_; clear SC1; rintro e w' ⟨rfl, hb⟩; have HLX := Lib.hid (HLX.out.go hb); clear hb; obtain ⟨⟨x0, x1, x2, x3⟩, ⟨y0, y1, y2, y3⟩, e0, e1, e13⟩ := HLX.out.cells; rw [HKI.out.1] at e0; rw [HKI.out.2.1] at e1; rw [HKI.out.2.2] at e13; dsimp only at x0 x1 x2 x3 y0 y1 y2 y3))
    go_ret
    exact ⟨rfl, HLX.out.base.below⟩
  · clear e0 e1 e13 hkd
    have hl := HLATE.out
    unfold Late at hl
    rw [if_neg (by rw [HKI.out.1]; decide), if_neg (by rw [HKI.out.1]; decide), if_neg (by rw [HKI.out.1]; decide), HKI.out.2.2] at hl
    have hl := hl.2
    obtain ⟨fk, hfk⟩ : ∃ fk, farI kf = fk := ⟨_, rfl⟩
    obtain ⟨s2, hs2⟩ : ∃ s2, secI ⟨V, N, P, C⟩ bb = s2 := ⟨_, rfl⟩
    rw [hs2, hfk] at hl
    have sc2 : ∀ W, LateB w ⟨V, N, P, C⟩ ⟨o1, k1, o2, k2, o3, k3⟩ x w4.heap.size ⟨V', N', P', C'⟩ ⟨p1, q1, p2, q2, p3, q3⟩ W → Calls Tryz.prog 12 #[.agg #[.int .i64 V, .slice o1 N.length k1, .slice o2 P.length k2, .slice o3 C.length k3], .int .i64 bb] W (fun e w' => e = .returned (.int .i64 s2) ∧ Below W.heap.size W w') := fun W hW => by
      have := section_any ⟨V, N, P, C⟩ ⟨o1, k1, o2, k2, o3, k3⟩ bb W hW.base.sc
      rwa [hs2] at this
    have scf : ∀ W, Calls Tryz.prog 10 #[.int .i64 kf] W (fun e w' => e = .returned (.int .i64 fk) ∧ W = w') := fun W => by
      have := far_any kf W
      rwa [hfk] at this
    have SC2 : Aside _ := sc2
    have SCF : Aside _ := scf
    clear scf hfk sc2 hs2
    obtain ⟨m, hm, hmu⟩ : ∃ m : Int, (∀ W, (Builtin.min_ #[3, 3] 3 #[.int .i64 100, .int .i64 s2]).run Tryz.prog W = .ok (.int .i64 m) W) ∧ m ≤ fk :=
      ⟨_, run_min _ _, by split <;> omega⟩
    clear hl
    obtain ⟨⟨x0, x1, x2, x3⟩, ⟨y0, y1, y2, y3⟩, e0, e1, e13⟩ := HL1.out.cells
    rw [HKI.out.1] at e0; rw [HKI.out.2.1] at e1; rw [HKI.out.2.2] at e13; dsimp only at x0 x1 x2 x3 y0 y1 y2 y3
    have HLX := HL1
    go_wp2_with (first
      | (go_at_call 10; refine (SCF.out _).mono ?_; rintro e w' ⟨rfl, rfl⟩)
      | (go_at_call 12; refine (SC2.out _ HLX.out).mono ?_; rintro e w' ⟨rfl, hb⟩; have HLX := Lib.hid (HLX.out.go hb); clear hb; obtain ⟨⟨x0, x1, x2, x3⟩, ⟨y0, y1, y2, y3⟩, e0, e1, e13⟩ := HLX.out.cells; rw [HKI.out.1] at e0; rw [HKI.out.2.1] at e1; rw [HKI.out.2.2] at e13; dsimp only at x0 x1 x2 x3 y0 y1 y2 y3))
    go_ret
    exact ⟨rfl, HLX.out.base.below⟩
end Go.Sc
