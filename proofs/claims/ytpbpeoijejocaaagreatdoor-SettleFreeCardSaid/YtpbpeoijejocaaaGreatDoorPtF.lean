/- Whether a pair is broken: tree.broken. -/
import Derived.Test.YtpbpeoijejocaaaGreatDoorPtE
import Derived.Test.YtpbpeoijejocaaaGreatDoorScE
import Derived.Deep.RegionHeld3
import Derived.BigQuiet
namespace Go.Sc
open Go.RowKit Go.Proofs

/-- A pitch in its box. -/
structure PitAt (w : World) (B : Nat) (v : Vc) : Prop where
  lt : B < w.heap.size
  r : w.rangeAt B 0 v.cells
theorem PitAt.below {w w' : World} {B : Nat} {v : Vc} (h : PitAt w B v) (hb : Below w.heap.size w w') : PitAt w' B v := ⟨Nat.lt_of_lt_of_le h.lt hb.size, rangeAt_below hb h.lt h.r⟩
/-- The zero pitch in its box. -/
abbrev ZV (w : World) (B : Nat) : Prop := w.heap[B]? = some (.cells #[.int .i64 0, .int .i64 0, .int .i64 0, .int .i64 0, .int .i64 0, .int .i64 0] 57 (0, 0))
theorem ZV.cell {w : World} {B : Nat} (h : ZV w B) (j : Nat) (hj : j < 6) : w.cell? ⟨B, j, none⟩ = some (.int .i64 0) := by
  rw [cell_of_row w B j _ 57 (0, 0) h]
  rcases (show j = 0 ∨ j = 1 ∨ j = 2 ∨ j = 3 ∨ j = 4 ∨ j = 5 by omega) with rfl | rfl | rfl | rfl | rfl | rfl <;> rfl
theorem ZV.frozen {w : World} {B : Nat} (h : ZV w B) (j : Nat) : w.frozen? ⟨B, j, none⟩ = false := by
  have h' : w.heap[B]? = _ := h
  unfold World.frozen?
  simp [h']
theorem pit_new (w : World) (v : Vc) : PitAt (w.alloc (.cells #[.int .i64 v.x0, .int .i64 v.x1, .int .i64 v.x2, .int .i64 v.x3, .int .i64 v.x4, .int .i64 v.x5] 57)) w.heap.size v := ⟨by simp, rangeAt_born w _ _⟩
theorem pit_set {w : World} {B : Nat} (h : ZV w B) (v : Vc) : PitAt ((((((w.setCell ⟨B, 0, none⟩ (.int .i64 v.x0)).setCell ⟨B, 1, none⟩ (.int .i64 v.x1)).setCell ⟨B, 2, none⟩ (.int .i64 v.x2)).setCell ⟨B, 3, none⟩ (.int .i64 v.x3)).setCell ⟨B, 4, none⟩ (.int .i64 v.x4)).setCell ⟨B, 5, none⟩ (.int .i64 v.x5)) B v := by
  have c0 := h.cell 0 (by decide)
  have c1 := h.cell 1 (by decide)
  have c2 := h.cell 2 (by decide)
  have c3 := h.cell 3 (by decide)
  have c4 := h.cell 4 (by decide)
  have c5 := h.cell 5 (by decide)
  have hlt := World.block_lt_of_cell? w _ c0
  refine ⟨by simpa [World.setCell] using hlt, fun j u hj => ?_⟩
  rcases (show j = 0 ∨ j = 1 ∨ j = 2 ∨ j = 3 ∨ j = 4 ∨ j = 5 ∨ 6 ≤ j by omega) with rfl | rfl | rfl | rfl | rfl | rfl | h6
  · cases hj; go_simp
  · cases hj; go_simp
  · cases hj; go_simp
  · cases hj; go_simp
  · cases hj; go_simp
  · cases hj; go_simp
  · rw [List.getElem?_eq_none (by simp [Vc.cells]; omega)] at hj; cases hj
theorem zv_alloc (w : World) : ZV (w.alloc (.cells #[.int .i64 0, .int .i64 0, .int .i64 0, .int .i64 0, .int .i64 0, .int .i64 0] 57)) w.heap.size := World.alloc_heap_new' w _
theorem not_near {u v q : Vc} {bd : Int} : (-(10000 * bd) ≤ loOf (u.twelve.add (v.add q 1).twelve (-1)) ∧ hiOf (u.twelve.add (v.add q 1).twelve (-1)) ≤ 10000 * bd) ↔ nearOf ((u.add v (-1)).add q (-1)) bd := by
  have e : u.twelve.add (v.add q 1).twelve (-1) = ((u.add v (-1)).add q (-1)).twelve := by apply Vc.ext' <;> simp only [Vc.add, Vc.twelve] <;> omega
  rw [e]
  exact Iff.rfl
set_option maxRecDepth 100000 in
set_option maxHeartbeats 2000000 in
/-- Whether a pair is tuned and broken. -/
theorem broken_any (T : Nat) (s : Sc) (y : Lay) (z : Tl) (xs : List Vc) (i : Nat) (p : Pr) (w : World) (ht : TreeAt w T s y z xs) (hp : s.p[i]? = some p) (h0 : 0 ≤ p.a) (h1 : p.a < p.b) (hx : ∀ x ∈ xs, x.lim 32) (hw : p.want.lim 16) (hbd : 0 ≤ p.bd ∧ p.bd ≤ 100000) (hl : LogsAt w) :
    Calls Tryz.prog 27 #[.pointer (some ⟨T, 0, none⟩), .int .i64 (i : Int)] w fun e w' => ∃ bb : Bool, (bb = true ↔ brkOf xs p) ∧ e = .returned (.bool bb) ∧ Below w.heap.size w w' := by
  have HT := Lib.hid ht
  have HL := Lib.hid hl
  have HP := Lib.hid hp
  have HX := Lib.hid hx
  have HW := Lib.hid hw
  obtain ⟨hb0, hb1⟩ := hbd
  obtain ⟨b2, f2, hb2, hbl, hr⟩ := ht.sc.2.1 i _ hp
  have c2 := ht.cell.1
  have c6 := ht.cell.2.2
  rw [hb2] at c2
  have hlt := ht.lt
  have hi : i < s.p.length := (List.getElem?_eq_some_iff.1 hp).1
  clear ht hl hp hx hw hb2
  obtain ⟨a, b, w0, w1, w2, w3, w4, w5, bd⟩ := p
  dsimp only at h0 h1 hb0 hb1
  obtain ⟨a, rfl⟩ : ∃ i : Nat, a = i := ⟨a.toNat, by omega⟩
  obtain ⟨b, rfl⟩ : ∃ i : Nat, b = i := ⟨b.toNat, by omega⟩
  have HR := Lib.hid hr
  clear hr
  go_enter Tryz.func27, Tryz.ntmps27
  go_upto_region 2 with (refine wpList_load_mid rfl 84 (.tmp 18) rfl b2 (f2 + i * 9) rfl _ _ HR.out Tryz.underlying84 rfl (by kernel_rfl) ?_; simp only [Pr.cells])
  have HB : Hid (Below w.heap.size w (w.alloc (.cells #[.int .i64 (a : Int), .int .i64 (b : Int), .int .i64 w0, .int .i64 w1, .int .i64 w2, .int .i64 w3, .int .i64 w4, .int .i64 w5, .int .i64 bd] 84))) := (Below.refl _ w).alloc (Nat.le_refl _) _
  have hs : (w.alloc (.cells #[.int .i64 (a : Int), .int .i64 (b : Int), .int .i64 w0, .int .i64 w1, .int .i64 w2, .int .i64 w3, .int .i64 w4, .int .i64 w5, .int .i64 bd] 84)).heap.size = w.heap.size + 1 := by simp
  have p0 : (w.alloc (.cells #[.int .i64 (a : Int), .int .i64 (b : Int), .int .i64 w0, .int .i64 w1, .int .i64 w2, .int .i64 w3, .int .i64 w4, .int .i64 w5, .int .i64 bd] 84)).cell? ⟨w.heap.size, 0, none⟩ = some (.int .i64 (a : Int)) := by go_simp
  have p1 : (w.alloc (.cells #[.int .i64 (a : Int), .int .i64 (b : Int), .int .i64 w0, .int .i64 w1, .int .i64 w2, .int .i64 w3, .int .i64 w4, .int .i64 w5, .int .i64 bd] 84)).cell? ⟨w.heap.size, 1, none⟩ = some (.int .i64 (b : Int)) := by go_simp
  have p2 : (w.alloc (.cells #[.int .i64 (a : Int), .int .i64 (b : Int), .int .i64 w0, .int .i64 w1, .int .i64 w2, .int .i64 w3, .int .i64 w4, .int .i64 w5, .int .i64 bd] 84)).cell? ⟨w.heap.size, 2, none⟩ = some (.int .i64 w0) := by go_simp
  have p3 : (w.alloc (.cells #[.int .i64 (a : Int), .int .i64 (b : Int), .int .i64 w0, .int .i64 w1, .int .i64 w2, .int .i64 w3, .int .i64 w4, .int .i64 w5, .int .i64 bd] 84)).cell? ⟨w.heap.size, 3, none⟩ = some (.int .i64 w1) := by go_simp
  have p4 : (w.alloc (.cells #[.int .i64 (a : Int), .int .i64 (b : Int), .int .i64 w0, .int .i64 w1, .int .i64 w2, .int .i64 w3, .int .i64 w4, .int .i64 w5, .int .i64 bd] 84)).cell? ⟨w.heap.size, 4, none⟩ = some (.int .i64 w2) := by go_simp
  have p5 : (w.alloc (.cells #[.int .i64 (a : Int), .int .i64 (b : Int), .int .i64 w0, .int .i64 w1, .int .i64 w2, .int .i64 w3, .int .i64 w4, .int .i64 w5, .int .i64 bd] 84)).cell? ⟨w.heap.size, 5, none⟩ = some (.int .i64 w3) := by go_simp
  have p6 : (w.alloc (.cells #[.int .i64 (a : Int), .int .i64 (b : Int), .int .i64 w0, .int .i64 w1, .int .i64 w2, .int .i64 w3, .int .i64 w4, .int .i64 w5, .int .i64 bd] 84)).cell? ⟨w.heap.size, 6, none⟩ = some (.int .i64 w4) := by go_simp
  have p7 : (w.alloc (.cells #[.int .i64 (a : Int), .int .i64 (b : Int), .int .i64 w0, .int .i64 w1, .int .i64 w2, .int .i64 w3, .int .i64 w4, .int .i64 w5, .int .i64 bd] 84)).cell? ⟨w.heap.size, 7, none⟩ = some (.int .i64 w5) := by go_simp
  have p8 : (w.alloc (.cells #[.int .i64 (a : Int), .int .i64 (b : Int), .int .i64 w0, .int .i64 w1, .int .i64 w2, .int .i64 w3, .int .i64 w4, .int .i64 w5, .int .i64 bd] 84)).cell? ⟨w.heap.size, 8, none⟩ = some (.int .i64 bd) := by go_simp
  replace c6 := (HB.out.cell (p := ⟨T, 6, none⟩) hlt).trans c6
  generalize World.alloc w _ = W1 at *
  by_cases hlb : b < xs.length
  case neg =>
    have d1 : decide (xs.length ≤ b) = true := by simp; omega
    go_region
    go_wp2_with fail
    go_ret
    exact ⟨false, by unfold brkOf; simp; omega, rfl, HB.out.drew⟩
  have d1 : decide (xs.length ≤ b) = false := by simp; omega
  go_region
  go_upto_if 30 with (fail)
  clear d1
  have HB' : Hid (Below w.heap.size w W1.drew) := HB.out.drew
  by_cases hbz : bd = 0
  case pos =>
    subst hbz
    go_wp2_with fail
    obtain ⟨ev, hev⟩ : ∃ ev, excOf xs ⟨(a : Int), (b : Int), w0, w1, w2, w3, w4, w5, 0⟩ = ev := ⟨_, rfl⟩
    have HE := Lib.hid (exceeds_any T s y z xs ⟨(a : Int), (b : Int), w0, w1, w2, w3, w4, w5, 0⟩ _ (HT.out.below HB'.out) (by simp) (by dsimp only; omega) (by simp) (by dsimp only; omega) HX.out HW.out)
    rw [hev] at HE
    refine HE.out.mono ?_
    have HEV := Lib.hid hev
    clear hev HE
    obtain ⟨e0, e1, e2, e3, e4, e5⟩ := ev
    dsimp only [Vc.cells]
    rintro e wa ⟨rfl, hb⟩
    have HBa : Hid (Below w.heap.size w wa) := HB'.out.trans (hb.mono HB'.out.size)
    clear hb p0 p1 p2 p3 p4 p5 p6 p7 p8
    by_cases hz : (e0 = 0 ∧ e1 = 0 ∧ e2 = 0 ∧ e3 = 0 ∧ e4 = 0 ∧ e5 = 0)
    · have hq : ∀ W, (Op.equalIn 10000 29 (.agg #[.int .i64 e0, .int .i64 e1, .int .i64 e2, .int .i64 e3, .int .i64 e4, .int .i64 e5]) (.agg #[.int .i64 0, .int .i64 0, .int .i64 0, .int .i64 0, .int .i64 0, .int .i64 0])).run Tryz.prog W = .ok true W := fun W => by rw [eq_vec, decide_eq_true hz]
      have HZ := Lib.hid hz
      clear hz
      go_wp2_with fail
      go_ret
      refine ⟨false, ?_, rfl, HBa.out⟩
      obtain ⟨rfl, rfl, rfl, rfl, rfl, rfl⟩ := HZ.out
      exact ⟨(fun h => by cases h), fun h => by have h2 := h.2; rw [if_pos rfl, HEV.out] at h2; exact absurd rfl h2⟩
    · have hq : ∀ W, (Op.equalIn 10000 29 (.agg #[.int .i64 e0, .int .i64 e1, .int .i64 e2, .int .i64 e3, .int .i64 e4, .int .i64 e5]) (.agg #[.int .i64 0, .int .i64 0, .int .i64 0, .int .i64 0, .int .i64 0, .int .i64 0])).run Tryz.prog W = .ok false W := fun W => by rw [eq_vec, decide_eq_false hz]
      have HZ := Lib.hid hz
      clear hz
      go_wp2_with fail
      go_ret
      refine ⟨true, ?_, rfl, HBa.out⟩
      refine ⟨fun _ => ⟨by dsimp only; omega, ?_⟩, fun _ => rfl⟩
      rw [if_pos rfl, HEV.out]
      exact fun h => HZ.out (by simpa [Vc.zero] using h)
  have dz : (bd == 0) = false := by simpa using hbz
  go_upto_region 6 with (fail)
  simp only [dz]
  clear dz
  obtain ⟨u, hu⟩ := get_of_lt (l := xs) (k := b) (by omega)
  obtain ⟨v, hv⟩ := get_of_lt (l := xs) (k := a) (by omega)
  have e : excOf xs ⟨(a : Int), (b : Int), w0, w1, w2, w3, w4, w5, bd⟩ = (u.add v (-1)).add ⟨w0, w1, w2, w3, w4, w5⟩ (-1) := by unfold excOf; rw [parOf_nat, parOf_nat, hu, hv]; rfl
  have HEV := Lib.hid e
  have l1 := HX.out u (List.mem_of_getElem? hu)
  have l2 := HX.out v (List.mem_of_getElem? hv)
  have OF1 := Lib.hid (fun W => pof_any u W (lim_mono (by decide) l1))
  have AD := Lib.hid (fun W => add_any v ⟨w0, w1, w2, w3, w4, w5⟩ 1 W (lim_mono (by decide) l2) (lim_mono (by decide) HW.out) (.inl rfl))
  have OF2 := Lib.hid (fun W => pof_any (v.add ⟨w0, w1, w2, w3, w4, w5⟩ 1) W (lim_mono (by decide) (lim_add l2 HW.out (.inl rfl))))
  have l1' : u.twelve.lim 576 := by have h := lim_vals l1; unfold Vc.lim okV okE Vc.twelve; dsimp only; omega
  have l2' : (v.add ⟨w0, w1, w2, w3, w4, w5⟩ 1).twelve.lim 576 := by have h := lim_vals (show (v.add ⟨w0, w1, w2, w3, w4, w5⟩ 1).lim (32 + 16) from lim_add l2 HW.out (.inl rfl)); unfold Vc.lim okV okE Vc.twelve; dsimp only; omega
  have NR := Lib.hid (fun W (h : LogsAt W) => near_any u.twelve (v.add ⟨w0, w1, w2, w3, w4, w5⟩ 1).twelve bd W l1' l2' hb0 hb1 h)
  have HNN := Lib.hid (not_near (u := u) (v := v) (q := ⟨w0, w1, w2, w3, w4, w5⟩) (bd := bd))
  obtain ⟨bx, off, hox, hbx, hru⟩ := (HT.out.below HB'.out).xs b _ hu
  obtain ⟨bx', off', hox', _, hrv⟩ := (HT.out.below HB'.out).xs a _ hv
  rw [hox] at hox'
  cases hox'
  rw [hox] at c6
  clear e hu hv l1 l2 l1' l2' hox
  obtain ⟨lo, hlo⟩ : ∃ q, loOf (u.twelve.add (v.add ⟨w0, w1, w2, w3, w4, w5⟩ 1).twelve (-1)) = q := ⟨_, rfl⟩
  obtain ⟨hi', hhi⟩ : ∃ q, hiOf (u.twelve.add (v.add ⟨w0, w1, w2, w3, w4, w5⟩ 1).twelve (-1)) = q := ⟨_, rfl⟩
  rw [hlo, hhi] at NR HNN
  clear hlo hhi
  obtain ⟨t2, ht2⟩ : ∃ q, (v.add ⟨w0, w1, w2, w3, w4, w5⟩ 1).twelve = q := ⟨_, rfl⟩
  rw [ht2] at OF2 NR
  obtain ⟨t1, ht1⟩ : ∃ q, u.twelve = q := ⟨_, rfl⟩
  rw [ht1] at OF1 NR
  obtain ⟨t0, ht0⟩ : ∃ q, v.add ⟨w0, w1, w2, w3, w4, w5⟩ 1 = q := ⟨_, rfl⟩
  rw [ht0] at AD OF2
  clear ht0 ht1 ht2
  obtain ⟨u0, u1, u2, u3, u4, u5⟩ := u
  obtain ⟨v0, v1, v2, v3, v4, v5⟩ := v
  obtain ⟨x0, x1, x2, x3, x4, x5⟩ := t1
  obtain ⟨y0, y1, y2, y3, y4, y5⟩ := t2
  obtain ⟨d0, d1, d2, d3, d4, d5⟩ := t0
  obtain ⟨u0', u1', u2', u3', u4', u5'⟩ := RowAt.six hru
  obtain ⟨v0', v1', v2', v3', v4', v5'⟩ := RowAt.six hrv
  clear hru hrv
  dsimp only [Vc.cells] at OF1 AD OF2 NR
  have c6 : W1.drew.cell? ⟨T, 6, none⟩ = some (.slice (some ⟨bx, off, none⟩) xs.length z.kx) := c6
  have p0 : W1.drew.cell? ⟨w.heap.size, 0, none⟩ = some (.int .i64 (a : Int)) := p0
  have p1 : W1.drew.cell? ⟨w.heap.size, 1, none⟩ = some (.int .i64 (b : Int)) := p1
  have p2 : W1.drew.cell? ⟨w.heap.size, 2, none⟩ = some (.int .i64 w0) := p2
  have p3 : W1.drew.cell? ⟨w.heap.size, 3, none⟩ = some (.int .i64 w1) := p3
  have p4 : W1.drew.cell? ⟨w.heap.size, 4, none⟩ = some (.int .i64 w2) := p4
  have p5 : W1.drew.cell? ⟨w.heap.size, 5, none⟩ = some (.int .i64 w3) := p5
  have p6 : W1.drew.cell? ⟨w.heap.size, 6, none⟩ = some (.int .i64 w4) := p6
  have p7 : W1.drew.cell? ⟨w.heap.size, 7, none⟩ = some (.int .i64 w5) := p7
  have p8 : W1.drew.cell? ⟨w.heap.size, 8, none⟩ = some (.int .i64 bd) := p8
  have hs' : W1.drew.heap.size = w.heap.size + 1 := hs
  have hs2 : w.heap.size + 1 ≤ W1.drew.heap.size := by omega
  have HB2 : Hid (Below w.heap.size w W1.drew) := HB'
  clear hs hs' HB HB'
  generalize World.drew W1 = W2 at *
  go_cut [6, 7] from 36 to 48 (fun bp _ wx => ∃ B, bp = .pointer (some ⟨B, 0, none⟩) ∧ Hid (PitAt wx B ⟨x0, x1, x2, x3, x4, x5⟩) ∧ Hid (Below W2.heap.size W2 wx))
  case first =>
    have HP0 : Hid (Below W2.heap.size W2 W2.drew) := (Below.refl _ W2).drew
    have HP1 : Aside (∀ o, Below W2.heap.size W2 ((W2.alloc o).drew)) := fun o => ((Below.refl _ W2).alloc (Nat.le_refl _) o).drew
    have HZZ : Hid (ZV ((W2.alloc (.cells #[.int .i64 0, .int .i64 0, .int .i64 0, .int .i64 0, .int .i64 0, .int .i64 0] 57)).drew) W2.heap.size) := zv_alloc W2
    have c60 : W2.cell? ⟨T, 6, none⟩ = some (.slice (some ⟨bx, off, none⟩) xs.length z.kx) := c6
    have p10 : W2.cell? ⟨w.heap.size, 1, none⟩ = some (.int .i64 (b : Int)) := p1
    have u0'0 : W2.cell? ⟨bx, off + b * 6, none⟩ = some (.int .i64 u0) := u0'
    have u1'0 : W2.cell? ⟨bx, off + b * 6 + 1, none⟩ = some (.int .i64 u1) := u1'
    have u2'0 : W2.cell? ⟨bx, off + b * 6 + 2, none⟩ = some (.int .i64 u2) := u2'
    have u3'0 : W2.cell? ⟨bx, off + b * 6 + 3, none⟩ = some (.int .i64 u3) := u3'
    have u4'0 : W2.cell? ⟨bx, off + b * 6 + 4, none⟩ = some (.int .i64 u4) := u4'
    have u5'0 : W2.cell? ⟨bx, off + b * 6 + 5, none⟩ = some (.int .i64 u5) := u5'
    have neT : T ≠ W2.heap.size := by omega
    have neP : w.heap.size ≠ W2.heap.size := by omega
    have neX : bx ≠ W2.heap.size := by omega
    have hlT : T < W2.heap.size := by omega
    have hlP : w.heap.size < W2.heap.size := by omega
    have hlX : bx < W2.heap.size := by omega
    go_region_held3 (fun Q => Q.cell? ⟨T, 6, none⟩ = some (.slice (some ⟨bx, off, none⟩) xs.length z.kx) ∧ Q.cell? ⟨w.heap.size, 1, none⟩ = some (.int .i64 (b : Int)) ∧ Q.cell? ⟨bx, off + b * 6, none⟩ = some (.int .i64 u0) ∧ Q.cell? ⟨bx, off + b * 6 + 1, none⟩ = some (.int .i64 u1) ∧ Q.cell? ⟨bx, off + b * 6 + 2, none⟩ = some (.int .i64 u2) ∧ Q.cell? ⟨bx, off + b * 6 + 3, none⟩ = some (.int .i64 u3) ∧ Q.cell? ⟨bx, off + b * 6 + 4, none⟩ = some (.int .i64 u4) ∧ Q.cell? ⟨bx, off + b * 6 + 5, none⟩ = some (.int .i64 u5)) (first | with_reducible exact ⟨c6, p1, u0', u1', u2', u3', u4', u5'⟩ | with_reducible exact ⟨(set6_cell (w := xa) neT (6) (.int .i64 x0) (.int .i64 x1) (.int .i64 x2) (.int .i64 x3) (.int .i64 x4) (.int .i64 x5)).trans c6, (set6_cell (w := xa) neP (1) (.int .i64 x0) (.int .i64 x1) (.int .i64 x2) (.int .i64 x3) (.int .i64 x4) (.int .i64 x5)).trans p1, (set6_cell (w := xa) neX (off + b * 6) (.int .i64 x0) (.int .i64 x1) (.int .i64 x2) (.int .i64 x3) (.int .i64 x4) (.int .i64 x5)).trans u0', (set6_cell (w := xa) neX (off + b * 6 + 1) (.int .i64 x0) (.int .i64 x1) (.int .i64 x2) (.int .i64 x3) (.int .i64 x4) (.int .i64 x5)).trans u1', (set6_cell (w := xa) neX (off + b * 6 + 2) (.int .i64 x0) (.int .i64 x1) (.int .i64 x2) (.int .i64 x3) (.int .i64 x4) (.int .i64 x5)).trans u2', (set6_cell (w := xa) neX (off + b * 6 + 3) (.int .i64 x0) (.int .i64 x1) (.int .i64 x2) (.int .i64 x3) (.int .i64 x4) (.int .i64 x5)).trans u3', (set6_cell (w := xa) neX (off + b * 6 + 4) (.int .i64 x0) (.int .i64 x1) (.int .i64 x2) (.int .i64 x3) (.int .i64 x4) (.int .i64 x5)).trans u4', (set6_cell (w := xa) neX (off + b * 6 + 5) (.int .i64 x0) (.int .i64 x1) (.int .i64 x2) (.int .i64 x3) (.int .i64 x4) (.int .i64 x5)).trans u5'⟩ | go_keep) (first
      | (go_at_call 59; refine (OF1.out _).mono ?_; rintro e xa ⟨rfl, hb⟩; clear OF1; have hBxa : Below W2.heap.size W2 xa := (by first | with_reducible exact HP0.out.trans (hb.mono HP0.out.size) | with_reducible exact (HP1.out _).trans (hb.mono (HP1.out _).size)); have HBxa := Lib.hid hBxa; clear hBxa; (first | (have hz : ZV xa W2.heap.size := (by with_reducible exact (hb.block _ (Array.getElem?_eq_some_iff.1 HZZ.out).1).trans HZZ.out); have HZ := Lib.hid hz; clear hz) | skip); have hsxa := HBxa.out.size; have c6 : xa.cell? ⟨T, 6, none⟩ = some (.slice (some ⟨bx, off, none⟩) xs.length z.kx) := (HBxa.out.cell (p := ⟨T, 6, none⟩) (by first | omega | (simp <;> omega))).trans c60; have p1 : xa.cell? ⟨w.heap.size, 1, none⟩ = some (.int .i64 (b : Int)) := (HBxa.out.cell (p := ⟨w.heap.size, 1, none⟩) (by first | omega | (simp <;> omega))).trans p10; have u0' : xa.cell? ⟨bx, off + b * 6, none⟩ = some (.int .i64 u0) := (HBxa.out.cell (p := ⟨bx, off + b * 6, none⟩) (by first | omega | (simp <;> omega))).trans u0'0; have u1' : xa.cell? ⟨bx, off + b * 6 + 1, none⟩ = some (.int .i64 u1) := (HBxa.out.cell (p := ⟨bx, off + b * 6 + 1, none⟩) (by first | omega | (simp <;> omega))).trans u1'0; have u2' : xa.cell? ⟨bx, off + b * 6 + 2, none⟩ = some (.int .i64 u2) := (HBxa.out.cell (p := ⟨bx, off + b * 6 + 2, none⟩) (by first | omega | (simp <;> omega))).trans u2'0; have u3' : xa.cell? ⟨bx, off + b * 6 + 3, none⟩ = some (.int .i64 u3) := (HBxa.out.cell (p := ⟨bx, off + b * 6 + 3, none⟩) (by first | omega | (simp <;> omega))).trans u3'0; have u4' : xa.cell? ⟨bx, off + b * 6 + 4, none⟩ = some (.int .i64 u4) := (HBxa.out.cell (p := ⟨bx, off + b * 6 + 4, none⟩) (by first | omega | (simp <;> omega))).trans u4'0; have u5' : xa.cell? ⟨bx, off + b * 6 + 5, none⟩ = some (.int .i64 u5) := (HBxa.out.cell (p := ⟨bx, off + b * 6 + 5, none⟩) (by first | omega | (simp <;> omega))).trans u5'0; have hlT : T < xa.heap.size := (by first | omega | (simp <;> omega)); have hlP : w.heap.size < xa.heap.size := (by first | omega | (simp <;> omega)); have hlX : bx < xa.heap.size := (by first | omega | (simp <;> omega)); clear hb; (first | (have z0 := HZ.out.cell 0 (by decide); have g0 := HZ.out.frozen 0; have z1 := HZ.out.cell 1 (by decide); have g1 := HZ.out.frozen 1; have z2 := HZ.out.cell 2 (by decide); have g2 := HZ.out.frozen 2; have z3 := HZ.out.cell 3 (by decide); have g3 := HZ.out.frozen 3; have z4 := HZ.out.cell 4 (by decide); have g4 := HZ.out.frozen 4; have z5 := HZ.out.cell 5 (by decide); have g5 := HZ.out.frozen 5; skip) | (have neT : T ≠ None.heap.size := (by omega); have neP : w.heap.size ≠ None.heap.size := (by omega); have neX : bx ≠ None.heap.size := (by omega); have z0 := HZ2.out.cell 0 (by decide); have g0 := HZ2.out.frozen 0; have z1 := HZ2.out.cell 1 (by decide); have g1 := HZ2.out.frozen 1; have z2 := HZ2.out.cell 2 (by decide); have g2 := HZ2.out.frozen 2; have z3 := HZ2.out.cell 3 (by decide); have g3 := HZ2.out.frozen 3; have z4 := HZ2.out.cell 4 (by decide); have g4 := HZ2.out.frozen 4; have z5 := HZ2.out.cell 5 (by decide); have g5 := HZ2.out.frozen 5; skip) | skip)))
    all_goals go_wp2_with fail
    all_goals go_meet
    · exact ⟨xa.heap.size, rfl, Lib.hid (pit_new xa ⟨x0, x1, x2, x3, x4, x5⟩), Lib.hid (HBxa.out.alloc HBxa.out.size _)⟩
    · exact ⟨W2.heap.size, rfl, Lib.hid (pit_set HZ.out ⟨x0, x1, x2, x3, x4, x5⟩), Lib.hid (set6_below HBxa.out (Nat.le_refl _) _ _ _ _ _ _)⟩
  case rest =>
  obtain ⟨B6, rfl, HPX, HBX⟩ := hcut
  clear OF1
  replace c6 : wc.cell? ⟨T, 6, none⟩ = some (.slice (some ⟨bx, off, none⟩) xs.length z.kx) := (HBX.out.cell (p := ⟨T, 6, none⟩) (by first | omega | (simp <;> omega))).trans c6
  replace p0 : wc.cell? ⟨w.heap.size, 0, none⟩ = some (.int .i64 (a : Int)) := (HBX.out.cell (p := ⟨w.heap.size, 0, none⟩) (by first | omega | (simp <;> omega))).trans p0
  replace p1 : wc.cell? ⟨w.heap.size, 1, none⟩ = some (.int .i64 (b : Int)) := (HBX.out.cell (p := ⟨w.heap.size, 1, none⟩) (by first | omega | (simp <;> omega))).trans p1
  replace p2 : wc.cell? ⟨w.heap.size, 2, none⟩ = some (.int .i64 w0) := (HBX.out.cell (p := ⟨w.heap.size, 2, none⟩) (by first | omega | (simp <;> omega))).trans p2
  replace p3 : wc.cell? ⟨w.heap.size, 3, none⟩ = some (.int .i64 w1) := (HBX.out.cell (p := ⟨w.heap.size, 3, none⟩) (by first | omega | (simp <;> omega))).trans p3
  replace p4 : wc.cell? ⟨w.heap.size, 4, none⟩ = some (.int .i64 w2) := (HBX.out.cell (p := ⟨w.heap.size, 4, none⟩) (by first | omega | (simp <;> omega))).trans p4
  replace p5 : wc.cell? ⟨w.heap.size, 5, none⟩ = some (.int .i64 w3) := (HBX.out.cell (p := ⟨w.heap.size, 5, none⟩) (by first | omega | (simp <;> omega))).trans p5
  replace p6 : wc.cell? ⟨w.heap.size, 6, none⟩ = some (.int .i64 w4) := (HBX.out.cell (p := ⟨w.heap.size, 6, none⟩) (by first | omega | (simp <;> omega))).trans p6
  replace p7 : wc.cell? ⟨w.heap.size, 7, none⟩ = some (.int .i64 w5) := (HBX.out.cell (p := ⟨w.heap.size, 7, none⟩) (by first | omega | (simp <;> omega))).trans p7
  replace p8 : wc.cell? ⟨w.heap.size, 8, none⟩ = some (.int .i64 bd) := (HBX.out.cell (p := ⟨w.heap.size, 8, none⟩) (by first | omega | (simp <;> omega))).trans p8
  replace u0' : wc.cell? ⟨bx, off + b * 6, none⟩ = some (.int .i64 u0) := (HBX.out.cell (p := ⟨bx, off + b * 6, none⟩) (by first | omega | (simp <;> omega))).trans u0'
  replace u1' : wc.cell? ⟨bx, off + b * 6 + 1, none⟩ = some (.int .i64 u1) := (HBX.out.cell (p := ⟨bx, off + b * 6 + 1, none⟩) (by first | omega | (simp <;> omega))).trans u1'
  replace u2' : wc.cell? ⟨bx, off + b * 6 + 2, none⟩ = some (.int .i64 u2) := (HBX.out.cell (p := ⟨bx, off + b * 6 + 2, none⟩) (by first | omega | (simp <;> omega))).trans u2'
  replace u3' : wc.cell? ⟨bx, off + b * 6 + 3, none⟩ = some (.int .i64 u3) := (HBX.out.cell (p := ⟨bx, off + b * 6 + 3, none⟩) (by first | omega | (simp <;> omega))).trans u3'
  replace u4' : wc.cell? ⟨bx, off + b * 6 + 4, none⟩ = some (.int .i64 u4) := (HBX.out.cell (p := ⟨bx, off + b * 6 + 4, none⟩) (by first | omega | (simp <;> omega))).trans u4'
  replace u5' : wc.cell? ⟨bx, off + b * 6 + 5, none⟩ = some (.int .i64 u5) := (HBX.out.cell (p := ⟨bx, off + b * 6 + 5, none⟩) (by first | omega | (simp <;> omega))).trans u5'
  replace v0' : wc.cell? ⟨bx, off + a * 6, none⟩ = some (.int .i64 v0) := (HBX.out.cell (p := ⟨bx, off + a * 6, none⟩) (by first | omega | (simp <;> omega))).trans v0'
  replace v1' : wc.cell? ⟨bx, off + a * 6 + 1, none⟩ = some (.int .i64 v1) := (HBX.out.cell (p := ⟨bx, off + a * 6 + 1, none⟩) (by first | omega | (simp <;> omega))).trans v1'
  replace v2' : wc.cell? ⟨bx, off + a * 6 + 2, none⟩ = some (.int .i64 v2) := (HBX.out.cell (p := ⟨bx, off + a * 6 + 2, none⟩) (by first | omega | (simp <;> omega))).trans v2'
  replace v3' : wc.cell? ⟨bx, off + a * 6 + 3, none⟩ = some (.int .i64 v3) := (HBX.out.cell (p := ⟨bx, off + a * 6 + 3, none⟩) (by first | omega | (simp <;> omega))).trans v3'
  replace v4' : wc.cell? ⟨bx, off + a * 6 + 4, none⟩ = some (.int .i64 v4) := (HBX.out.cell (p := ⟨bx, off + a * 6 + 4, none⟩) (by first | omega | (simp <;> omega))).trans v4'
  replace v5' : wc.cell? ⟨bx, off + a * 6 + 5, none⟩ = some (.int .i64 v5) := (HBX.out.cell (p := ⟨bx, off + a * 6 + 5, none⟩) (by first | omega | (simp <;> omega))).trans v5'
  have HB3 : Hid (Below w.heap.size w wc) := HB2.out.trans (HBX.out.mono (by omega))
  have hs3 : w.heap.size + 1 ≤ wc.heap.size := by have := HBX.out.size; omega
  have hbx3 : bx < wc.heap.size := by have := HBX.out.size; omega
  clear HBX HB2 hs2 hbx
  generalize wc = W3 at *
  go_upto_region 7 with (fail)
  have ha0 : (0 : Int) ≤ (a : Int) := by omega
  have ha1 : (a : Int) < (xs.length : Int) := by omega
  go_cut [8, 9] from 48 to 63 (fun bp _ wx => ∃ B, bp = .pointer (some ⟨B, 0, none⟩) ∧ Hid (PitAt wx B ⟨y0, y1, y2, y3, y4, y5⟩) ∧ Hid (Below W3.heap.size W3 wx))
  case first =>
    have HP0 : Hid (Below W3.heap.size W3 W3.drew) := (Below.refl _ W3).drew
    have HP1 : Aside (∀ o, Below W3.heap.size W3 ((W3.alloc o).drew)) := fun o => ((Below.refl _ W3).alloc (Nat.le_refl _) o).drew
    have HZZ : Hid (ZV ((W3.alloc (.cells #[.int .i64 0, .int .i64 0, .int .i64 0, .int .i64 0, .int .i64 0, .int .i64 0] 57)).drew) W3.heap.size) := zv_alloc W3
    have c60 : W3.cell? ⟨T, 6, none⟩ = some (.slice (some ⟨bx, off, none⟩) xs.length z.kx) := c6
    have p00 : W3.cell? ⟨w.heap.size, 0, none⟩ = some (.int .i64 (a : Int)) := p0
    have p20 : W3.cell? ⟨w.heap.size, 2, none⟩ = some (.int .i64 w0) := p2
    have p30 : W3.cell? ⟨w.heap.size, 3, none⟩ = some (.int .i64 w1) := p3
    have p40 : W3.cell? ⟨w.heap.size, 4, none⟩ = some (.int .i64 w2) := p4
    have p50 : W3.cell? ⟨w.heap.size, 5, none⟩ = some (.int .i64 w3) := p5
    have p60 : W3.cell? ⟨w.heap.size, 6, none⟩ = some (.int .i64 w4) := p6
    have p70 : W3.cell? ⟨w.heap.size, 7, none⟩ = some (.int .i64 w5) := p7
    have v0'0 : W3.cell? ⟨bx, off + a * 6, none⟩ = some (.int .i64 v0) := v0'
    have v1'0 : W3.cell? ⟨bx, off + a * 6 + 1, none⟩ = some (.int .i64 v1) := v1'
    have v2'0 : W3.cell? ⟨bx, off + a * 6 + 2, none⟩ = some (.int .i64 v2) := v2'
    have v3'0 : W3.cell? ⟨bx, off + a * 6 + 3, none⟩ = some (.int .i64 v3) := v3'
    have v4'0 : W3.cell? ⟨bx, off + a * 6 + 4, none⟩ = some (.int .i64 v4) := v4'
    have v5'0 : W3.cell? ⟨bx, off + a * 6 + 5, none⟩ = some (.int .i64 v5) := v5'
    have neT : T ≠ W3.heap.size := by omega
    have neP : w.heap.size ≠ W3.heap.size := by omega
    have neX : bx ≠ W3.heap.size := by omega
    have hlT : T < W3.heap.size := by omega
    have hlP : w.heap.size < W3.heap.size := by omega
    have hlX : bx < W3.heap.size := by omega
    go_region_held3 (fun Q => Q.cell? ⟨T, 6, none⟩ = some (.slice (some ⟨bx, off, none⟩) xs.length z.kx) ∧ Q.cell? ⟨w.heap.size, 0, none⟩ = some (.int .i64 (a : Int)) ∧ Q.cell? ⟨w.heap.size, 2, none⟩ = some (.int .i64 w0) ∧ Q.cell? ⟨w.heap.size, 3, none⟩ = some (.int .i64 w1) ∧ Q.cell? ⟨w.heap.size, 4, none⟩ = some (.int .i64 w2) ∧ Q.cell? ⟨w.heap.size, 5, none⟩ = some (.int .i64 w3) ∧ Q.cell? ⟨w.heap.size, 6, none⟩ = some (.int .i64 w4) ∧ Q.cell? ⟨w.heap.size, 7, none⟩ = some (.int .i64 w5) ∧ Q.cell? ⟨bx, off + a * 6, none⟩ = some (.int .i64 v0) ∧ Q.cell? ⟨bx, off + a * 6 + 1, none⟩ = some (.int .i64 v1) ∧ Q.cell? ⟨bx, off + a * 6 + 2, none⟩ = some (.int .i64 v2) ∧ Q.cell? ⟨bx, off + a * 6 + 3, none⟩ = some (.int .i64 v3) ∧ Q.cell? ⟨bx, off + a * 6 + 4, none⟩ = some (.int .i64 v4) ∧ Q.cell? ⟨bx, off + a * 6 + 5, none⟩ = some (.int .i64 v5)) (first | with_reducible exact ⟨c6, p0, p2, p3, p4, p5, p6, p7, v0', v1', v2', v3', v4', v5'⟩ | with_reducible exact ⟨(set6_cell (w := yb) neT (6) (.int .i64 y0) (.int .i64 y1) (.int .i64 y2) (.int .i64 y3) (.int .i64 y4) (.int .i64 y5)).trans c6, (set6_cell (w := yb) neP (0) (.int .i64 y0) (.int .i64 y1) (.int .i64 y2) (.int .i64 y3) (.int .i64 y4) (.int .i64 y5)).trans p0, (set6_cell (w := yb) neP (2) (.int .i64 y0) (.int .i64 y1) (.int .i64 y2) (.int .i64 y3) (.int .i64 y4) (.int .i64 y5)).trans p2, (set6_cell (w := yb) neP (3) (.int .i64 y0) (.int .i64 y1) (.int .i64 y2) (.int .i64 y3) (.int .i64 y4) (.int .i64 y5)).trans p3, (set6_cell (w := yb) neP (4) (.int .i64 y0) (.int .i64 y1) (.int .i64 y2) (.int .i64 y3) (.int .i64 y4) (.int .i64 y5)).trans p4, (set6_cell (w := yb) neP (5) (.int .i64 y0) (.int .i64 y1) (.int .i64 y2) (.int .i64 y3) (.int .i64 y4) (.int .i64 y5)).trans p5, (set6_cell (w := yb) neP (6) (.int .i64 y0) (.int .i64 y1) (.int .i64 y2) (.int .i64 y3) (.int .i64 y4) (.int .i64 y5)).trans p6, (set6_cell (w := yb) neP (7) (.int .i64 y0) (.int .i64 y1) (.int .i64 y2) (.int .i64 y3) (.int .i64 y4) (.int .i64 y5)).trans p7, (set6_cell (w := yb) neX (off + a * 6) (.int .i64 y0) (.int .i64 y1) (.int .i64 y2) (.int .i64 y3) (.int .i64 y4) (.int .i64 y5)).trans v0', (set6_cell (w := yb) neX (off + a * 6 + 1) (.int .i64 y0) (.int .i64 y1) (.int .i64 y2) (.int .i64 y3) (.int .i64 y4) (.int .i64 y5)).trans v1', (set6_cell (w := yb) neX (off + a * 6 + 2) (.int .i64 y0) (.int .i64 y1) (.int .i64 y2) (.int .i64 y3) (.int .i64 y4) (.int .i64 y5)).trans v2', (set6_cell (w := yb) neX (off + a * 6 + 3) (.int .i64 y0) (.int .i64 y1) (.int .i64 y2) (.int .i64 y3) (.int .i64 y4) (.int .i64 y5)).trans v3', (set6_cell (w := yb) neX (off + a * 6 + 4) (.int .i64 y0) (.int .i64 y1) (.int .i64 y2) (.int .i64 y3) (.int .i64 y4) (.int .i64 y5)).trans v4', (set6_cell (w := yb) neX (off + a * 6 + 5) (.int .i64 y0) (.int .i64 y1) (.int .i64 y2) (.int .i64 y3) (.int .i64 y4) (.int .i64 y5)).trans v5'⟩ | go_keep) (first
      | (go_at_call 56; refine (AD.out _).mono ?_; rintro e ya ⟨rfl, hb⟩; clear AD; have hBya : Below W3.heap.size W3 ya := (by first | with_reducible exact HP0.out.trans (hb.mono HP0.out.size) | with_reducible exact (HP1.out _).trans (hb.mono (HP1.out _).size)); have HBya := Lib.hid hBya; clear hBya; (first | (have hz : ZV ya W3.heap.size := (by with_reducible exact (hb.block _ (Array.getElem?_eq_some_iff.1 HZZ.out).1).trans HZZ.out); have HZ := Lib.hid hz; clear hz) | skip); have hsya := HBya.out.size; have c6 : ya.cell? ⟨T, 6, none⟩ = some (.slice (some ⟨bx, off, none⟩) xs.length z.kx) := (HBya.out.cell (p := ⟨T, 6, none⟩) (by first | omega | (simp <;> omega))).trans c60; have p0 : ya.cell? ⟨w.heap.size, 0, none⟩ = some (.int .i64 (a : Int)) := (HBya.out.cell (p := ⟨w.heap.size, 0, none⟩) (by first | omega | (simp <;> omega))).trans p00; have p2 : ya.cell? ⟨w.heap.size, 2, none⟩ = some (.int .i64 w0) := (HBya.out.cell (p := ⟨w.heap.size, 2, none⟩) (by first | omega | (simp <;> omega))).trans p20; have p3 : ya.cell? ⟨w.heap.size, 3, none⟩ = some (.int .i64 w1) := (HBya.out.cell (p := ⟨w.heap.size, 3, none⟩) (by first | omega | (simp <;> omega))).trans p30; have p4 : ya.cell? ⟨w.heap.size, 4, none⟩ = some (.int .i64 w2) := (HBya.out.cell (p := ⟨w.heap.size, 4, none⟩) (by first | omega | (simp <;> omega))).trans p40; have p5 : ya.cell? ⟨w.heap.size, 5, none⟩ = some (.int .i64 w3) := (HBya.out.cell (p := ⟨w.heap.size, 5, none⟩) (by first | omega | (simp <;> omega))).trans p50; have p6 : ya.cell? ⟨w.heap.size, 6, none⟩ = some (.int .i64 w4) := (HBya.out.cell (p := ⟨w.heap.size, 6, none⟩) (by first | omega | (simp <;> omega))).trans p60; have p7 : ya.cell? ⟨w.heap.size, 7, none⟩ = some (.int .i64 w5) := (HBya.out.cell (p := ⟨w.heap.size, 7, none⟩) (by first | omega | (simp <;> omega))).trans p70; have v0' : ya.cell? ⟨bx, off + a * 6, none⟩ = some (.int .i64 v0) := (HBya.out.cell (p := ⟨bx, off + a * 6, none⟩) (by first | omega | (simp <;> omega))).trans v0'0; have v1' : ya.cell? ⟨bx, off + a * 6 + 1, none⟩ = some (.int .i64 v1) := (HBya.out.cell (p := ⟨bx, off + a * 6 + 1, none⟩) (by first | omega | (simp <;> omega))).trans v1'0; have v2' : ya.cell? ⟨bx, off + a * 6 + 2, none⟩ = some (.int .i64 v2) := (HBya.out.cell (p := ⟨bx, off + a * 6 + 2, none⟩) (by first | omega | (simp <;> omega))).trans v2'0; have v3' : ya.cell? ⟨bx, off + a * 6 + 3, none⟩ = some (.int .i64 v3) := (HBya.out.cell (p := ⟨bx, off + a * 6 + 3, none⟩) (by first | omega | (simp <;> omega))).trans v3'0; have v4' : ya.cell? ⟨bx, off + a * 6 + 4, none⟩ = some (.int .i64 v4) := (HBya.out.cell (p := ⟨bx, off + a * 6 + 4, none⟩) (by first | omega | (simp <;> omega))).trans v4'0; have v5' : ya.cell? ⟨bx, off + a * 6 + 5, none⟩ = some (.int .i64 v5) := (HBya.out.cell (p := ⟨bx, off + a * 6 + 5, none⟩) (by first | omega | (simp <;> omega))).trans v5'0; have hlT : T < ya.heap.size := (by first | omega | (simp <;> omega)); have hlP : w.heap.size < ya.heap.size := (by first | omega | (simp <;> omega)); have hlX : bx < ya.heap.size := (by first | omega | (simp <;> omega)); clear hb; (first | (have z0 := HZ.out.cell 0 (by decide); have g0 := HZ.out.frozen 0; have z1 := HZ.out.cell 1 (by decide); have g1 := HZ.out.frozen 1; have z2 := HZ.out.cell 2 (by decide); have g2 := HZ.out.frozen 2; have z3 := HZ.out.cell 3 (by decide); have g3 := HZ.out.frozen 3; have z4 := HZ.out.cell 4 (by decide); have g4 := HZ.out.frozen 4; have z5 := HZ.out.cell 5 (by decide); have g5 := HZ.out.frozen 5; skip) | (have neT : T ≠ None.heap.size := (by omega); have neP : w.heap.size ≠ None.heap.size := (by omega); have neX : bx ≠ None.heap.size := (by omega); have z0 := HZ2.out.cell 0 (by decide); have g0 := HZ2.out.frozen 0; have z1 := HZ2.out.cell 1 (by decide); have g1 := HZ2.out.frozen 1; have z2 := HZ2.out.cell 2 (by decide); have g2 := HZ2.out.frozen 2; have z3 := HZ2.out.cell 3 (by decide); have g3 := HZ2.out.frozen 3; have z4 := HZ2.out.cell 4 (by decide); have g4 := HZ2.out.frozen 4; have z5 := HZ2.out.cell 5 (by decide); have g5 := HZ2.out.frozen 5; skip) | skip))
      | (go_at_call 59; refine (OF2.out _).mono ?_; rintro e yb ⟨rfl, hb⟩; clear OF2; have hByb : Below W3.heap.size W3 yb := (by first | with_reducible exact HBya.out.trans (hb.mono HBya.out.size) | with_reducible exact (HBya.out.alloc HBya.out.size _).trans (hb.mono (HBya.out.alloc HBya.out.size _).size)); have HByb := Lib.hid hByb; clear hByb; (first | (have hz : ZV yb W3.heap.size := (by with_reducible exact (hb.block _ (Array.getElem?_eq_some_iff.1 HZ.out).1).trans HZ.out); have HZ := Lib.hid hz; clear hz) | (have hz : ZV yb ya.heap.size := (by with_reducible exact (hb.block _ (Array.getElem?_eq_some_iff.1 (zv_alloc ya)).1).trans (zv_alloc ya)); have HZ2 := Lib.hid hz; clear hz) | skip); have hsyb := HByb.out.size; have c6 : yb.cell? ⟨T, 6, none⟩ = some (.slice (some ⟨bx, off, none⟩) xs.length z.kx) := (HByb.out.cell (p := ⟨T, 6, none⟩) (by first | omega | (simp <;> omega))).trans c60; have p0 : yb.cell? ⟨w.heap.size, 0, none⟩ = some (.int .i64 (a : Int)) := (HByb.out.cell (p := ⟨w.heap.size, 0, none⟩) (by first | omega | (simp <;> omega))).trans p00; have p2 : yb.cell? ⟨w.heap.size, 2, none⟩ = some (.int .i64 w0) := (HByb.out.cell (p := ⟨w.heap.size, 2, none⟩) (by first | omega | (simp <;> omega))).trans p20; have p3 : yb.cell? ⟨w.heap.size, 3, none⟩ = some (.int .i64 w1) := (HByb.out.cell (p := ⟨w.heap.size, 3, none⟩) (by first | omega | (simp <;> omega))).trans p30; have p4 : yb.cell? ⟨w.heap.size, 4, none⟩ = some (.int .i64 w2) := (HByb.out.cell (p := ⟨w.heap.size, 4, none⟩) (by first | omega | (simp <;> omega))).trans p40; have p5 : yb.cell? ⟨w.heap.size, 5, none⟩ = some (.int .i64 w3) := (HByb.out.cell (p := ⟨w.heap.size, 5, none⟩) (by first | omega | (simp <;> omega))).trans p50; have p6 : yb.cell? ⟨w.heap.size, 6, none⟩ = some (.int .i64 w4) := (HByb.out.cell (p := ⟨w.heap.size, 6, none⟩) (by first | omega | (simp <;> omega))).trans p60; have p7 : yb.cell? ⟨w.heap.size, 7, none⟩ = some (.int .i64 w5) := (HByb.out.cell (p := ⟨w.heap.size, 7, none⟩) (by first | omega | (simp <;> omega))).trans p70; have v0' : yb.cell? ⟨bx, off + a * 6, none⟩ = some (.int .i64 v0) := (HByb.out.cell (p := ⟨bx, off + a * 6, none⟩) (by first | omega | (simp <;> omega))).trans v0'0; have v1' : yb.cell? ⟨bx, off + a * 6 + 1, none⟩ = some (.int .i64 v1) := (HByb.out.cell (p := ⟨bx, off + a * 6 + 1, none⟩) (by first | omega | (simp <;> omega))).trans v1'0; have v2' : yb.cell? ⟨bx, off + a * 6 + 2, none⟩ = some (.int .i64 v2) := (HByb.out.cell (p := ⟨bx, off + a * 6 + 2, none⟩) (by first | omega | (simp <;> omega))).trans v2'0; have v3' : yb.cell? ⟨bx, off + a * 6 + 3, none⟩ = some (.int .i64 v3) := (HByb.out.cell (p := ⟨bx, off + a * 6 + 3, none⟩) (by first | omega | (simp <;> omega))).trans v3'0; have v4' : yb.cell? ⟨bx, off + a * 6 + 4, none⟩ = some (.int .i64 v4) := (HByb.out.cell (p := ⟨bx, off + a * 6 + 4, none⟩) (by first | omega | (simp <;> omega))).trans v4'0; have v5' : yb.cell? ⟨bx, off + a * 6 + 5, none⟩ = some (.int .i64 v5) := (HByb.out.cell (p := ⟨bx, off + a * 6 + 5, none⟩) (by first | omega | (simp <;> omega))).trans v5'0; have hlT : T < yb.heap.size := (by first | omega | (simp <;> omega)); have hlP : w.heap.size < yb.heap.size := (by first | omega | (simp <;> omega)); have hlX : bx < yb.heap.size := (by first | omega | (simp <;> omega)); clear hb; (first | (have z0 := HZ.out.cell 0 (by decide); have g0 := HZ.out.frozen 0; have z1 := HZ.out.cell 1 (by decide); have g1 := HZ.out.frozen 1; have z2 := HZ.out.cell 2 (by decide); have g2 := HZ.out.frozen 2; have z3 := HZ.out.cell 3 (by decide); have g3 := HZ.out.frozen 3; have z4 := HZ.out.cell 4 (by decide); have g4 := HZ.out.frozen 4; have z5 := HZ.out.cell 5 (by decide); have g5 := HZ.out.frozen 5; skip) | (have neT : T ≠ ya.heap.size := (by omega); have neP : w.heap.size ≠ ya.heap.size := (by omega); have neX : bx ≠ ya.heap.size := (by omega); have z0 := HZ2.out.cell 0 (by decide); have g0 := HZ2.out.frozen 0; have z1 := HZ2.out.cell 1 (by decide); have g1 := HZ2.out.frozen 1; have z2 := HZ2.out.cell 2 (by decide); have g2 := HZ2.out.frozen 2; have z3 := HZ2.out.cell 3 (by decide); have g3 := HZ2.out.frozen 3; have z4 := HZ2.out.cell 4 (by decide); have g4 := HZ2.out.frozen 4; have z5 := HZ2.out.cell 5 (by decide); have g5 := HZ2.out.frozen 5; skip) | skip)))
    all_goals go_wp2_with fail
    all_goals go_meet
    · exact ⟨yb.heap.size, rfl, Lib.hid (pit_new yb ⟨y0, y1, y2, y3, y4, y5⟩), Lib.hid (HByb.out.alloc HByb.out.size _)⟩
    · exact ⟨ya.heap.size, rfl, Lib.hid (pit_set HZ2.out ⟨y0, y1, y2, y3, y4, y5⟩), Lib.hid (set6_below HByb.out HBya.out.size _ _ _ _ _ _)⟩
    · exact ⟨W3.heap.size, rfl, Lib.hid (pit_set HZ.out ⟨y0, y1, y2, y3, y4, y5⟩), Lib.hid (set6_below HByb.out (Nat.le_refl _) _ _ _ _ _ _)⟩
  case rest =>
  obtain ⟨B8, rfl, HPY, HBY⟩ := hcut
  clear AD OF2
  have q8 : wc.cell? ⟨w.heap.size, 8, none⟩ = some (.int .i64 bd) := (HBY.out.cell (p := ⟨w.heap.size, 8, none⟩) (by first | omega | (simp <;> omega))).trans p8
  clear p0 p1 p2 p3 p4 p5 p6 p7 p8 c6 u0' u1' u2' u3' u4' u5' v0' v1' v2' v3' v4' v5'
  have HP6 := Lib.hid (HPX.out.below HBY.out)
  have HB4 : Hid (Below w.heap.size w wc) := HB3.out.trans (HBY.out.mono (by omega))
  have HLG := Lib.hid (HL.out.below HB4.out)
  clear HBY HPX HB3
  generalize wc = W4 at *
  go_wp2_with (first | (refine wpList_load_mid rfl 57 (.tmp 6) rfl B6 0 rfl _ _ HP6.out.r Tryz.underlying57 rfl (by kernel_rfl) ?_; simp only [Vc.cells]) | (refine wpList_load_mid rfl 57 (.tmp 8) rfl B8 0 rfl _ _ HPY.out.r Tryz.underlying57 rfl (by kernel_rfl) ?_; simp only [Vc.cells]))
  refine (NR.out _ HLG.out).mono ?_
  rintro e wd ⟨r, hr, rfl, hb⟩
  have HR1 := Lib.hid hr
  have HBd : Hid (Below w.heap.size w wd) := HB4.out.trans (hb.mono HB4.out.size)
  clear hr hb NR
  have hbr : brkOf xs ⟨(a : Int), (b : Int), w0, w1, w2, w3, w4, w5, bd⟩ ↔ ¬ r = 1 := by
    unfold brkOf
    dsimp only
    rw [if_neg hbz, HEV.out, ← HNN.out, ← HR1.out]
    exact ⟨fun h => h.2, fun h => ⟨by omega, h⟩⟩
  have HBR := Lib.hid hbr
  clear hbr
  by_cases hr1 : r = 1
  · subst hr1
    go_wp2_with fail
    go_ret
    exact ⟨false, by rw [HBR.out]; simp, rfl, HBd.out⟩
  · have dr : (r != 1) = true := by simpa using hr1
    go_wp2_with fail
    go_ret
    exact ⟨true, by rw [HBR.out]; simpa using hr1, rfl, HBd.out⟩
end Go.Sc
