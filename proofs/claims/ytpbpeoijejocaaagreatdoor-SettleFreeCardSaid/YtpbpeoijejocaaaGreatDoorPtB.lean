/- pitch.within, Interval, Valid, Of. -/
import Derived.Test.YtpbpeoijejocaaaGreatDoorScA
import Derived.LoopN
namespace Go.Sc
open Go.RowKit Go.Proofs

/-- An interval: six exponents. -/
structure Vc where
  x0 : Int
  x1 : Int
  x2 : Int
  x3 : Int
  x4 : Int
  x5 : Int
  deriving DecidableEq
def Vc.cells (v : Vc) : List Value := [.int .i64 v.x0, .int .i64 v.x1, .int .i64 v.x2, .int .i64 v.x3, .int .i64 v.x4, .int .i64 v.x5]
def Vc.lim (m : Int) (v : Vc) : Prop := okV m v.x0 v.x1 v.x2 v.x3 v.x4 v.x5
instance (m : Int) (v : Vc) : Decidable (v.lim m) := by unfold Vc.lim; infer_instance
/-- a and n times b. -/
def Vc.add (a b : Vc) (n : Int) : Vc := ⟨a.x0 + n * b.x0, a.x1 + n * b.x1, a.x2 + n * b.x2, a.x3 + n * b.x3, a.x4 + n * b.x4, a.x5 + n * b.x5⟩
def Vc.zero : Vc := ⟨0, 0, 0, 0, 0, 0⟩
/-- Twelve times. -/
def Vc.twelve (a : Vc) : Vc := ⟨a.x0 * 12, a.x1 * 12, a.x2 * 12, a.x3 * 12, a.x4 * 12, a.x5 * 12⟩

theorem Vc.ext' {a b : Vc} (h0 : a.x0 = b.x0) (h1 : a.x1 = b.x1) (h2 : a.x2 = b.x2) (h3 : a.x3 = b.x3) (h4 : a.x4 = b.x4) (h5 : a.x5 = b.x5) : a = b := by
  cases a; cases b; simp_all
set_option maxRecDepth 100000 in
set_option maxHeartbeats 4000000 in
/-- potential.add. -/
theorem add_any (a b : Vc) (n : Int) (w : World) (ha : a.lim 100000) (hb : b.lim 100000) (hn : n = 1 ∨ n = -1) :
    Calls Tryz.prog 56 #[.agg a.cells.toArray, .agg b.cells.toArray, .int .i64 n] w fun e w' => e = .returned (.agg (a.add b n).cells.toArray) ∧ Below w.heap.size w w' := by
  obtain ⟨a0, a1, a2, a3, a4, a5⟩ := a
  obtain ⟨b0, b1, b2, b3, b4, b5⟩ := b
  unfold Vc.lim okV okE at ha hb
  dsimp only at ha hb
  obtain ⟨⟨_, _⟩, ⟨_, _⟩, ⟨_, _⟩, ⟨_, _⟩, ⟨_, _⟩, _, _⟩ := ha
  obtain ⟨⟨_, _⟩, ⟨_, _⟩, ⟨_, _⟩, ⟨_, _⟩, ⟨_, _⟩, _, _⟩ := hb
  show Calls Tryz.prog 56 #[.agg #[.int .i64 a0, .int .i64 a1, .int .i64 a2, .int .i64 a3, .int .i64 a4, .int .i64 a5], .agg #[.int .i64 b0, .int .i64 b1, .int .i64 b2, .int .i64 b3, .int .i64 b4, .int .i64 b5], .int .i64 n] w _
  have i0 : ∀ W, (Instr.index 29 (.agg #[.int .i64 b0, .int .i64 b1, .int .i64 b2, .int .i64 b3, .int .i64 b4, .int .i64 b5]) (.int .i64 0)).run Tryz.prog W = .ok (.int .i64 b0) W := fun W => by kernel_rfl
  have i1 : ∀ W, (Instr.index 29 (.agg #[.int .i64 b0, .int .i64 b1, .int .i64 b2, .int .i64 b3, .int .i64 b4, .int .i64 b5]) (.int .i64 1)).run Tryz.prog W = .ok (.int .i64 b1) W := fun W => by kernel_rfl
  have i2 : ∀ W, (Instr.index 29 (.agg #[.int .i64 b0, .int .i64 b1, .int .i64 b2, .int .i64 b3, .int .i64 b4, .int .i64 b5]) (.int .i64 2)).run Tryz.prog W = .ok (.int .i64 b2) W := fun W => by kernel_rfl
  have i3 : ∀ W, (Instr.index 29 (.agg #[.int .i64 b0, .int .i64 b1, .int .i64 b2, .int .i64 b3, .int .i64 b4, .int .i64 b5]) (.int .i64 3)).run Tryz.prog W = .ok (.int .i64 b3) W := fun W => by kernel_rfl
  have i4 : ∀ W, (Instr.index 29 (.agg #[.int .i64 b0, .int .i64 b1, .int .i64 b2, .int .i64 b3, .int .i64 b4, .int .i64 b5]) (.int .i64 4)).run Tryz.prog W = .ok (.int .i64 b4) W := fun W => by kernel_rfl
  have i5 : ∀ W, (Instr.index 29 (.agg #[.int .i64 b0, .int .i64 b1, .int .i64 b2, .int .i64 b3, .int .i64 b4, .int .i64 b5]) (.int .i64 5)).run Tryz.prog W = .ok (.int .i64 b5) W := fun W => by kernel_rfl
  rcases hn with rfl | rfl
  · go_enter Tryz.func56, Tryz.ntmps56
    go_wp2
    refine wp_loop_rounds 7 ?_
    rw [rounds_succ]; go_wp2
    rw [rounds_succ]; go_wp2
    rw [rounds_succ]; go_wp2
    rw [rounds_succ]; go_wp2
    rw [rounds_succ]; go_wp2
    rw [rounds_succ]; go_wp2
    rw [rounds_succ]; go_wp2
    refine bodyPost_ret (v := .agg #[.int .i64 (a0 + b0), .int .i64 (a1 + b1), .int .i64 (a2 + b2), .int .i64 (a3 + b3), .int .i64 (a4 + b4), .int .i64 (a5 + b5)]) (by simp [results, Tryz.results56, go_sem]) rfl ⟨?_, ?_⟩
    · have e : ((⟨a0, a1, a2, a3, a4, a5⟩ : Vc).add ⟨b0, b1, b2, b3, b4, b5⟩ 1) = ⟨a0 + b0, a1 + b1, a2 + b2, a3 + b3, a4 + b4, a5 + b5⟩ := by apply Vc.ext' <;> simp only [Vc.add] <;> omega
      rw [e]
      rfl
    · exact (((Below.refl _ w).alloc (Nat.le_refl _) _).alloc (by simp) _).alloc (by simp; omega) _
  · go_enter Tryz.func56, Tryz.ntmps56
    go_wp2
    refine wp_loop_rounds 7 ?_
    rw [rounds_succ]; go_wp2
    rw [rounds_succ]; go_wp2
    rw [rounds_succ]; go_wp2
    rw [rounds_succ]; go_wp2
    rw [rounds_succ]; go_wp2
    rw [rounds_succ]; go_wp2
    rw [rounds_succ]; go_wp2
    refine bodyPost_ret (v := .agg #[.int .i64 (a0 + -b0), .int .i64 (a1 + -b1), .int .i64 (a2 + -b2), .int .i64 (a3 + -b3), .int .i64 (a4 + -b4), .int .i64 (a5 + -b5)]) (by simp [results, Tryz.results56, go_sem]) rfl ⟨?_, ?_⟩
    · have e : ((⟨a0, a1, a2, a3, a4, a5⟩ : Vc).add ⟨b0, b1, b2, b3, b4, b5⟩ (-1)) = ⟨a0 + -b0, a1 + -b1, a2 + -b2, a3 + -b3, a4 + -b4, a5 + -b5⟩ := by apply Vc.ext' <;> simp only [Vc.add] <;> omega
      rw [e]
      rfl
    · exact (((Below.refl _ w).alloc (Nat.le_refl _) _).alloc (by simp) _).alloc (by simp; omega) _
end Go.Sc

namespace Go.Sc
open Go.RowKit Go.Proofs

set_option maxRecDepth 100000 in
set_option maxHeartbeats 1000000 in
theorem within_any (m x0 x1 x2 x3 x4 x5 : Int) (w : World) (h0 : 0 ≤ m) (h1 : m ≤ 1000) :
    Calls Tryz.prog 79 #[.agg #[.int .i64 x0, .int .i64 x1, .int .i64 x2, .int .i64 x3, .int .i64 x4, .int .i64 x5], .int .i64 m] w (Post (decide (okV m x0 x1 x2 x3 x4 x5)) w) := by
  have i0 : ∀ W, (Instr.index 28 (.agg #[.int .i64 x0, .int .i64 x1, .int .i64 x2, .int .i64 x3, .int .i64 x4, .int .i64 x5]) (.int .i64 0)).run Tryz.prog W = .ok (.int .i64 x0) W := fun W => by kernel_rfl
  have i1 : ∀ W, (Instr.index 28 (.agg #[.int .i64 x0, .int .i64 x1, .int .i64 x2, .int .i64 x3, .int .i64 x4, .int .i64 x5]) (.int .i64 1)).run Tryz.prog W = .ok (.int .i64 x1) W := fun W => by kernel_rfl
  have i2 : ∀ W, (Instr.index 28 (.agg #[.int .i64 x0, .int .i64 x1, .int .i64 x2, .int .i64 x3, .int .i64 x4, .int .i64 x5]) (.int .i64 2)).run Tryz.prog W = .ok (.int .i64 x2) W := fun W => by kernel_rfl
  have i3 : ∀ W, (Instr.index 28 (.agg #[.int .i64 x0, .int .i64 x1, .int .i64 x2, .int .i64 x3, .int .i64 x4, .int .i64 x5]) (.int .i64 3)).run Tryz.prog W = .ok (.int .i64 x3) W := fun W => by kernel_rfl
  have i4 : ∀ W, (Instr.index 28 (.agg #[.int .i64 x0, .int .i64 x1, .int .i64 x2, .int .i64 x3, .int .i64 x4, .int .i64 x5]) (.int .i64 4)).run Tryz.prog W = .ok (.int .i64 x4) W := fun W => by kernel_rfl
  have i5 : ∀ W, (Instr.index 28 (.agg #[.int .i64 x0, .int .i64 x1, .int .i64 x2, .int .i64 x3, .int .i64 x4, .int .i64 x5]) (.int .i64 5)).run Tryz.prog W = .ok (.int .i64 x5) W := fun W => by kernel_rfl
  go_enter Tryz.func79, Tryz.ntmps79
  go_wp2
  go_loop [8] (fun i => ∃ k : Nat, k ≤ 6 ∧ i = .int .i64 k ∧ okTo m x0 x1 x2 x3 x4 x5 k) (fun i => 6 - (intOf i).toNat)
  case atStart => exact ⟨0, by omega, rfl, by simp [okTo]⟩
  case round =>
    obtain ⟨k, hk, rfl, hok⟩ := hrel
    have HO : Hid (okTo m x0 x1 x2 x3 x4 x5 k) := hok
    clear hok
    rcases (show k = 0 ∨ k = 1 ∨ k = 2 ∨ k = 3 ∨ k = 4 ∨ k = 5 ∨ k = 6 by omega) with rfl | rfl | rfl | rfl | rfl | rfl | rfl
    all_goals go_wp2
    all_goals first
      | (go_round
         case rel => first
           | exact ⟨1, by omega, rfl, okTo_step HO.out (fun H => by simp only [okTo, okE] at H ⊢; omega)⟩
           | exact ⟨2, by omega, rfl, okTo_step HO.out (fun H => by simp only [okTo, okE] at H ⊢; omega)⟩
           | exact ⟨3, by omega, rfl, okTo_step HO.out (fun H => by simp only [okTo, okE] at H ⊢; omega)⟩
           | exact ⟨4, by omega, rfl, okTo_step HO.out (fun H => by simp only [okTo, okE] at H ⊢; omega)⟩
           | exact ⟨5, by omega, rfl, okTo_step HO.out (fun H => by simp only [okTo, okE] at H ⊢; omega)⟩
           | exact ⟨6, by omega, rfl, okTo_step HO.out (fun H => by simp only [okTo, okE] at H ⊢; omega)⟩
         case measure => simp [intOf])
      | (go_ret
         refine ⟨ret_bool ?_, (Below.refl _ _).alloc (Nat.le_refl _) _⟩
         have H := HO.out
         unfold okTo okE at H
         first
           | exact (decide_eq_false (fun h => by unfold okV okE at h; omega)).symm
           | exact (decide_eq_true (by unfold okV okE; omega)).symm)

theorem within_vc (v : Vc) (m : Int) (w : World) (h0 : 0 ≤ m) (h1 : m ≤ 1000) : Calls Tryz.prog 79 #[.agg v.cells.toArray, .int .i64 m] w (Post (decide (v.lim m)) w) := within_any m _ _ _ _ _ _ w h0 h1
set_option maxRecDepth 100000 in
set_option maxHeartbeats 1000000 in
/-- pitch.Interval. -/
theorem interval_any (v : Vc) (w : World) : Calls Tryz.prog 53 #[.agg v.cells.toArray] w (Post (decide (v.lim 48)) w) := by
  obtain ⟨r, hr⟩ : ∃ r, decide (v.lim 48) = r := ⟨_, rfl⟩
  have HV := Lib.hid (hr ▸ fun W => within_vc v 48 W (by omega) (by omega) : ∀ W, Calls Tryz.prog 79 #[.agg v.cells.toArray, .int .i64 48] W (Post r W))
  rw [hr]
  clear hr
  obtain ⟨x0, x1, x2, x3, x4, x5⟩ := v
  dsimp only [Vc.cells] at HV ⊢
  go_enter Tryz.func53, Tryz.ntmps53
  go_wp2_with (go_at_call 79; refine (HV.out _).mono ?_; rintro e w' ⟨rfl, hb⟩; have HB := Lib.hid hb; clear hb)
  go_ret
  exact ⟨rfl, ((Below.refl _ w).alloc (Nat.le_refl _) _).trans (HB.out.mono (by simp))⟩
set_option maxRecDepth 100000 in
set_option maxHeartbeats 1000000 in
/-- pitch.Valid. -/
theorem pvalid_any (v : Vc) (w : World) : Calls Tryz.prog 104 #[.agg v.cells.toArray] w (Post (decide (v.lim 576)) w) := by
  obtain ⟨r, hr⟩ : ∃ r, decide (v.lim 576) = r := ⟨_, rfl⟩
  have HV := Lib.hid (hr ▸ fun W => within_vc v 576 W (by omega) (by omega) : ∀ W, Calls Tryz.prog 79 #[.agg v.cells.toArray, .int .i64 576] W (Post r W))
  rw [hr]
  clear hr
  obtain ⟨x0, x1, x2, x3, x4, x5⟩ := v
  dsimp only [Vc.cells] at HV ⊢
  go_enter Tryz.func104, Tryz.ntmps104
  go_wp2_with (go_at_call 79; refine (HV.out _).mono ?_; rintro e w' ⟨rfl, hb⟩; have HB := Lib.hid hb; clear hb)
  go_ret
  exact ⟨rfl, ((Below.refl _ w).alloc (Nat.le_refl _) _).trans (HB.out.mono (by simp))⟩
theorem set6_below {B : Nat} {a w : World} (h : Below B a w) {b : Nat} (hb : B ≤ b) (u0 u1 u2 u3 u4 u5 : Value) : Below B a ((((((w.setCell ⟨b, 0, none⟩ u0).setCell ⟨b, 1, none⟩ u1).setCell ⟨b, 2, none⟩ u2).setCell ⟨b, 3, none⟩ u3).setCell ⟨b, 4, none⟩ u4).setCell ⟨b, 5, none⟩ u5) :=
  (((((h.setCell (p := ⟨b, 0, none⟩) hb u0).setCell (p := ⟨b, 1, none⟩) hb u1).setCell (p := ⟨b, 2, none⟩) hb u2).setCell (p := ⟨b, 3, none⟩) hb u3).setCell (p := ⟨b, 4, none⟩) hb u4).setCell (p := ⟨b, 5, none⟩) hb u5
theorem lim_vals {m : Int} {v : Vc} (h : v.lim m) : (-m ≤ v.x0 ∧ v.x0 ≤ m) ∧ (-m ≤ v.x1 ∧ v.x1 ≤ m) ∧ (-m ≤ v.x2 ∧ v.x2 ≤ m) ∧ (-m ≤ v.x3 ∧ v.x3 ≤ m) ∧ (-m ≤ v.x4 ∧ v.x4 ≤ m) ∧ (-m ≤ v.x5 ∧ v.x5 ≤ m) := h
set_option maxRecDepth 100000 in
set_option maxHeartbeats 4000000 in
/-- pitch.Of of an interval in range. -/
theorem pof_any (v : Vc) (w : World) (hv : v.lim 48) : Calls Tryz.prog 59 #[.agg v.cells.toArray] w fun e w' => e = .returned (.tuple #[.agg v.twelve.cells.toArray, .int .i64 0]) ∧ Below w.heap.size w w' := by
  obtain ⟨x0, x1, x2, x3, x4, x5⟩ := v
  have HV := Lib.hid (decide_eq_true hv ▸ interval_any ⟨x0, x1, x2, x3, x4, x5⟩ : ∀ W, Calls Tryz.prog 53 #[.agg (Vc.cells ⟨x0, x1, x2, x3, x4, x5⟩).toArray] W (Post true W))
  obtain ⟨⟨_, _⟩, ⟨_, _⟩, ⟨_, _⟩, ⟨_, _⟩, ⟨_, _⟩, _, _⟩ := lim_vals hv
  dsimp only [Vc.cells, Vc.twelve] at *
  go_enter Tryz.func59, Tryz.ntmps59
  go_wp2_with fail
  refine (HV.out _).mono ?_
  rintro e w1 ⟨rfl, hb⟩
  have hz := hb.size
  simp at hz
  have c0 : w1.cell? ⟨w.heap.size, 0, none⟩ = some (.int .i64 x0) := (hb.cell (p := ⟨w.heap.size, 0, none⟩) (by simp; omega)).trans (by go_simp)
  have f0 : w1.frozen? ⟨w.heap.size, 0, none⟩ = false := (hb.frozen (p := ⟨w.heap.size, 0, none⟩) (by simp; omega)).trans (by go_simp)
  have d0 : w1.cell? ⟨w.heap.size + 1, 0, none⟩ = some (.int .i64 0) := (hb.cell (p := ⟨w.heap.size + 1, 0, none⟩) (by simp)).trans (by go_simp)
  have g0 : w1.frozen? ⟨w.heap.size + 1, 0, none⟩ = false := (hb.frozen (p := ⟨w.heap.size + 1, 0, none⟩) (by simp)).trans (by go_simp)
  have c1 : w1.cell? ⟨w.heap.size, 1, none⟩ = some (.int .i64 x1) := (hb.cell (p := ⟨w.heap.size, 1, none⟩) (by simp; omega)).trans (by go_simp)
  have f1 : w1.frozen? ⟨w.heap.size, 1, none⟩ = false := (hb.frozen (p := ⟨w.heap.size, 1, none⟩) (by simp; omega)).trans (by go_simp)
  have d1 : w1.cell? ⟨w.heap.size + 1, 1, none⟩ = some (.int .i64 0) := (hb.cell (p := ⟨w.heap.size + 1, 1, none⟩) (by simp)).trans (by go_simp)
  have g1 : w1.frozen? ⟨w.heap.size + 1, 1, none⟩ = false := (hb.frozen (p := ⟨w.heap.size + 1, 1, none⟩) (by simp)).trans (by go_simp)
  have c2 : w1.cell? ⟨w.heap.size, 2, none⟩ = some (.int .i64 x2) := (hb.cell (p := ⟨w.heap.size, 2, none⟩) (by simp; omega)).trans (by go_simp)
  have f2 : w1.frozen? ⟨w.heap.size, 2, none⟩ = false := (hb.frozen (p := ⟨w.heap.size, 2, none⟩) (by simp; omega)).trans (by go_simp)
  have d2 : w1.cell? ⟨w.heap.size + 1, 2, none⟩ = some (.int .i64 0) := (hb.cell (p := ⟨w.heap.size + 1, 2, none⟩) (by simp)).trans (by go_simp)
  have g2 : w1.frozen? ⟨w.heap.size + 1, 2, none⟩ = false := (hb.frozen (p := ⟨w.heap.size + 1, 2, none⟩) (by simp)).trans (by go_simp)
  have c3 : w1.cell? ⟨w.heap.size, 3, none⟩ = some (.int .i64 x3) := (hb.cell (p := ⟨w.heap.size, 3, none⟩) (by simp; omega)).trans (by go_simp)
  have f3 : w1.frozen? ⟨w.heap.size, 3, none⟩ = false := (hb.frozen (p := ⟨w.heap.size, 3, none⟩) (by simp; omega)).trans (by go_simp)
  have d3 : w1.cell? ⟨w.heap.size + 1, 3, none⟩ = some (.int .i64 0) := (hb.cell (p := ⟨w.heap.size + 1, 3, none⟩) (by simp)).trans (by go_simp)
  have g3 : w1.frozen? ⟨w.heap.size + 1, 3, none⟩ = false := (hb.frozen (p := ⟨w.heap.size + 1, 3, none⟩) (by simp)).trans (by go_simp)
  have c4 : w1.cell? ⟨w.heap.size, 4, none⟩ = some (.int .i64 x4) := (hb.cell (p := ⟨w.heap.size, 4, none⟩) (by simp; omega)).trans (by go_simp)
  have f4 : w1.frozen? ⟨w.heap.size, 4, none⟩ = false := (hb.frozen (p := ⟨w.heap.size, 4, none⟩) (by simp; omega)).trans (by go_simp)
  have d4 : w1.cell? ⟨w.heap.size + 1, 4, none⟩ = some (.int .i64 0) := (hb.cell (p := ⟨w.heap.size + 1, 4, none⟩) (by simp)).trans (by go_simp)
  have g4 : w1.frozen? ⟨w.heap.size + 1, 4, none⟩ = false := (hb.frozen (p := ⟨w.heap.size + 1, 4, none⟩) (by simp)).trans (by go_simp)
  have c5 : w1.cell? ⟨w.heap.size, 5, none⟩ = some (.int .i64 x5) := (hb.cell (p := ⟨w.heap.size, 5, none⟩) (by simp; omega)).trans (by go_simp)
  have f5 : w1.frozen? ⟨w.heap.size, 5, none⟩ = false := (hb.frozen (p := ⟨w.heap.size, 5, none⟩) (by simp; omega)).trans (by go_simp)
  have d5 : w1.cell? ⟨w.heap.size + 1, 5, none⟩ = some (.int .i64 0) := (hb.cell (p := ⟨w.heap.size + 1, 5, none⟩) (by simp)).trans (by go_simp)
  have g5 : w1.frozen? ⟨w.heap.size + 1, 5, none⟩ = false := (hb.frozen (p := ⟨w.heap.size + 1, 5, none⟩) (by simp)).trans (by go_simp)
  have HB : Hid (Below w.heap.size w w1) := (((Below.refl _ w).alloc (Nat.le_refl _) _).alloc (by simp) _).trans (hb.mono (by simp; omega))
  clear hb
  go_wp2
  refine wp_loop_rounds 7 ?_
  rw [rounds_succ]; go_wp2
  rw [rounds_succ]; go_wp2
  rw [rounds_succ]; go_wp2
  rw [rounds_succ]; go_wp2
  rw [rounds_succ]; go_wp2
  rw [rounds_succ]; go_wp2
  rw [rounds_succ]; go_wp2
  exact bodyPost_ret (v := .tuple #[.agg #[.int .i64 (x0 * 12), .int .i64 (x1 * 12), .int .i64 (x2 * 12), .int .i64 (x3 * 12), .int .i64 (x4 * 12), .int .i64 (x5 * 12)], .int .i64 0]) (by simp [results, Tryz.results59, go_sem, d0, d1, d2, d3, d4, d5]) rfl ⟨rfl, set6_below (set6_below HB.out (Nat.le_refl _) _ _ _ _ _ _) (Nat.le_succ _) _ _ _ _ _ _⟩
end Go.Sc
