/- The iterator over the steps from a note up to the anchor: tree.steps. -/
import Derived.Test.YtpbpeoijejocaaaGreatDoorPtE
import Derived.Test.YtpbpeoijejocaaaGreatDoorPtL
import Derived.Test.YtpbpeoijejocaaaGreatDoorPtP
import Derived.RangeFuncLeaves
import Derived.RangeFuncCalls
import Derived.Stop.RegionWithIn
import Derived.LoopIn
import Derived.LoopNIn
import Derived.TacticsInMore
import Derived.OwnWalkIn
import Derived.BigQuiet
import Derived.ControlIn
namespace Go.Sc
open Go.RowKit Go.Proofs

/-- The iterator's boxes: the note's and the tree's. -/
structure SD (A : World) (T : Nat) (s : Sc) (y : Lay) (z : Tl) (xs : List Vc) (nb tb : Nat) (n : Int) : Prop where
  tree : TreeAt A T s y z xs
  t : A.cell? ⟨tb, 0, none⟩ = some (.pointer (some ⟨T, 0, none⟩))
  n : A.cell? ⟨nb, 0, none⟩ = some (.int .i64 n)
  f : A.frozen? ⟨nb, 0, none⟩ = false
theorem SD.below {A B : World} {T : Nat} {s : Sc} {y : Lay} {z : Tl} {xs : List Vc} {nb tb : Nat} {n : Int} (h : SD A T s y z xs nb tb n) (hb : Below A.heap.size A B) : SD B T s y z xs nb tb n :=
  ⟨h.tree.below hb, (hb.cell (p := ⟨tb, 0, none⟩) (World.block_lt_of_cell? A _ h.t)).trans h.t, (hb.cell (p := ⟨nb, 0, none⟩) (World.block_lt_of_cell? A _ h.n)).trans h.n, (hb.frozen (p := ⟨nb, 0, none⟩) (World.block_lt_of_cell? A _ h.n)).trans h.f⟩
theorem below_drewN (w : World) : ∀ n, Below w.heap.size w (w.drewN n)
  | 0 => Below.refl _ w
  | n + 1 => (below_drewN w n).drew
def nbOf (w : World) (nb : Nat) : Int := match w.cell? ⟨nb, 0, none⟩ with
  | some v => intOf v
  | none => 0
theorem nbOf_eq {w : World} {nb : Nat} {n : Int} (h : w.cell? ⟨nb, 0, none⟩ = some (.int .i64 n)) : nbOf w nb = n := by unfold nbOf; rw [h]; rfl
/-- The parent step of a note, in memory. -/
theorem TreeAt.upAt {w : World} {T : Nat} {s : Sc} {y : Lay} {z : Tl} {xs : List Vc} (h : TreeAt w T s y z xs) {m : Nat} (hm : m < s.n.length) : ∃ b off, z.ou = some ⟨b, off, none⟩ ∧ b < w.heap.size ∧
    w.cell? ⟨b, off + m * 3, none⟩ = some (.int .i64 (upOf s m).f) ∧ w.cell? ⟨b, off + m * 3 + 1, none⟩ = some (.int .i64 (upOf s m).t) ∧ w.cell? ⟨b, off + m * 3 + 2, none⟩ = some (.int .i64 (upOf s m).k) := by
  obtain ⟨b, off, h1, h2, h3⟩ := h.up m (upOf s m) (by unfold upsOf; simp [hm])
  exact ⟨b, off, h1, h2, h3 0 _ rfl, h3 1 _ rfl, h3 2 _ rfl⟩
set_option maxRecDepth 100000 in
set_option maxHeartbeats 2000000 in
theorem steps1_any (l T : Nat) (s : Sc) (y : Lay) (z : Tl) (xs : List Vc) (nb tb : Nat) (n0 : Int) (M : Nat) (J J' Jx : Nat → World → Prop) (W : World) (hv : validOk s) (hM : LastUp s n0 M)
    (hJ : ∀ k A B, J k A → Below A.heap.size A B → J k B) (hJ' : ∀ k A B, J' k A → Below A.heap.size A B → J' k B)
    (hD : ∀ k A, J k A → SD A T s y z xs nb tb (nodeOf s n0 k)) (hD' : ∀ k A, J' k A → SD A T s y z xs nb tb (nodeOf s n0 k))
    (hSet : ∀ k A, k ≤ M → J' k A → J (k + 1) (A.setCell ⟨nb, 0, none⟩ (.int .i64 (nodeOf s n0 (k + 1)))))
    (hY : ∀ (k : Nat) (A : World), k ≤ M → J k A → YieldAt Fence.wide 0 Tryz.prog l #[.agg (upOf s (nodeOf s n0 k).toNat).cells.toArray] A (Goes (J' k) (Jx k)))
    (h0 : J 0 W) :
    CallsIn Fence.wide 0 Tryz.prog 86 #[.func (.yield l) #[] #[], .pointer (some ⟨nb, 0, none⟩), .pointer (some ⟨tb, 0, none⟩)] W (Ran J Jx M) := by
  have HV := Lib.hid hv
  have HM := Lib.hid hM
  have HJ := Lib.hid hJ
  have HJ' := Lib.hid hJ'
  have HD := Lib.hid hD
  have HD' := Lib.hid hD'
  have HS := Lib.hid hSet
  have HY := Lib.hid hY
  have H0 := Lib.hid h0
  clear hv hM hJ hJ' hD hD' hSet hY h0
  refine callsIn_of_wp Tryz.func86 rfl trivial ?_ rfl
  simp only [Tryz.ntmps86, List.size_toArray, List.length_cons, List.length_nil, Nat.reduceAdd, Nat.reduceSub, Array.replicate_succ, Array.replicate_zero, List.push_toArray, List.append_toArray, List.nil_append, List.cons_append]
  gi_wp2
  gi_loopw [] (fun wr => ∃ k : Nat, k ≤ M + 1 ∧ Hid (J k wr)) (fun wr => (nbOf wr nb + 1).toNat)
  case atStart => exact ⟨0, by omega, H0⟩
  case round =>
    obtain ⟨k, hk, HJk⟩ := hrel
    have HT := Lib.hid (HD.out k wr HJk.out)
    have ct := HT.out.t
    have cn := HT.out.n
    by_cases hlt : k ≤ M
    · have hb := HM.out.1 k hlt
      obtain ⟨m, hm⟩ : ∃ m : Nat, nodeOf s n0 k = m := ⟨(nodeOf s n0 k).toNat, by omega⟩
      have hms : m < s.n.length := by omega
      rw [hm] at cn
      have c4 := HT.out.tree.cell.2.1
      obtain ⟨bu, fu, hou, hbu, u0, u1, u2⟩ := HT.out.tree.upAt hms
      rw [hou] at c4
      have HJ1 : Hid (J k wr.drew) := HJ.out k wr _ HJk.out (Below.refl _ _).drew
      have hY := HY.out k wr.drew hlt HJ1.out
      rw [hm, Int.toNat_natCast] at hY
      have hnx : nodeOf s n0 (k + 1) = (upOf s m).f := by show (upOf s (nodeOf s n0 k).toNat).f = _; rw [hm, Int.toNat_natCast]
      have HNX : Aside (nodeOf s n0 (k + 1) = (upOf s m).f) := hnx
      have hlow : nodeOf s n0 (k + 1) < nodeOf s n0 k ∧ -1 ≤ nodeOf s n0 (k + 1) := by
        have := up_of_lt HV.out hb.1 hb.2
        rw [hnx, hm]
        rw [hm, Int.toNat_natCast] at this
        omega
      have HLOW := Lib.hid hlow
      obtain ⟨x, hx⟩ : ∃ x, upOf s m = x := ⟨_, rfl⟩
      rw [hx] at u0 u1 u2 hY HNX
      obtain ⟨xf, xt, xk⟩ := x
      dsimp only [St.cells] at u0 u1 u2 hY
      have HX := Lib.hid hx
      obtain ⟨fn, tm, asg, bd, hy, hR⟩ := hY
      have HM0 : Aside (nodeOf s n0 k = m) := hm
      have h1 : (0 : Int) ≤ (m : Int) := by omega
      have h2 : (m : Int) < (s.n.length : Int) := by omega
      clear hx hm hnx hlow hou hb
      gi_wp2
      gi_region_with (first
        | (refine ⟨rfl, ?_⟩; refine hR.mono ?_; rintro e w4 ⟨bb, rfl, hg1, hg2⟩; have HG1 := Lib.hid hg1; have HG2 := Lib.hid hg2; clear hg1 hg2))
      all_goals (
        cases bb
        · gi_wp2
          go_end0
          exact ⟨⟨_, rfl⟩, .inr ⟨k, hlt, HG2.out (by simp)⟩⟩
        · have HT4 := Lib.hid (HD'.out k w4 (HG1.out (by simp)))
          have ct4 := HT4.out.t
          have cn4 := HT4.out.n
          have cf4 := HT4.out.f
          rw [HM0.out] at cn4
          have c44 := HT4.out.tree.cell.2.1
          obtain ⟨bu', fu', hou', hbu', v0, v1, v2⟩ := HT4.out.tree.upAt hms
          rw [hou'] at c44
          rw [HX.out] at v0 v1 v2
          dsimp only at v0 v1 v2
          clear hou'
          gi_wp2
          gi_region_with (fail)
          all_goals gi_wp2
          all_goals (
            have hnew := HS.out k w4 hlt (HG1.out (by simp))
            rw [HNX.out] at hnew
            refine ⟨⟨k + 1, by omega, Lib.hid (HJ.out _ _ _ hnew (Below.refl _ _).drew)⟩, ?_⟩
            have e1 : nbOf (w4.setCell ⟨nb, 0, none⟩ (.int .i64 xf)).drew nb = xf := nbOf_eq (by go_simp)
            have e2 : nbOf wr nb = m := nbOf_eq cn
            rw [e1, e2]
            have := HLOW.out
            rw [HNX.out, HM0.out] at this
            omega))
    · have hkM : k = M + 1 := by omega
      have hn1 : nodeOf s n0 k = -1 := by rw [hkM]; exact HM.out.2
      obtain ⟨q, hq⟩ : ∃ q, nodeOf s n0 k = q := ⟨_, rfl⟩
      rw [hq] at cn hn1
      have hd : decide (0 ≤ q) = false := by simp; omega
      have hd2 : decide (q ≥ 0) = false := by simp; omega
      have HK1 : Aside (k = M + 1) := hkM
      clear hn1 hq hkM hlt
      gi_wp2
      refine wpIn_wide.2 ?_
      go_quiet (fail)
      all_goals gi_wp2
      go_end0
      exact ⟨⟨_, rfl⟩, .inl (HK1.out ▸ HJ.out k wr _ HJk.out (below_drewN wr _))⟩
end Go.Sc
