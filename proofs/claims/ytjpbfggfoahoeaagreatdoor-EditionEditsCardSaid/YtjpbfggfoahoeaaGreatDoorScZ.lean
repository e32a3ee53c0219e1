/- edition.parts: the iterator over the parts of two scores. -/
import Derived.Test.YtjpbfggfoahoeaaGreatDoorScY
import Derived.Test.YtjpbfggfoahoeaaGreatDoorScL
import Derived.RangeFuncLeaves
import Derived.RangeFuncCalls
import Derived.Stop.RegionWithIn
import Derived.LoopIn
import Derived.LoopNIn
import Derived.TacticsInMore
import Derived.OwnWalkIn
namespace Go.Sc
open Go.RowKit Go.Proofs

/-- The boxes of the two scores, and what they point to. -/
def TwoAt (A : World) (a b : Sc) (ya yb : Lay) (pa pb : Nat) : Prop := ScAt A a ya ∧ ScAt A b yb ∧ A.rangeAt pa 0 (a.cells ya).toList ∧ A.rangeAt pb 0 (b.cells yb).toList ∧ pa < A.heap.size ∧ pb < A.heap.size
/-- One more is at hand, or none. -/
theorem TwoAt.below {A B : World} {a b : Sc} {ya yb : Lay} {pa pb : Nat} (h : TwoAt A a b ya yb pa pb) (hb : Below A.heap.size A B) : TwoAt B a b ya yb pa pb :=
  ⟨h.1.below hb, h.2.1.below hb, rangeAt_below hb h.2.2.2.2.1 h.2.2.1, rangeAt_below hb h.2.2.2.2.2 h.2.2.2.1, Nat.lt_of_lt_of_le h.2.2.2.2.1 hb.size, Nat.lt_of_lt_of_le h.2.2.2.2.2 hb.size⟩
theorem box_cells {A : World} {s : Sc} {y : Lay} {p : Nat} (h : A.rangeAt p 0 (s.cells y).toList) : A.cell? ⟨p, 0, none⟩ = some (.int .i64 s.v) ∧ A.cell? ⟨p, 1, none⟩ = some (.slice y.o1 s.n.length y.k1) ∧ A.cell? ⟨p, 2, none⟩ = some (.slice y.o2 s.p.length y.k2) ∧ A.cell? ⟨p, 3, none⟩ = some (.slice y.o3 s.c.length y.k3) :=
  ⟨by simpa using h 0 _ rfl, by simpa using h 1 _ rfl, by simpa using h 2 _ rfl, by simpa using h 3 _ rfl⟩
theorem TwoAt.fields2 {A : World} {a b : Sc} {ya yb : Lay} {pa pb : Nat} (h : TwoAt A a b ya yb pa pb) : A.cell? ⟨pb, 0, none⟩ = some (.int .i64 b.v) ∧ A.cell? ⟨pb, 1, none⟩ = some (.slice yb.o1 b.n.length yb.k1) ∧ A.cell? ⟨pb, 2, none⟩ = some (.slice yb.o2 b.p.length yb.k2) ∧ A.cell? ⟨pb, 3, none⟩ = some (.slice yb.o3 b.c.length yb.k3) := box_cells h.2.2.2.1
set_option maxRecDepth 100000 in
set_option maxHeartbeats 8000000 in
theorem parts1_any (l : Nat) (a b : Sc) (ya yb : Lay) (pa pb M : Nat) (hM : M = max a.c.length b.c.length) (J Jx : Nat → World → Prop) (W : World)
    (ha : validOk a) (hb : validOk b) (ca : CapOk a ya) (cb : CapOk b yb)
    (hJ : ∀ k A B, J k A → Below A.heap.size A B → J k B) (hD : ∀ k A, J k A → TwoAt A a b ya yb pa pb)
    (hY : ∀ (k : Nat) (A : World) (x y : Lay), k ≤ M → J k A → ScAt A (partS a k) x → ScAt A (partS b k) y →
      YieldAt Fence.wide 0 Tryz.prog l #[.agg ((partS a k).cells x), .agg ((partS b k).cells y)] A (Goes (J (k + 1)) (Jx k)))
    (h0 : J 0 W) :
    CallsIn Fence.wide 0 Tryz.prog 47 #[.func (.yield l) #[] #[], .pointer (some ⟨pa, 0, none⟩), .pointer (some ⟨pb, 0, none⟩)] W (Ran J Jx M) := by
  have HM := Lib.hid hM
  have hMb : M ≤ 140737488351232 := by
    have h1 := (hD 0 W h0).1.2.2.2.2.2
    have h2 := (hD 0 W h0).2.1.2.2.2.2.2
    omega
  have HVa := Lib.hid ha
  have HVb := Lib.hid hb
  have HCa := Lib.hid ca
  have HCb := Lib.hid cb
  have HJ := Lib.hid hJ
  have HD := Lib.hid hD
  have HY := Lib.hid hY
  have H0 := Lib.hid h0
  clear hM ha hb ca cb hJ hD hY h0
  obtain ⟨V, N, P, C⟩ := a
  obtain ⟨o1, k1, o2, k2, o3, k3⟩ := ya
  obtain ⟨V', N', P', C'⟩ := b
  obtain ⟨o1', k1', o2', k2', o3', k3'⟩ := yb
  have hmx : ∀ W, (Builtin.max_ #[3, 3] 3 #[.int .i64 C.length, .int .i64 C'.length]).run Tryz.prog W = .ok (.int .i64 M) W := by
    intro W
    have h := HM.out
    dsimp only at h
    rw [h]
    simp only [Builtin.max_, Builtin.max2, List.foldlM_cons, List.foldlM_nil, Sem.run_bind, Sem.run_pure, Result.andThen_ok]
    congr 2
    split <;> omega
  refine callsIn_of_wp Tryz.func47 rfl trivial ?_ rfl
  simp only [Tryz.ntmps47, List.size_toArray, List.length_cons, List.length_nil, Nat.reduceAdd, Nat.reduceSub, Array.replicate_succ, Array.replicate_zero, List.push_toArray, List.append_toArray, List.nil_append, List.cons_append]
  gi_wp2
  gi_loopw [4] (fun i wr => ∃ k : Nat, k ≤ M + 1 ∧ i = .int .i64 k ∧ Hid (J k wr)) (fun i _ => M + 1 - (intOf i).toNat)
  case atStart => exact ⟨0, by omega, rfl, H0⟩
  case round =>
    obtain ⟨k, hk, rfl, HJk⟩ := hrel
    have HT := Lib.hid (HD.out k wr HJk.out)
    have a0 : wr.cell? ⟨pa, 0, none⟩ = some (.int .i64 V) := by simpa using HT.out.2.2.1 0 _ rfl
    have a1 : wr.cell? ⟨pa, 1, none⟩ = some (.slice o1 N.length k1) := by simpa using HT.out.2.2.1 1 _ rfl
    have a2 : wr.cell? ⟨pa, 2, none⟩ = some (.slice o2 P.length k2) := by simpa using HT.out.2.2.1 2 _ rfl
    have a3 : wr.cell? ⟨pa, 3, none⟩ = some (.slice o3 C.length k3) := by simpa using HT.out.2.2.1 3 _ rfl
    have b0 : wr.cell? ⟨pb, 0, none⟩ = some (.int .i64 V') := by simpa using HT.out.2.2.2.1 0 _ rfl
    have b1 : wr.cell? ⟨pb, 1, none⟩ = some (.slice o1' N'.length k1') := by simpa using HT.out.2.2.2.1 1 _ rfl
    have b2 : wr.cell? ⟨pb, 2, none⟩ = some (.slice o2' P'.length k2') := by simpa using HT.out.2.2.2.1 2 _ rfl
    have b3 : wr.cell? ⟨pb, 3, none⟩ = some (.slice o3' C'.length k3') := by simpa using HT.out.2.2.2.1 3 _ rfl
    by_cases hlt : k ≤ M
    · have hd : decide ((k : Int) ≤ (M : Int)) = true := by simpa using hlt
      have hkb : k ≤ 140737488351232 := by omega
      gi_wp2
      have HT1 : Hid (TwoAt wr.drew ⟨V, N, P, C⟩ ⟨V', N', P', C'⟩ ⟨o1, k1, o2, k2, o3, k3⟩ ⟨o1', k1', o2', k2', o3', k3'⟩ pa pb) := HT.out.below (Below.refl _ _).drew
      have HJ1 : Hid (J k wr.drew) := HJ.out k wr _ HJk.out (Below.refl _ _).drew
      gi_region_with (first
        | (refine ⟨trivial, rfl, ?_⟩; gi_at_call 48; refine (callsIn_wide.2 (part_any ⟨V, N, P, C⟩ ⟨o1, k1, o2, k2, o3, k3⟩ k hkb _ HT1.out.1 HCa.out HVa.out)).mono ?_; rintro e w1 ⟨y1, rfl, hs1, hb1⟩; have HS1 := Lib.hid hs1; have HB1 := Lib.hid hb1; have HT2 := Lib.hid (HT1.out.below hb1); have HJ2 := Lib.hid (HJ.out k _ _ HJ1.out hb1); clear hs1 hb1; have c0 : w1.cell? ⟨pb, 0, none⟩ = some (.int .i64 V') := HT2.out.fields2.1; have c1 : w1.cell? ⟨pb, 1, none⟩ = some (.slice o1' N'.length k1') := HT2.out.fields2.2.1; have c2 : w1.cell? ⟨pb, 2, none⟩ = some (.slice o2' P'.length k2') := HT2.out.fields2.2.2.1; have c3 : w1.cell? ⟨pb, 3, none⟩ = some (.slice o3' C'.length k3') := HT2.out.fields2.2.2.2; clear HT1)
        | (refine ⟨trivial, rfl, ?_⟩; gi_at_call 48; refine (callsIn_wide.2 (part_any ⟨V', N', P', C'⟩ ⟨o1', k1', o2', k2', o3', k3'⟩ k hkb _ HT2.out.2.1 HCb.out HVb.out)).mono ?_; rintro e w2 ⟨y2, rfl, hs2, hb2⟩; have HS2 := Lib.hid hs2; have HB2 := Lib.hid hb2; have HJ3 := Lib.hid (HJ.out k _ _ HJ2.out hb2); clear hs2 hb2 HT2; obtain ⟨fn, tm, asg, bd, hy, hR⟩ := HY.out k w2 y1 y2 hlt HJ3.out (HS1.out.below HB2.out) HS2.out)
        | (refine ⟨rfl, ?_⟩; refine hR.mono ?_; rintro e w4 ⟨bb, rfl, hg1, hg2⟩; have HG1 := Lib.hid hg1; have HG2 := Lib.hid hg2; clear hg1 hg2))
      all_goals (
        cases bb
        · gi_wp2
          refine bodyPost_ret (results_none rfl _ _ _) rfl ?_
          exact ⟨⟨_, rfl⟩, .inr ⟨k, hlt, HG2.out (by simp)⟩⟩
        · gi_wp2
          go_roundw
          case rel => exact ⟨k + 1, by omega, by go_num, HG1.out (by simp)⟩
          case measure => simp [intOf]; omega)
    · have hd : decide ((k : Int) ≤ (M : Int)) = false := by simpa using hlt
      gi_wp2
      go_end0
      exact ⟨⟨_, rfl⟩, .inl (by rw [show M + 1 = k by omega]; exact HJk.out)⟩
end Go.Sc
