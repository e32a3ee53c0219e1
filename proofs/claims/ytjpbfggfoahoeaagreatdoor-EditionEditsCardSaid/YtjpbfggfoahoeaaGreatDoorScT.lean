/- The references' functions that the law calls: Few, Same, Equal, far. -/
import Derived.Test.YtjpbfggfoahoeaaGreatDoorScH
namespace Go.Sc
open Go.RowKit Go.Proofs

def fewOk (s : Sc) : Prop := s.n.length ≤ 20 ∧ s.p.length ≤ 30 ∧ s.c.length ≤ 5
set_option maxRecDepth 100000 in
set_option maxHeartbeats 2000000 in
theorem few_any (s : Sc) (y : Lay) (w : World) : Calls Tryz.prog 7 #[.agg (s.cells y), .slice none 0 0, .slice none 0 0] w (Says (fewOk s) w) := by
  obtain ⟨V, N, P, C⟩ := s
  obtain ⟨o1, k1, o2, k2, o3, k3⟩ := y
  show Calls Tryz.prog 7 #[.agg #[.int .i64 V, .slice o1 N.length k1, .slice o2 P.length k2, .slice o3 C.length k3], .slice none 0 0, .slice none 0 0] w _
  by_cases h1 : N.length ≤ 20
  · have d1 : decide ((N.length : Int) > 20) = false := by simp; omega
    by_cases h2 : P.length ≤ 30
    · have d2 : decide ((P.length : Int) > 30) = false := by simp; omega
      by_cases h3 : C.length ≤ 5
      · have d3 : decide ((C.length : Int) > 5) = false := by simp; omega
        go_enter Tryz.func7, Tryz.ntmps7
        go_wp2
        go_loop [7] (fun i => i = .int .i64 0) (fun _ => 0)
        case atStart => rfl
        case round =>
          subst hrel
          go_wp2
          go_ret
          exact Says.yes ⟨h1, h2, h3⟩ ((Below.refl _ _).alloc (Nat.le_refl _) _)
      · have d3 : decide ((C.length : Int) > 5) = true := by simp; omega
        go_enter Tryz.func7, Tryz.ntmps7
        go_wp2
        go_ret
        exact Says.no (fun h => h3 h.2.2) ((Below.refl _ _).alloc (Nat.le_refl _) _)
    · have d2 : decide ((P.length : Int) > 30) = true := by simp; omega
      go_enter Tryz.func7, Tryz.ntmps7
      go_wp2
      go_ret
      exact Says.no (fun h => h2 h.2.1) ((Below.refl _ _).alloc (Nat.le_refl _) _)
  · have d1 : decide ((N.length : Int) > 20) = true := by simp; omega
    go_enter Tryz.func7, Tryz.ntmps7
    go_wp2
    go_ret
    exact Says.no (fun h => h1 h.1) ((Below.refl _ _).alloc (Nat.le_refl _) _)

/-- How far two scores agree: 1000 if they do everywhere. -/
def farI (k : Int) : Int := if k < 0 then 1000 else k
theorem far_any (k : Int) (w : World) : Calls Tryz.prog 10 #[.int .i64 k] w (fun e w' => e = .returned (.int .i64 (farI k)) ∧ w = w') := by
  by_cases h : k < 0
  · have e1 : farI k = 1000 := if_pos h
    rw [e1]
    clear e1
    go_enter Tryz.func10, Tryz.ntmps10
    go_wp2
    go_ret
    exact ⟨rfl, rfl⟩
  · have e1 : farI k = k := if_neg h
    rw [e1]
    clear e1
    go_enter Tryz.func10, Tryz.ntmps10
    go_wp2
    go_ret
    exact ⟨rfl, rfl⟩
end Go.Sc

/-! The reference's equality of scores: Same, Equal. -/
namespace Go.Sc
open Go.RowKit Go.Proofs

set_option maxRecDepth 100000 in
set_option maxHeartbeats 8000000 in
theorem same_any (o o' : Option Addr) (l l' : List Int) (cap cap' : Nat) (w : World) (h : IntsAt w o l) (h' : IntsAt w o' l') (hl : l.length ≤ 140737488351232) :
    Calls Tryz.prog 24 #[.slice o l.length cap, .slice o' l'.length cap'] w (Says (l = l') w) := by
  have HN : Hid (IntsAt w o l) := h
  have HN' : Hid (IntsAt w o' l') := h'
  clear h h'
  by_cases hlen : l.length = l'.length
  · have bl : ((l.length : Int) != (l'.length : Int)) = false := by simp [hlen]
    have HL := Lib.hid hlen
    clear hlen
    go_enter Tryz.func24, Tryz.ntmps24
    go_wp2
    go_loopw [5] (fun i wr => ∃ k : Nat, k ≤ l.length ∧ i = .int .i64 k ∧ Hid (sameTo l l' k) ∧ Hid (Below w.heap.size w wr)) (fun i _ => l.length - (intOf i).toNat)
    case atStart => exact ⟨0, by omega, rfl, (fun i hi => by omega : sameTo l l' 0), (Below.refl _ _ : Below _ _ _)⟩
    case round =>
      obtain ⟨k, hk, rfl, HU, HB⟩ := hrel
      by_cases hlt : k < l.length
      · have hlt' : k < l'.length := by have := HL.out; omega
        obtain ⟨x, hx⟩ := get_of_lt hlt
        obtain ⟨y, hy⟩ := get_of_lt hlt'
        obtain ⟨b, off, rfl, hb, hr⟩ := HN.out k _ hx
        obtain ⟨b', off', rfl, hb', hr'⟩ := HN'.out k _ hy
        have HX : Hid (l[k]? = some x) := hx
        have HY : Hid (l'[k]? = some y) := hy
        have e1 : wr.cell? ⟨b, off + k, none⟩ = some (.int .i64 x) := cell_int (rangeAt_below HB.out hb hr)
        have e2 : wr.cell? ⟨b', off' + k, none⟩ = some (.int .i64 y) := cell_int (rangeAt_below HB.out hb' hr')
        have f1 : wr.drew.cell? ⟨b, off + k, none⟩ = some (.int .i64 x) := e1
        have f2 : wr.drew.cell? ⟨b', off' + k, none⟩ = some (.int .i64 y) := e2
        clear hx hy hr hr' hb hb'
        go_wp2
        refine wp_region_still_tail 8 (by kernel_rfl) (by kernel_rfl) ?_
        simp only [List.take_succ_cons, List.take_zero, List.drop_succ_cons, List.drop_zero]
        change wpStill _ _ wr.drew _ _ _
        have q2 : (0 : Int) ≤ (k : Int) := by omega
        have q3 : (k : Int) < (l.length : Int) := by omega
        have q4 : (k : Int) < (l'.length : Int) := by omega
        repeat still_step
        refine wpStill_nil ?_
        change wpList _ _ _ _ _ wr.drew
        have HB2 : Hid (Below w.heap.size w wr.drew) := HB.out.drew
        clear HB e1 e2 f1 f2
        generalize wr.drew = W2 at *
        go_wp2
        case roundEnd =>
          rename_i hx
          have hxy : x = y := by simpa using hx
          go_roundw
          case rel => exact ⟨k + 1, by omega, by go_num, (sameTo_step HU.out (by rw [HX.out, HY.out, hxy]) : sameTo l l' (k + 1)), HB2⟩
          case measure => simp [intOf]; omega
        · rename_i hx
          go_ret
          refine Says.no (fun hh => ?_) HB2.out
          have h1 := HX.out
          rw [hh, HY.out] at h1
          cases h1
          simp at hx
      · go_wp2
        go_ret
        exact Says.yes (sameTo_all HL.out (fun i hi => HU.out i (by omega))) HB.out
  · have bl : ((l.length : Int) != (l'.length : Int)) = true := by simp; omega
    go_enter Tryz.func24, Tryz.ntmps24
    go_wp2
    go_ret
    exact Says.no (fun hh => hlen (by rw [hh])) (Below.refl _ _)
theorem same_yes {l l' : List Int} {o o' : Option Addr} {c c' : Nat} {w : World} (h : IntsAt w o l) (h' : IntsAt w o' l') (hl : l.length ≤ 140737488351232) (he : l = l') : Calls Tryz.prog 24 #[.slice o l.length c, .slice o' l'.length c'] w (fun e w' => e = .returned (.bool true) ∧ Below w.heap.size w w') :=
  (same_any o o' l l' c c' w h h' hl).mono (by rintro e w' ⟨b, hb, rfl, hB⟩; exact ⟨by rw [hb.2 he], hB⟩)
theorem same_no {l l' : List Int} {o o' : Option Addr} {c c' : Nat} {w : World} (h : IntsAt w o l) (h' : IntsAt w o' l') (hl : l.length ≤ 140737488351232) (he : ¬ l = l') : Calls Tryz.prog 24 #[.slice o l.length c, .slice o' l'.length c'] w (fun e w' => e = .returned (.bool false) ∧ Below w.heap.size w w') :=
  (same_any o o' l l' c c' w h h' hl).mono (by rintro e w' ⟨b, hb, rfl, hB⟩; cases b; exact ⟨rfl, hB⟩; exact absurd (hb.1 rfl) he)
set_option maxRecDepth 100000 in
set_option maxHeartbeats 8000000 in
theorem requal_any (a b : Sc) (ya yb : Lay) (w : World) (ha : ScAt w a ya) (hb : ScAt w b yb) : Calls Tryz.prog 9 #[.agg (a.cells ya), .agg (b.cells yb)] w (Says (a = b) w) := by
  have HA := Lib.hid ha
  have HB := Lib.hid hb
  clear ha hb
  obtain ⟨V, N, P, C⟩ := a
  obtain ⟨o1, k1, o2, k2, o3, k3⟩ := ya
  obtain ⟨V', N', P', C'⟩ := b
  obtain ⟨o1', k1', o2', k2', o3', k3'⟩ := yb
  have hN : N.length ≤ 140737488351232 := HA.out.2.2.2.1
  have hP : P.length ≤ 140737488351232 := HA.out.2.2.2.2.1
  show Calls Tryz.prog 9 #[.agg #[.int .i64 V, .slice o1 N.length k1, .slice o2 P.length k2, .slice o3 C.length k3], .agg #[.int .i64 V', .slice o1' N'.length k1', .slice o2' P'.length k2', .slice o3' C'.length k3']] w _
  have hB0 : Below w.heap.size w ((w.alloc (.cells #[.int .i64 V, .slice o1 N.length k1, .slice o2 P.length k2, .slice o3 C.length k3] 26)).alloc (.cells #[.int .i64 V', .slice o1' N'.length k1', .slice o2' P'.length k2', .slice o3' C'.length k3'] 26)) :=
    ((Below.refl _ w).alloc (Nat.le_refl _) _).alloc (by simp) _
  have HB0 := Lib.hid hB0
  clear hB0
  by_cases hv : V = V'
  case neg =>
    have hvd : (V != V') = true := by simpa using hv
    go_enter Tryz.func9, Tryz.ntmps9
    go_wp2
    go_ret
    exact Says.no (fun h => hv (congrArg Sc.v h)) HB0.out
  have hvd : (V != V') = false := by simpa using hv
  have HV := Lib.hid hv
  clear hv
  by_cases hn : N.length = N'.length
  case neg =>
    have hnd : ((N.length : Int) != (N'.length : Int)) = true := by simp; omega
    go_enter Tryz.func9, Tryz.ntmps9
    go_wp2
    go_ret
    exact Says.no (fun h => hn (congrArg (fun s : Sc => s.n.length) h)) HB0.out
  have hnd : ((N.length : Int) != (N'.length : Int)) = false := by simp [hn]
  have HNL := Lib.hid hn
  clear hn
  by_cases hp : P.length = P'.length
  case neg =>
    have hpd : ((P.length : Int) != (P'.length : Int)) = true := by simp; omega
    go_enter Tryz.func9, Tryz.ntmps9
    go_wp2
    go_ret
    exact Says.no (fun h => hp (congrArg (fun s : Sc => s.p.length) h)) HB0.out
  have hpd : ((P.length : Int) != (P'.length : Int)) = false := by simp [hp]
  have HPL := Lib.hid hp
  clear hp
  have HA1 := Lib.hid (HA.out.below HB0.out)
  have HB1 := Lib.hid (HB.out.below HB0.out)
  by_cases hc : C = C'
  case neg =>
    have HC := Lib.hid hc
    clear hc
    go_enter Tryz.func9, Tryz.ntmps9
    go_wp2_with fail
    refine (same_no HA1.out.2.2.1 HB1.out.2.2.1 HA1.out.2.2.2.2.2 HC.out).mono ?_
    rintro e w1 ⟨rfl, hb1⟩
    have HB2 := Lib.hid (HB0.out.trans (hb1.mono HB0.out.size))
    clear hb1
    go_wp2
    go_ret
    exact Says.no (fun h => HC.out (congrArg Sc.c h)) HB2.out
  have HC := Lib.hid hc
  clear hc
  go_enter Tryz.func9, Tryz.ntmps9
  go_wp2_with fail
  refine (same_yes HA1.out.2.2.1 HB1.out.2.2.1 HA1.out.2.2.2.2.2 HC.out).mono ?_
  rintro e w1 ⟨rfl, hb1⟩
  have hz : w.heap.size + 2 = ((w.alloc (.cells #[.int .i64 V, .slice o1 N.length k1, .slice o2 P.length k2, .slice o3 C.length k3] 26)).alloc (.cells #[.int .i64 V', .slice o1' N'.length k1', .slice o2' P'.length k2', .slice o3' C'.length k3'] 26)).heap.size := by simp
  have HB2 := Lib.hid (hb1.mono (Nat.le_of_eq hz))
  clear hb1 hz
  go_wp2
  go_loopw [5] (fun i wr => ∃ k : Nat, k ≤ N.length ∧ i = .int .i64 k ∧ Hid (sameTo N N' k) ∧ Hid (Below (w.heap.size + 2) ((w.alloc (.cells #[.int .i64 V, .slice o1 N.length k1, .slice o2 P.length k2, .slice o3 C.length k3] 26)).alloc (.cells #[.int .i64 V', .slice o1' N'.length k1', .slice o2' P'.length k2', .slice o3' C'.length k3'] 26)) wr)) (fun i _ => N.length - (intOf i).toNat)
  case atStart => exact ⟨0, by omega, rfl, (fun i hi => by omega : sameTo N N' 0), HB2⟩
  case round =>
    obtain ⟨k, hk, rfl, HU, HBr⟩ := hrel
    have c1 : wr.cell? ⟨w.heap.size, 1, none⟩ = some (.slice o1 N.length k1) := (HBr.out.cell (p := ⟨w.heap.size, 1, none⟩) (by simp)).trans (by go_simp)
    have c1' : wr.cell? ⟨w.heap.size + 1, 1, none⟩ = some (.slice o1' N'.length k1') := (HBr.out.cell (p := ⟨w.heap.size + 1, 1, none⟩) (by simp)).trans (by go_simp)
    have c2 : wr.cell? ⟨w.heap.size, 2, none⟩ = some (.slice o2 P.length k2) := (HBr.out.cell (p := ⟨w.heap.size, 2, none⟩) (by simp)).trans (by go_simp)
    have c2' : wr.cell? ⟨w.heap.size + 1, 2, none⟩ = some (.slice o2' P'.length k2') := (HBr.out.cell (p := ⟨w.heap.size + 1, 2, none⟩) (by simp)).trans (by go_simp)
    have HBw : Hid (Below w.heap.size w wr) := below_two HBr.out
    by_cases hlt : k < N.length
    · obtain ⟨x, hx⟩ := get_of_lt (l := N) hlt
      obtain ⟨y, hy⟩ := get_of_lt (l := N') (k := k) (by have := HNL.out; omega)
      have hlt' : k < N'.length := by have := HNL.out; omega
      obtain ⟨bb, off, rfl, hb, hr⟩ := HA.out.1 k _ hx
      obtain ⟨bb', off', rfl, hb', hr'⟩ := HB.out.1 k _ hy
      have HX : Hid (N[k]? = some x) := hx
      have HY : Hid (N'[k]? = some y) := hy
      have HR1 : Hid (wr.drew.rangeAt bb (off + k * 10) x.cells) := rangeAt_below HBw.out hb hr
      have HR2 : Hid (wr.drew.rangeAt bb' (off' + k * 10) y.cells) := rangeAt_below HBw.out hb' hr'
      have g1 : wr.drew.cell? ⟨w.heap.size, 1, none⟩ = some (.slice (some ⟨bb, off, none⟩) N.length k1) := c1
      have g2 : wr.drew.cell? ⟨w.heap.size + 1, 1, none⟩ = some (.slice (some ⟨bb', off', none⟩) N'.length k1') := c1'
      clear hx hy hr hr' hb hb'
      go_wp2
      refine wp_region_still_tail 10 (by kernel_rfl) (by kernel_rfl) ?_
      simp only [List.take_succ_cons, List.take_zero, List.drop_succ_cons, List.drop_zero]
      change wpStill _ _ wr.drew _ _ _
      have q2 : (0 : Int) ≤ (k : Int) := by omega
      have q3 : (k : Int) < (N.length : Int) := by omega
      have q4 : (k : Int) < (N'.length : Int) := by omega
      iterate 4 still_step
      refine still_load rfl 41 (.tmp 48) rfl bb (off + k * 10) ?_ _ _ HR1.out Tryz.underlying41 rfl (by kernel_rfl) ?_
      · rfl
      iterate 4 still_step
      refine still_load rfl 41 (.tmp 53) rfl bb' (off' + k * 10) ?_ _ _ HR2.out Tryz.underlying41 rfl (by kernel_rfl) ?_
      · rfl
      refine wpStill_nil ?_
      change wpList _ _ _ _ _ wr.drew
      have HB3 := Lib.hid (HBr.out.drew)
      have HBw3 := Lib.hid (HBw.out.drew)
      clear HBr HR1 HR2 g1 g2 c1 c1' c2 c2' HBw
      generalize wr.drew = W2 at *
      by_cases hxy : x = y
      · have hq : ∀ W, (Op.equalIn 10000 41 (.agg x.cells.toArray) (.agg y.cells.toArray)).run Tryz.prog W = .ok true W := fun W => by rw [eq_note, decide_eq_true hxy]
        have HXY := Lib.hid hxy
        clear hxy
        go_wp2
        go_roundw
        case rel => exact ⟨k + 1, by omega, by go_num, (sameTo_step HU.out (by rw [HX.out, HY.out, HXY.out]) : sameTo N N' (k + 1)), HB3⟩
        case measure => simp [intOf]; omega
      · have hq : ∀ W, (Op.equalIn 10000 41 (.agg x.cells.toArray) (.agg y.cells.toArray)).run Tryz.prog W = .ok false W := fun W => by rw [eq_note, decide_eq_false hxy]
        have HXY := Lib.hid hxy
        clear hxy
        go_wp2
        go_ret
        refine Says.no (fun hh => ?_) HBw3.out
        have h1 := HX.out
        have hn : N = N' := congrArg Sc.n hh
        rw [hn, HY.out] at h1
        cases h1
        exact HXY.out rfl
    · have hkl : k = N.length := by omega
      subst hkl
      clear hk
      have hNN : N = N' := sameTo_all HNL.out HU.out
      have HNN := Lib.hid hNN
      clear hNN
      go_wp2
      have HBr0 := HBr
      clear c1 c1' c2 c2' HBr HBw
      go_loopw [6] (fun i wr => ∃ k : Nat, k ≤ P.length ∧ i = .int .i64 k ∧ Hid (sameTo P P' k) ∧ Hid (Below (w.heap.size + 2) ((w.alloc (.cells #[.int .i64 V, .slice o1 N.length k1, .slice o2 P.length k2, .slice o3 C.length k3] 26)).alloc (.cells #[.int .i64 V', .slice o1' N'.length k1', .slice o2' P'.length k2', .slice o3' C'.length k3'] 26)) wr)) (fun i _ => P.length - (intOf i).toNat)
      case atStart => exact ⟨0, by omega, rfl, (fun i hi => by omega : sameTo P P' 0), HBr0⟩
      clear HBr0
      case round =>
        obtain ⟨k, hk, rfl, HU2, HBr⟩ := hrel
        have c2 : wr.cell? ⟨w.heap.size, 2, none⟩ = some (.slice o2 P.length k2) := (HBr.out.cell (p := ⟨w.heap.size, 2, none⟩) (by simp)).trans (by go_simp)
        have c2' : wr.cell? ⟨w.heap.size + 1, 2, none⟩ = some (.slice o2' P'.length k2') := (HBr.out.cell (p := ⟨w.heap.size + 1, 2, none⟩) (by simp)).trans (by go_simp)
        have HBw : Hid (Below w.heap.size w wr) := below_two HBr.out
        by_cases hlt : k < P.length
        · obtain ⟨x, hx⟩ := get_of_lt (l := P) hlt
          obtain ⟨y, hy⟩ := get_of_lt (l := P') (k := k) (by have := HPL.out; omega)
          have hlt' : k < P'.length := by have := HPL.out; omega
          obtain ⟨bb, off, rfl, hb, hr⟩ := HA.out.2.1 k _ hx
          obtain ⟨bb', off', rfl, hb', hr'⟩ := HB.out.2.1 k _ hy
          have HX : Hid (P[k]? = some x) := hx
          have HY : Hid (P'[k]? = some y) := hy
          have HR1 : Hid (wr.drew.rangeAt bb (off + k * 9) x.cells) := rangeAt_below HBw.out hb hr
          have HR2 : Hid (wr.drew.rangeAt bb' (off' + k * 9) y.cells) := rangeAt_below HBw.out hb' hr'
          have g1 : wr.drew.cell? ⟨w.heap.size, 2, none⟩ = some (.slice (some ⟨bb, off, none⟩) P.length k2) := c2
          have g2 : wr.drew.cell? ⟨w.heap.size + 1, 2, none⟩ = some (.slice (some ⟨bb', off', none⟩) P'.length k2') := c2'
          clear hx hy hr hr' hb hb'
          go_wp2
          refine wp_region_still_tail 10 (by kernel_rfl) (by kernel_rfl) ?_
          simp only [List.take_succ_cons, List.take_zero, List.drop_succ_cons, List.drop_zero]
          change wpStill _ _ wr.drew _ _ _
          have q2 : (0 : Int) ≤ (k : Int) := by omega
          have q3 : (k : Int) < (P.length : Int) := by omega
          have q4 : (k : Int) < (P'.length : Int) := by omega
          iterate 4 still_step
          refine still_load rfl 43 (.tmp 66) rfl bb (off + k * 9) ?_ _ _ HR1.out Tryz.underlying43 rfl (by kernel_rfl) ?_
          · rfl
          iterate 4 still_step
          refine still_load rfl 43 (.tmp 71) rfl bb' (off' + k * 9) ?_ _ _ HR2.out Tryz.underlying43 rfl (by kernel_rfl) ?_
          · rfl
          refine wpStill_nil ?_
          change wpList _ _ _ _ _ wr.drew
          have HB3 := Lib.hid (HBr.out.drew)
          have HBw3 := Lib.hid (HBw.out.drew)
          clear HBr HR1 HR2 g1 g2 c2 c2' HBw
          generalize wr.drew = W2 at *
          by_cases hxy : x = y
          · have hq : ∀ W, (Op.equalIn 10000 43 (.agg x.cells.toArray) (.agg y.cells.toArray)).run Tryz.prog W = .ok true W := fun W => by rw [eq_pair, decide_eq_true hxy]
            have HXY := Lib.hid hxy
            clear hxy
            go_wp2
            go_roundw
            case rel => exact ⟨k + 1, by omega, by go_num, (sameTo_step HU2.out (by rw [HX.out, HY.out, HXY.out]) : sameTo P P' (k + 1)), HB3⟩
            case measure => simp [intOf]; omega
          · have hq : ∀ W, (Op.equalIn 10000 43 (.agg x.cells.toArray) (.agg y.cells.toArray)).run Tryz.prog W = .ok false W := fun W => by rw [eq_pair, decide_eq_false hxy]
            have HXY := Lib.hid hxy
            clear hxy
            go_wp2
            go_ret
            refine Says.no (fun hh => ?_) HBw3.out
            have h1 := HX.out
            have hn : P = P' := congrArg Sc.p hh
            rw [hn, HY.out] at h1
            cases h1
            exact HXY.out rfl
        · have hkl : k = P.length := by omega
          subst hkl
          clear hk
          have hPP : P = P' := sameTo_all HPL.out HU2.out
          have HPP := Lib.hid hPP
          clear hPP
          go_wp2
          go_ret
          exact Says.yes (by rw [HV.out, HNN.out, HPP.out, HC.out]) HBw.out
end Go.Sc

/-! What First says of two scores: the plain law. -/
namespace Go.Sc
open Go.RowKit Go.Proofs

theorem part_full {s : Sc} {k : Nat} (hv : validOk s) (hk : s.c.length ≤ k) : partS s k = s := by
  obtain ⟨V, N, P, C⟩ := s
  have hp : ∀ p ∈ P, p.b < (N.length : Int) := fun p h => (hv.2.2.2.1.1 p h).2.2.1
  unfold partS
  rw [nOf_ge hk]
  simp only [List.take_length]
  rw [List.take_of_length_le hk, List.filter_eq_self.2 (fun p h => by simpa using hp p h)]
theorem FirstE.sym {a b : Sc} {k er : Int} (h : FirstE a b k er) : FirstE b a k er := by
  rcases h with ⟨h1, h2, h3⟩ | ⟨h1, h2, h3, ⟨h4, h5⟩ | ⟨n, h4, h5, h6, h7⟩⟩
  · exact .inl ⟨fun h => h1 ⟨h.2, h.1⟩, h2, h3⟩
  · exact .inr ⟨h2, h1, h3, .inl ⟨h4, fun j hj => (h5 j (by omega)).symm⟩⟩
  · exact .inr ⟨h2, h1, h3, .inr ⟨n, h4, by omega, fun h => h6 h.symm, fun j hj => (h7 j hj).symm⟩⟩
theorem FirstE.unique {a b : Sc} {k er k' er' : Int} (h : FirstE a b k er) (h' : FirstE a b k' er') : k = k' ∧ er = er' := by
  rcases h with ⟨h1, h2, h3⟩ | ⟨h1, h2, h3, ⟨h4, h5⟩ | ⟨n, h4, h5, h6, h7⟩⟩ <;> rcases h' with ⟨g1, g2, g3⟩ | ⟨g1, g2, g3, ⟨g4, g5⟩ | ⟨m, g4, g5, g6, g7⟩⟩
  · exact ⟨by omega, by omega⟩
  · exact absurd ⟨g1, g2⟩ h1
  · exact absurd ⟨g1, g2⟩ h1
  · exact absurd ⟨h1, h2⟩ g1
  · exact ⟨by omega, by omega⟩
  · exact absurd (h5 m g5) g6
  · exact absurd ⟨h1, h2⟩ g1
  · exact absurd (g5 n h5) h6
  · have : n = m := by
      rcases Nat.lt_trichotomy n m with h | h | h
      · exact absurd (g7 n h) h6
      · exact h
      · exact absurd (h7 m h) g6
    exact ⟨by omega, by omega⟩
theorem FirstE.err {a b : Sc} {k er : Int} (h : FirstE a b k er) : (er = 1 ∧ ¬ (validOk a ∧ validOk b)) ∨ (er = 0 ∧ validOk a ∧ validOk b) := by
  rcases h with ⟨h1, h2, h3⟩ | ⟨h1, h2, h3, _⟩
  · exact .inl ⟨h3, h1⟩
  · exact .inr ⟨h3, h1, h2⟩
theorem valid_c {s : Sc} (h : validOk s) : s.c.length ≤ 15 := by
  have := h.1
  unfold sizesOk at this
  omega
theorem FirstE.range {a b : Sc} {k : Int} (h : FirstE a b k 0) : -1 ≤ k ∧ k ≤ 16 := by
  rcases h with ⟨h1, h2, h3⟩ | ⟨h1, h2, h3, ⟨h4, h5⟩ | ⟨n, h4, h5, h6, h7⟩⟩
  · omega
  · omega
  · have := valid_c h1
    have := valid_c h2
    omega
theorem FirstE.same {a b : Sc} {k : Int} (h : FirstE a b k 0) (hk : k = -1) : a = b := by
  rcases h with ⟨h1, h2, h3⟩ | ⟨h1, h2, h3, ⟨h4, h5⟩ | ⟨n, h4, h5, h6, h7⟩⟩
  · omega
  · have := h5 (max a.c.length b.c.length) (Nat.le_refl _)
    rwa [part_full h1 (by omega), part_full h2 (by omega)] at this
  · omega
theorem FirstE.other {a b : Sc} {k : Int} (h : FirstE a b k 0) (hk : k ≠ -1) : a ≠ b := by
  rcases h with ⟨h1, h2, h3⟩ | ⟨h1, h2, h3, ⟨h4, h5⟩ | ⟨n, h4, h5, h6, h7⟩⟩
  · omega
  · exact absurd h4 hk
  · intro e
    subst e
    exact h6 rfl
/-- Below the first difference the parts are equal. -/
theorem FirstE.agree {a b : Sc} {k : Int} (h : FirstE a b k 0) (j : Nat) (hj : (j : Int) < farI k) : partS a j = partS b j := by
  rcases h with ⟨h1, h2, h3⟩ | ⟨h1, h2, h3, ⟨h4, h5⟩ | ⟨n, h4, h5, h6, h7⟩⟩
  · omega
  · rw [FirstE.same (.inr ⟨h1, h2, h3, .inl ⟨h4, h5⟩⟩) h4]
  · unfold farI at hj
    rw [if_neg (by omega)] at hj
    exact h7 j (by omega)
theorem FirstE.tri {a b c : Sc} {x z u : Int} (h1 : FirstE a b x 0) (h2 : FirstE b c z 0) (h3 : FirstE a c u 0) : farI x ≤ farI u ∨ farI z ≤ farI u := by
  have r1 := h1.range
  have r2 := h2.range
  by_cases hu : u = -1
  · have e : farI u = 1000 := by unfold farI; rw [if_pos (by omega)]
    rw [e]
    unfold farI
    split <;> omega
  · rcases h3 with ⟨g1, g2, g3⟩ | ⟨g1, g2, g3, ⟨g4, g5⟩ | ⟨n, g4, g5, g6, g7⟩⟩
    · omega
    · exact absurd g4 hu
    · have e : farI u = n := by unfold farI; rw [if_neg (by omega)]; exact g4
      rw [e]
      rcases Int.lt_or_le (n : Int) (farI x) with h | h
      · rcases Int.lt_or_le (n : Int) (farI z) with h' | h'
        · exact absurd ((h1.agree n h).trans (h2.agree n h')) g6
        · exact .inr h'
      · exact .inl h
end Go.Sc
