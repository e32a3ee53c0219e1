/- slices.symMergeCmpFunc at pairs: a run of one element, in front or behind. -/
import Derived.Test.YtjpbfggfoahoeaaGreatDoorSrD
namespace Go.Sc
open Go.RowKit Go.Proofs

theorem look_done (t : Nat → Bool) (k i j : Nat) (h : j ≤ i) : So.look t k i j = i := by
  cases k with
  | zero => rfl
  | succ k => unfold So.look; rw [if_neg (by omega)]
theorem look_step (t : Nat → Bool) (k i j : Nat) (h : i < j) : So.look t (k + 1) i j = if t ((i + j) / 2) then So.look t k ((i + j) / 2 + 1) j else So.look t k i ((i + j) / 2) := by
  rw [So.look, if_pos h]

set_option maxRecDepth 100000 in
set_option maxHeartbeats 8000000 in
theorem symA_any (g cap : Nat) (l : List Pr) (a m b : Nat) (w : World) (h : PRow w g cap l) (ha : m = a + 1) (hb : m < b) (hl : b ≤ l.length) (hsz : l.length ≤ 1000000) :
    Calls Tryz.prog 73 #[.slice (some ⟨g, 0, none⟩) l.length cap, .int .i64 a, .int .i64 m, .int .i64 b, .func (.func 30) #[] #[]] w fun x w' => x = .returned (.tuple #[]) ∧ PRow w' g cap (So.upR (So.look (fun h => So.less ltQ l h a) b m b - 1 - a) a l) ∧ Just g w w' := by
  have HN : Hid (PRow w g cap l) := h
  clear h
  subst ha
  have hcast : ((a + 1 : Nat) : Int) = (a : Int) + 1 := rfl
  rw [hcast]
  clear hcast
  have HD : ∃ z, So.look (fun h => So.less ltQ l h a) b (a + 1) b = z := ⟨_, rfl⟩
  obtain ⟨z, hz⟩ := HD
  rw [hz]
  have HZ := Lib.hid hz
  clear hz
  obtain ⟨y, hy⟩ := get_of_lt (show a < l.length by omega)
  have HY := Lib.hid hy
  clear hy
  have z0 : (a : Int) + 1 - a = 1 := by omega
  go_enter Tryz.func73, Tryz.ntmps73
  go_wp2
  go_loopw [10, 11] (fun v u wr => ∃ (i j k : Nat), v = .int .i64 i ∧ u = .int .i64 j ∧ a + 1 ≤ i ∧ i ≤ j ∧ j ≤ b ∧ j - i ≤ k ∧ Hid (So.look (fun h => So.less ltQ l h a) k i j = z) ∧ Hid (PRow wr g cap l) ∧ Hid (Just g w wr)) (fun v u _ => (intOf u).toNat - (intOf v).toNat)
  case atStart => exact ⟨a + 1, b, b, rfl, rfl, Nat.le_refl _, by omega, Nat.le_refl _, by omega, HZ.out, HN.out, Just.refl _ _⟩
  case round =>
    obtain ⟨i, j, k, rfl, rfl, hmi, hij, hjb, hk, HS, HR, HJ⟩ := hrel
    by_cases hlt : i < j
    · obtain ⟨k, rfl⟩ : ∃ q, k = q + 1 := ⟨k - 1, by omega⟩
      obtain ⟨x, hx⟩ := get_of_lt (show (i + j) / 2 < l.length by omega)
      have HRA := Lib.hid (HR.out.drew.range hx)
      have HRB := Lib.hid (HR.out.drew.range HY.out)
      obtain ⟨c, hc⟩ : ∃ c, orI (cmpI x.a y.a) (cmpI x.b y.b) = c := ⟨_, rfl⟩
      have HL : Hid (So.less ltQ l ((i + j) / 2) a = decide (c < 0)) := by show _ = _; rw [So.less_of hx HY.out]; unfold ltQ; rw [hc]
      have hcm := fun w0 => cmpQ_any x y w0
      rw [hc] at hcm
      have HCM : Aside _ := hcm
      clear hcm hc hx
      have HT := Lib.hid (look_step (fun h => So.less ltQ l h a) k i j hlt)
      have q3 : ((i : Int) + j) / 2 < (l.length : Int) := by omega
      have q4 : (0 : Int) ≤ ((i : Int) + j) / 2 := by omega
      have q5 : (((i : Int) + j) / 2).toNat = (i + j) / 2 := by omega
      have q6 : a < l.length := by omega
      go_wp2
      refine wp_region_still_tail 9 (by kernel_rfl) (by kernel_rfl) ?_
      simp only [List.take_succ_cons, List.take_zero, List.drop_succ_cons, List.drop_zero]
      change wpStill _ _ wr.drew _ _ _
      iterate 4 still_step
      refine still_load_g rfl 43 (.tmp 43) rfl g ((i + j) / 2 * 9) ?_ _ _ HRA.out Tryz.underlying43 rfl (by kernel_rfl) ?_
      · rfl
      iterate 3 still_step
      refine still_load_g rfl 43 (.tmp 47) rfl g (a * 9) ?_ _ _ HRB.out Tryz.underlying43 rfl (by kernel_rfl) ?_
      · rfl
      refine wpStill_nil ?_
      change wpList _ _ _ _ _ wr.drew
      have HR3 : Hid (PRow wr.drew g cap l) := HR.out.drew
      have HJ3 : Hid (Just g w wr.drew) := HJ.out.drew
      clear HRA HRB
      generalize wr.drew = W2 at *
      by_cases hlv : c < 0
      · go_wp2_with (go_at_call 30; refine (HCM.out _).mono ?_; rintro e w' ⟨rfl, hb2⟩; have HR4 := Lib.hid (HR3.out.keep hb2); have HJ4 := Lib.hid (HJ3.out.trans (Just.of hb2)); clear hb2)
        go_roundw
        case rel =>
          refine ⟨(i + j) / 2 + 1, j, k, by go_num, rfl, by omega, by omega, hjb, by omega, ?_, HR4.out, HJ4.out⟩
          show _ = _
          rw [← HS.out, HT.out, HL.out, decide_eq_true hlv, if_pos rfl]
        case measure => simp [intOf] <;> omega
      · go_wp2_with (go_at_call 30; refine (HCM.out _).mono ?_; rintro e w' ⟨rfl, hb2⟩; have HR4 := Lib.hid (HR3.out.keep hb2); have HJ4 := Lib.hid (HJ3.out.trans (Just.of hb2)); clear hb2)
        go_roundw
        case rel =>
          refine ⟨i, (i + j) / 2, k, rfl, by go_num, by omega, by omega, by omega, by omega, ?_, HR4.out, HJ4.out⟩
          show _ = _
          rw [← HS.out, HT.out, HL.out, decide_eq_false (show ¬ c < 0 by omega), if_neg Bool.false_ne_true]
        case measure => simp [intOf] <;> omega
    · obtain rfl : i = j := by omega
      have hiz : i = z := by rw [← HS.out, look_done _ _ _ _ (Nat.le_refl _)]
      subst hiz
      have z1 : IntKind.i64.wrap ((i : Int) - 1) = (i : Int) - 1 := IntWalk.i64_in _ (by omega)
      go_wp2
      go_loopw [13] (fun v wr => ∃ (q : Nat) (lq : List Pr), a ≤ q ∧ q + 1 ≤ i ∧ v = .int .i64 q ∧ lq.length = l.length ∧ Hid (So.upR (i - 1 - q) q lq = So.upR (i - 1 - a) a l) ∧ Hid (PRow wr g cap lq) ∧ Hid (Just g w wr)) (fun v _ => i - (intOf v).toNat)
      case atStart => exact ⟨a, l, Nat.le_refl _, by omega, rfl, rfl, rfl, HR.out, HJ.out⟩
      case round =>
        obtain ⟨q, lq, haq, hqi, rfl, hlq, HSq, HRq, HJq⟩ := hrel
        by_cases hql : q + 1 < i
        · have hqz : (q : Int) < (i : Int) - 1 := by omega
          obtain ⟨x, hx⟩ := get_of_lt (show q < lq.length by omega)
          obtain ⟨u, hu⟩ := get_of_lt (show q + 1 < lq.length by omega)
          have q1 : IntKind.i64.wrap (q : Int) = (q : Int) := IntWalk.i64_in _ (by omega)
          have q2 : (q : Int) < (l.length : Int) := by omega
          have q3 : (q : Int) + 1 < (l.length : Int) := by omega
          have q4 : (0 : Int) ≤ (q : Int) + 1 := by omega
          have q5 : ((q : Int) + 1).toNat = q + 1 := by omega
          have q6 : IntKind.i64.wrap ((q : Int) + 1) = (q : Int) + 1 := IntWalk.i64_in _ (by omega)
          go_wp2
          obtain ⟨k, hk⟩ : ∃ k, k = 9 := ⟨_, rfl⟩
          obtain ⟨hsw, hr2⟩ := HRq.out.drew.swaps hx hu hk
          have HR2 := Lib.hid hr2
          have HJ2 : Hid (Just g w ((wr.drew.setCells g (q * k) u.cells).setCells g ((q + 1) * k) x.cells)) := (HJq.out.drew.setCells _ _).setCells _ _
          have HK := Lib.hid hk
          clear hk hr2 hx hu
          generalize x.cells = cx at *
          generalize u.cells = cu at *
          generalize hP : Tryz.prog = P at *
          obtain ⟨t3, a3, z3, t23, a23, z23, a43, z43, kx, ky, l1, l2, s1, s2⟩ := hsw
          go_region
          subst hP
          clear t3 a3 z3 t23 a23 z23 a43 z43 kx ky l1 l2 s1 s2
          generalize World.setCells _ _ _ _ = W at *
          go_wp2
          go_roundw
          case rel =>
            refine ⟨q + 1, So.swp lq q (q + 1), by omega, by omega, by go_num, by rw [So.length_swp]; exact hlq, ?_, HR2.out, HJ2.out⟩
            show _ = _
            rw [← HSq.out, show i - 1 - q = i - 1 - (q + 1) + 1 by omega]
            rfl
          case measure => simp [intOf] <;> omega
        · have hqz : ¬ (q : Int) < (i : Int) - 1 := by omega
          go_wp2
          (try simp only [Exit.inBlock, Exit.then])
          refine bodyPost_ret (results_none rfl _ _ _) rfl ?_
          refine ⟨rfl, ?_, HJq.out⟩
          have h0 := HSq.out
          rw [show i - 1 - q = 0 by omega] at h0
          rw [← h0]
          exact HRq.out

set_option maxRecDepth 100000 in
set_option maxHeartbeats 8000000 in
theorem symB_any (g cap : Nat) (l : List Pr) (a m b : Nat) (w : World) (h : PRow w g cap l) (ha : a + 1 < m) (hb : b = m + 1) (hl : b ≤ l.length) (hsz : l.length ≤ 1000000) :
    Calls Tryz.prog 73 #[.slice (some ⟨g, 0, none⟩) l.length cap, .int .i64 a, .int .i64 m, .int .i64 b, .func (.func 30) #[] #[]] w fun x w' => x = .returned (.tuple #[]) ∧ PRow w' g cap (So.dnR (m - So.look (fun h => !So.less ltQ l m h) b a m) m l) ∧ Just g w w' := by
  have HN : Hid (PRow w g cap l) := h
  clear h
  subst hb
  have hcast : ((m + 1 : Nat) : Int) = (m : Int) + 1 := rfl
  rw [hcast]
  clear hcast
  have HD : ∃ z, So.look (fun h => !So.less ltQ l m h) (m + 1) a m = z := ⟨_, rfl⟩
  obtain ⟨z, hz⟩ := HD
  rw [hz]
  have HZ := Lib.hid hz
  clear hz
  obtain ⟨y, hy⟩ := get_of_lt (show m < l.length by omega)
  have HY := Lib.hid hy
  clear hy
  have z0 : (m : Int) + 1 - m = 1 := by omega
  have z9 : ((m : Int) - a == 1) = false := beq_eq_false_iff_ne.2 (by omega)
  go_enter Tryz.func73, Tryz.ntmps73
  go_wp2
  go_loopw [14, 15] (fun v u wr => ∃ (i j k : Nat), v = .int .i64 i ∧ u = .int .i64 j ∧ a ≤ i ∧ i ≤ j ∧ j ≤ m ∧ j - i ≤ k ∧ Hid (So.look (fun h => !So.less ltQ l m h) k i j = z) ∧ Hid (PRow wr g cap l) ∧ Hid (Just g w wr)) (fun v u _ => (intOf u).toNat - (intOf v).toNat)
  case atStart => exact ⟨a, m, m + 1, rfl, rfl, Nat.le_refl _, by omega, Nat.le_refl _, by omega, HZ.out, HN.out, Just.refl _ _⟩
  case round =>
    obtain ⟨i, j, k, rfl, rfl, hmi, hij, hjb, hk, HS, HR, HJ⟩ := hrel
    by_cases hlt : i < j
    · obtain ⟨k, rfl⟩ : ∃ q, k = q + 1 := ⟨k - 1, by omega⟩
      obtain ⟨x, hx⟩ := get_of_lt (show (i + j) / 2 < l.length by omega)
      have HRA := Lib.hid (HR.out.drew.range hx)
      have HRB := Lib.hid (HR.out.drew.range HY.out)
      obtain ⟨c, hc⟩ : ∃ c, orI (cmpI y.a x.a) (cmpI y.b x.b) = c := ⟨_, rfl⟩
      have HL : Hid (So.less ltQ l m ((i + j) / 2) = decide (c < 0)) := by show _ = _; rw [So.less_of HY.out hx]; unfold ltQ; rw [hc]
      have hcm := fun w0 => cmpQ_any y x w0
      rw [hc] at hcm
      have HCM : Aside _ := hcm
      clear hcm hc hx
      have HT := Lib.hid (look_step (fun h => !So.less ltQ l m h) k i j hlt)
      have q3 : ((i : Int) + j) / 2 < (l.length : Int) := by omega
      have q4 : (0 : Int) ≤ ((i : Int) + j) / 2 := by omega
      have q5 : (((i : Int) + j) / 2).toNat = (i + j) / 2 := by omega
      have q6 : m < l.length := by omega
      go_wp2
      refine wp_region_still_tail 9 (by kernel_rfl) (by kernel_rfl) ?_
      simp only [List.take_succ_cons, List.take_zero, List.drop_succ_cons, List.drop_zero]
      change wpStill _ _ wr.drew _ _ _
      iterate 4 still_step
      refine still_load_g rfl 43 (.tmp 95) rfl g (m * 9) ?_ _ _ HRB.out Tryz.underlying43 rfl (by kernel_rfl) ?_
      · rfl
      iterate 3 still_step
      refine still_load_g rfl 43 (.tmp 99) rfl g ((i + j) / 2 * 9) ?_ _ _ HRA.out Tryz.underlying43 rfl (by kernel_rfl) ?_
      · rfl
      refine wpStill_nil ?_
      change wpList _ _ _ _ _ wr.drew
      have HR3 : Hid (PRow wr.drew g cap l) := HR.out.drew
      have HJ3 : Hid (Just g w wr.drew) := HJ.out.drew
      clear HRA HRB
      generalize wr.drew = W2 at *
      by_cases hlv : c < 0
      · go_wp2_with (go_at_call 30; refine (HCM.out _).mono ?_; rintro e w' ⟨rfl, hb2⟩; have HR4 := Lib.hid (HR3.out.keep hb2); have HJ4 := Lib.hid (HJ3.out.trans (Just.of hb2)); clear hb2)
        go_roundw
        case rel =>
          refine ⟨i, (i + j) / 2, k, rfl, by go_num, by omega, by omega, by omega, by omega, ?_, HR4.out, HJ4.out⟩
          show _ = _
          rw [← HS.out, HT.out, HL.out, decide_eq_true hlv, if_neg (by decide)]
        case measure => simp [intOf] <;> omega
      · have hdc : decide (c < 0) = false := decide_eq_false hlv
        go_wp2_with (go_at_call 30; refine (HCM.out _).mono ?_; rintro e w' ⟨rfl, hb2⟩; have HR4 := Lib.hid (HR3.out.keep hb2); have HJ4 := Lib.hid (HJ3.out.trans (Just.of hb2)); clear hb2)
        go_roundw
        case rel =>
          refine ⟨(i + j) / 2 + 1, j, k, by go_num, rfl, by omega, by omega, by omega, by omega, ?_, HR4.out, HJ4.out⟩
          show _ = _
          rw [← HS.out, HT.out, HL.out, decide_eq_false (show ¬ c < 0 by omega), if_pos (by decide)]
        case measure => simp [intOf] <;> omega
    · obtain rfl : i = j := by omega
      have hiz : i = z := by rw [← HS.out, look_done _ _ _ _ (Nat.le_refl _)]
      subst hiz
      go_wp2
      go_loopw [17] (fun v wr => ∃ (q : Nat) (lq : List Pr), i ≤ q ∧ q ≤ m ∧ v = .int .i64 q ∧ lq.length = l.length ∧ Hid (So.dnR (q - i) q lq = So.dnR (m - i) m l) ∧ Hid (PRow wr g cap lq) ∧ Hid (Just g w wr)) (fun v _ => (intOf v).toNat)
      case atStart => exact ⟨m, l, by omega, Nat.le_refl _, rfl, rfl, rfl, HR.out, HJ.out⟩
      case round =>
        obtain ⟨q, lq, hiq, hqm, rfl, hlq, HSq, HRq, HJq⟩ := hrel
        by_cases hql : i < q
        · have hqz : (i : Int) < q := by omega
          obtain ⟨q, rfl⟩ : ∃ r, q = r + 1 := ⟨q - 1, by omega⟩
          obtain ⟨x, hx⟩ := get_of_lt (show q + 1 < lq.length by omega)
          obtain ⟨u, hu⟩ := get_of_lt (show q < lq.length by omega)
          have q1 : IntKind.i64.wrap (q : Int) = (q : Int) := IntWalk.i64_in _ (by omega)
          have q2 : (q : Int) < (l.length : Int) := by omega
          have q3 : (q : Int) + 1 < (l.length : Int) := by omega
          have q4 : (0 : Int) ≤ (q : Int) + 1 := by omega
          have q5 : ((q : Int) + 1).toNat = q + 1 := by omega
          have q6 : (i : Int) < (q : Int) + 1 := by omega
          go_wp2
          obtain ⟨k, hk⟩ : ∃ k, k = 9 := ⟨_, rfl⟩
          obtain ⟨hsw, hr2⟩ := HRq.out.drew.swaps hx hu hk
          have HR2 := Lib.hid hr2
          have HJ2 : Hid (Just g w ((wr.drew.setCells g ((q + 1) * k) u.cells).setCells g (q * k) x.cells)) := (HJq.out.drew.setCells _ _).setCells _ _
          have HK := Lib.hid hk
          clear hk hr2 hx hu
          generalize x.cells = cx at *
          generalize u.cells = cu at *
          generalize hP : Tryz.prog = P at *
          obtain ⟨t3, a3, z3, t23, a23, z23, a43, z43, kx, ky, l1, l2, s1, s2⟩ := hsw
          go_region
          subst hP
          clear t3 a3 z3 t23 a23 z23 a43 z43 kx ky l1 l2 s1 s2
          generalize World.setCells _ _ _ _ = W at *
          go_wp2
          go_roundw
          case rel =>
            refine ⟨q, So.swp lq (q + 1) q, by omega, by omega, by go_num, by rw [So.length_swp]; exact hlq, ?_, HR2.out, HJ2.out⟩
            show _ = _
            rw [← HSq.out, show q + 1 - i = q - i + 1 by omega]
            rfl
          case measure => simp [intOf] <;> omega
        · have hqz : ¬ (i : Int) < (q : Int) := by omega
          go_wp2
          (try simp only [Exit.inBlock, Exit.then])
          refine bodyPost_ret (results_none rfl _ _ _) rfl ?_
          refine ⟨rfl, ?_, HJq.out⟩
          have h0 := HSq.out
          rw [show q - i = 0 by omega] at h0
          rw [← h0]
          exact HRq.out
end Go.Sc
