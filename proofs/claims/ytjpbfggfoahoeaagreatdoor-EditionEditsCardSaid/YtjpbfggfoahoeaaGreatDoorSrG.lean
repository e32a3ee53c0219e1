/- slices.symMergeCmpFunc at pairs. slices.symMergeCmpFunc at pairs: the second arm, and whole. -/
import Derived.Test.YtjpbfggfoahoeaaGreatDoorSrE
namespace Go.Sc
open Go.RowKit Go.Proofs

/-- What is said of a merge to depth k. -/
def SymAt (k : Nat) : Prop := ∀ (g cap nl : Nat) (l : List Pr) (a m b : Nat) (x y z : Int) (w : World), PRow w g cap l → l.length = nl → a < m → m < b → b ≤ nl → nl ≤ 1000000 → b - a ≤ k → x = a → y = m → z = b →
    Calls Tryz.prog 73 #[.slice (some ⟨g, 0, none⟩) nl cap, .int .i64 x, .int .i64 y, .int .i64 z, .func (.func 30) #[] #[]] w fun e w' => e = .returned (.tuple #[]) ∧ PRow w' g cap (So.sym ltQ k a m b l) ∧ Just g w w'
theorem rot_at (g cap nl : Nat) (l : List Pr) (hn : l.length = nl) (s m e : Nat) (x y z : Int) (f : Value) (w : World) (h : PRow w g cap l) (hs : s < m) (hm : m < e) (he : e ≤ nl) (hx : x = s) (hy : y = m) (hz : z = e) :
    Calls Tryz.prog 91 #[.slice (some ⟨g, 0, none⟩) nl cap, .int .i64 x, .int .i64 y, .int .i64 z, f] w fun x w' => x = .returned (.tuple #[]) ∧ PRow w' g cap (So.rot m (e - s) (m - s) (e - m) l) ∧ Just g w w' := by
  subst hn hx hy hz
  exact rot_any g cap l s m e f w h hs hm he
theorem sym_eq (lt : Pr → Pr → Bool) (k a m b : Nat) (l : List Pr) (s : Nat) (h1 : ¬ m - a = 1) (h2 : ¬ b - m = 1) (hs : So.cut lt a m b l = s) :
    So.sym lt (k + 1) a m b l = if (a + b) / 2 < (a + b) / 2 + m - s then (if (a + b) / 2 + m - s < b then So.sym lt k ((a + b) / 2) ((a + b) / 2 + m - s) b (if a < s then (if s < (a + b) / 2 then So.sym lt k a s ((a + b) / 2) (So.turn s m ((a + b) / 2 + m - s) l) else So.turn s m ((a + b) / 2 + m - s) l) else So.turn s m ((a + b) / 2 + m - s) l) else (if a < s then (if s < (a + b) / 2 then So.sym lt k a s ((a + b) / 2) (So.turn s m ((a + b) / 2 + m - s) l) else So.turn s m ((a + b) / 2 + m - s) l) else So.turn s m ((a + b) / 2 + m - s) l)) else (if a < s then (if s < (a + b) / 2 then So.sym lt k a s ((a + b) / 2) (So.turn s m ((a + b) / 2 + m - s) l) else So.turn s m ((a + b) / 2 + m - s) l) else So.turn s m ((a + b) / 2 + m - s) l) := by
  rw [So.sym, if_neg h1, if_neg h2, hs]

set_option maxRecDepth 100000 in
set_option maxHeartbeats 8000000 in
theorem symU (k : Nat) (ih : SymAt k) (g cap : Nat) (l : List Pr) (a m b : Nat) (w : World) (h : PRow w g cap l) (ha : a + 1 < m) (hb : m + 1 < b) (hl : b ≤ l.length) (hsz : l.length ≤ 1000000) (hk : b - a ≤ k + 1) (hmid : (a + b) / 2 < m) :
    Calls Tryz.prog 73 #[.slice (some ⟨g, 0, none⟩) l.length cap, .int .i64 a, .int .i64 m, .int .i64 b, .func (.func 30) #[] #[]] w fun x w' => x = .returned (.tuple #[]) ∧ PRow w' g cap (So.sym ltQ (k + 1) a m b l) ∧ Just g w w' := by
  have HN : Hid (PRow w g cap l) := h
  have IH : Aside _ := ih
  clear h ih
  obtain ⟨z, hz⟩ : ∃ z, So.cut ltQ a m b l = z := ⟨_, rfl⟩
  rw [sym_eq ltQ k a m b l z (by omega) (by omega) hz]
  have HZ : Hid (So.look (fun c => !So.less ltQ l ((a + b) / 2 + m - 1 - c) c) b ((a + b) / 2 + m - b) ((a + b) / 2) = z) := by
    show _ = _
    rw [← hz]
    unfold So.cut
    rw [if_pos hmid]
  obtain ⟨e, he⟩ : ∃ e, (a + b) / 2 + m - z = e := ⟨_, rfl⟩
  rw [he]
  have HE := Lib.hid he
  clear hz he
  have z8 : ((m : Int) - a == 1) = false := beq_eq_false_iff_ne.2 (by omega)
  have z9 : ((b : Int) - m == 1) = false := beq_eq_false_iff_ne.2 (by omega)
  have zm : ((a : Int) + b) / 2 < m := by omega
  go_enter Tryz.func73, Tryz.ntmps73
  go_wp2
  go_loopw [20, 21] (fun v u wr => ∃ (i j q : Nat), v = .int .i64 i ∧ u = .int .i64 j ∧ (a + b) / 2 + m - b ≤ i ∧ i ≤ j ∧ j ≤ (a + b) / 2 ∧ j - i ≤ q ∧ Hid (So.look (fun c => !So.less ltQ l ((a + b) / 2 + m - 1 - c) c) q i j = z) ∧ Hid (PRow wr g cap l) ∧ Hid (Just g w wr)) (fun v u _ => (intOf u).toNat - (intOf v).toNat)
  case atStart => exact ⟨(a + b) / 2 + m - b, (a + b) / 2, b, by go_num, by go_num, by omega, by omega, by omega, by omega, HZ.out, HN.out, Just.refl _ _⟩
  case round =>
    obtain ⟨i, j, q, rfl, rfl, hmi, hij, hjb, hq, HS, HR, HJ⟩ := hrel
    by_cases hlt : i < j
    · obtain ⟨q, rfl⟩ : ∃ r, q = r + 1 := ⟨q - 1, by omega⟩
      obtain ⟨y, hy⟩ := get_of_lt (show (i + j) / 2 < l.length by omega)
      obtain ⟨x, hx⟩ := get_of_lt (show (a + b) / 2 + m - 1 - (i + j) / 2 < l.length by omega)
      have HRA := Lib.hid (HR.out.drew.range hx)
      have HRB := Lib.hid (HR.out.drew.range hy)
      obtain ⟨c, hc⟩ : ∃ c, orI (cmpI x.a y.a) (cmpI x.b y.b) = c := ⟨_, rfl⟩
      have HL : Hid (So.less ltQ l ((a + b) / 2 + m - 1 - (i + j) / 2) ((i + j) / 2) = decide (c < 0)) := by show _ = _; rw [So.less_of hx hy]; unfold ltQ; rw [hc]
      have hcm := fun w0 => cmpQ_any x y w0
      rw [hc] at hcm
      have HCM : Aside _ := hcm
      clear hcm hc hx hy
      have HT := Lib.hid (look_step (fun c => !So.less ltQ l ((a + b) / 2 + m - 1 - c) c) q i j hlt)
      have q3 : ((i : Int) + j) / 2 < (l.length : Int) := by omega
      have q4 : (0 : Int) ≤ ((i : Int) + j) / 2 := by omega
      have q5 : (((i : Int) + j) / 2).toNat = (i + j) / 2 := by omega
      have q6 : ((i : Int) + j) / 2 ≤ ((a : Int) + b) / 2 + m - 1 := by omega
      have q7 : ((a : Int) + b) / 2 + m - 1 - ((i : Int) + j) / 2 < (l.length : Int) := by omega
      have q8 : (((a : Int) + b) / 2 + m - 1 - ((i : Int) + j) / 2).toNat = (a + b) / 2 + m - 1 - (i + j) / 2 := by omega
      have q9 : IntKind.i64.wrap (((a : Int) + b) / 2 + m - 1 - ((i : Int) + j) / 2) = ((a : Int) + b) / 2 + m - 1 - ((i : Int) + j) / 2 := IntWalk.i64_in _ (by omega)
      go_wp2
      refine wp_region_still_tail 11 (by kernel_rfl) (by kernel_rfl) ?_
      simp only [List.take_succ_cons, List.take_zero, List.drop_succ_cons, List.drop_zero]
      change wpStill _ _ wr.drew _ _ _
      iterate 6 still_step
      refine still_load_g rfl 43 (.tmp 163) rfl g (((a + b) / 2 + m - 1 - (i + j) / 2) * 9) ?_ _ _ HRA.out Tryz.underlying43 rfl (by kernel_rfl) ?_
      · rfl
      iterate 3 still_step
      refine still_load_g rfl 43 (.tmp 167) rfl g ((i + j) / 2 * 9) ?_ _ _ HRB.out Tryz.underlying43 rfl (by kernel_rfl) ?_
      · rfl
      refine wpStill_nil ?_
      change wpList _ _ _ _ _ wr.drew
      have HR3 : Hid (PRow wr.drew g cap l) := HR.out.drew
      have HJ3 : Hid (Just g w wr.drew) := HJ.out.drew
      clear HRA HRB q6 q7 q8 q9
      generalize wr.drew = W2 at *
      by_cases hlv : c < 0
      · go_wp2_with (go_at_call 30; refine (HCM.out _).mono ?_; rintro e w' ⟨rfl, hb2⟩; have HR4 := Lib.hid (HR3.out.keep hb2); have HJ4 := Lib.hid (HJ3.out.trans (Just.of hb2)); clear hb2)
        go_roundw
        case rel =>
          refine ⟨i, (i + j) / 2, q, rfl, by go_num, by omega, by omega, by omega, by omega, ?_, HR4.out, HJ4.out⟩
          show _ = _
          rw [← HS.out, HT.out, HL.out, decide_eq_true hlv, if_neg (by decide)]
        case measure => simp [intOf] <;> omega
      · have hdc : decide (c < 0) = false := decide_eq_false hlv
        go_wp2_with (go_at_call 30; refine (HCM.out _).mono ?_; rintro e w' ⟨rfl, hb2⟩; have HR4 := Lib.hid (HR3.out.keep hb2); have HJ4 := Lib.hid (HJ3.out.trans (Just.of hb2)); clear hb2)
        go_roundw
        case rel =>
          refine ⟨(i + j) / 2 + 1, j, q, by go_num, rfl, by omega, by omega, by omega, by omega, ?_, HR4.out, HJ4.out⟩
          show _ = _
          rw [← HS.out, HT.out, HL.out, decide_eq_false (show ¬ c < 0 by omega), if_pos (by decide)]
        case measure => simp [intOf] <;> omega
    · obtain rfl : i = j := by omega
      have hiz : i = z := by rw [← HS.out, look_done _ _ _ _ (Nat.le_refl _)]
      subst hiz
      clear HS HZ
      have p1 : a ≤ i := by omega
      have p2 : i ≤ m := by omega
      have p3 : i ≤ (a + b) / 2 := by omega
      have p4 : (a + b) / 2 + m - i ≤ b := by omega
      have p5 : IntKind.i64.wrap (((a : Int) + b) / 2 + m - i) = ((a : Int) + b) / 2 + m - i := IntWalk.i64_in _ (by omega)
      have he := HE.out
      go_wp2_with (first
        | (go_at_call 91; refine (rot_at g cap _ l rfl i m e _ _ _ _ _ HR.out (by omega) (by omega) (by omega) (by omega) (by omega) (by omega)).mono ?_; rintro x w' ⟨rfl, hr, hj⟩; have HRa := Lib.hid hr; have HJa := Lib.hid hj; clear hr hj)
        | (go_at_call 73; refine (IH.out g cap _ _ a i ((a + b) / 2) _ _ _ _ (by first | exact HRa.out | exact HR.out) (by first | exact (So.perm_rot _ _ _ _ _).length_eq | rfl) (by omega) (by omega) (by omega) hsz (by omega) (by omega) (by omega) (by omega)).mono ?_; rintro x w' ⟨rfl, hr, hj⟩; have HRb := Lib.hid hr; have HJb := Lib.hid hj; clear hr hj)
        | (go_at_call 73; refine (IH.out g cap _ _ ((a + b) / 2) e b _ _ _ _ (by first | exact HRb.out | exact HRa.out | exact HR.out) (by first | exact ((So.perm_sym _ _ _ _ _ _).trans (So.perm_rot _ _ _ _ _)).length_eq | exact (So.perm_sym _ _ _ _ _ _).length_eq | exact (So.perm_rot _ _ _ _ _).length_eq | rfl) (by omega) (by omega) (by omega) hsz (by omega) (by omega) (by omega) (by omega)).mono ?_; rintro x w' ⟨rfl, hr, hj⟩; have HRc := Lib.hid hr; have HJc := Lib.hid hj; clear hr hj))
      all_goals (
        go_end0
        refine ⟨rfl, ?_, by first | exact (((HJ.out).trans HJa.out).trans HJb.out).trans HJc.out | exact ((HJ.out).trans HJa.out).trans HJb.out | exact ((HJ.out).trans HJa.out).trans HJc.out | exact ((HJ.out).trans HJb.out).trans HJc.out | exact (HJ.out).trans HJa.out | exact (HJ.out).trans HJb.out | exact (HJ.out).trans HJc.out | exact HJ.out⟩
        unfold So.turn
        (repeat' split) <;> first | exact HRc.out | exact HRb.out | exact HRa.out | exact HR.out | (exfalso; omega))
end Go.Sc

/-! slices.symMergeCmpFunc at pairs: the second arm, and whole. -/
namespace Go.Sc
open Go.RowKit Go.Proofs

set_option maxRecDepth 100000 in
set_option maxHeartbeats 8000000 in
theorem symD (k : Nat) (ih : SymAt k) (g cap : Nat) (l : List Pr) (a m b : Nat) (w : World) (h : PRow w g cap l) (ha : a + 1 < m) (hb : m + 1 < b) (hl : b ≤ l.length) (hsz : l.length ≤ 1000000) (hk : b - a ≤ k + 1) (hmid : ¬ (a + b) / 2 < m) :
    Calls Tryz.prog 73 #[.slice (some ⟨g, 0, none⟩) l.length cap, .int .i64 a, .int .i64 m, .int .i64 b, .func (.func 30) #[] #[]] w fun x w' => x = .returned (.tuple #[]) ∧ PRow w' g cap (So.sym ltQ (k + 1) a m b l) ∧ Just g w w' := by
  have HN : Hid (PRow w g cap l) := h
  have IH : Aside _ := ih
  clear h ih
  obtain ⟨z, hz⟩ : ∃ z, So.cut ltQ a m b l = z := ⟨_, rfl⟩
  rw [sym_eq ltQ k a m b l z (by omega) (by omega) hz]
  have HZ : Hid (So.look (fun c => !So.less ltQ l ((a + b) / 2 + m - 1 - c) c) b (a) (m) = z) := by
    show _ = _
    rw [← hz]
    unfold So.cut
    rw [if_neg hmid]
  obtain ⟨e, he⟩ : ∃ e, (a + b) / 2 + m - z = e := ⟨_, rfl⟩
  rw [he]
  have HE := Lib.hid he
  clear hz he
  have z8 : ((m : Int) - a == 1) = false := beq_eq_false_iff_ne.2 (by omega)
  have z9 : ((b : Int) - m == 1) = false := beq_eq_false_iff_ne.2 (by omega)
  have zm : ¬ ((a : Int) + b) / 2 < m := by omega
  go_enter Tryz.func73, Tryz.ntmps73
  go_wp2
  go_loopw [20, 21] (fun v u wr => ∃ (i j q : Nat), v = .int .i64 i ∧ u = .int .i64 j ∧ a ≤ i ∧ i ≤ j ∧ j ≤ m ∧ j - i ≤ q ∧ Hid (So.look (fun c => !So.less ltQ l ((a + b) / 2 + m - 1 - c) c) q i j = z) ∧ Hid (PRow wr g cap l) ∧ Hid (Just g w wr)) (fun v u _ => (intOf u).toNat - (intOf v).toNat)
  case atStart => exact ⟨a, m, b, by go_num, by go_num, by omega, by omega, by omega, by omega, HZ.out, HN.out, Just.refl _ _⟩
  case round =>
    obtain ⟨i, j, q, rfl, rfl, hmi, hij, hjb, hq, HS, HR, HJ⟩ := hrel
    by_cases hlt : i < j
    · obtain ⟨q, rfl⟩ : ∃ r, q = r + 1 := ⟨q - 1, by omega⟩
      obtain ⟨y, hy⟩ := get_of_lt (show (i + j) / 2 < l.length by omega)
      obtain ⟨x, hx⟩ := get_of_lt (show (a + b) / 2 + m - 1 - (i + j) / 2 < l.length by omega)
      have HRA := Lib.hid (HR.out.drew.range hx)
      have HRB := Lib.hid (HR.out.drew.range hy)
      obtain ⟨c, hc⟩ : ∃ c, orI (cmpI x.a y.a) (cmpI x.b y.b) = c := ⟨_, rfl⟩
      have HL : Hid (So.less ltQ l ((a + b) / 2 + m - 1 - (i + j) / 2) ((i + j) / 2) = decide (c < 0)) := by show _ = _; rw [So.less_of hx hy]; unfold ltQ; rw [hc]
      have hcm := fun w0 => cmpQ_any x y w0
      rw [hc] at hcm
      have HCM : Aside _ := hcm
      clear hcm hc hx hy
      have HT := Lib.hid (look_step (fun c => !So.less ltQ l ((a + b) / 2 + m - 1 - c) c) q i j hlt)
      have q3 : ((i : Int) + j) / 2 < (l.length : Int) := by omega
      have q4 : (0 : Int) ≤ ((i : Int) + j) / 2 := by omega
      have q5 : (((i : Int) + j) / 2).toNat = (i + j) / 2 := by omega
      have q6 : ((i : Int) + j) / 2 ≤ ((a : Int) + b) / 2 + m - 1 := by omega
      have q7 : ((a : Int) + b) / 2 + m - 1 - ((i : Int) + j) / 2 < (l.length : Int) := by omega
      have q8 : (((a : Int) + b) / 2 + m - 1 - ((i : Int) + j) / 2).toNat = (a + b) / 2 + m - 1 - (i + j) / 2 := by omega
      have q9 : IntKind.i64.wrap (((a : Int) + b) / 2 + m - 1 - ((i : Int) + j) / 2) = ((a : Int) + b) / 2 + m - 1 - ((i : Int) + j) / 2 := IntWalk.i64_in _ (by omega)
      go_wp2
      refine wp_region_still_tail 11 (by kernel_rfl) (by kernel_rfl) ?_
      simp only [List.take_succ_cons, List.take_zero, List.drop_succ_cons, List.drop_zero]
      change wpStill _ _ wr.drew _ _ _
      iterate 6 still_step
      refine still_load_g rfl 43 (.tmp 163) rfl g (((a + b) / 2 + m - 1 - (i + j) / 2) * 9) ?_ _ _ HRA.out Tryz.underlying43 rfl (by kernel_rfl) ?_
      · rfl
      iterate 3 still_step
      refine still_load_g rfl 43 (.tmp 167) rfl g ((i + j) / 2 * 9) ?_ _ _ HRB.out Tryz.underlying43 rfl (by kernel_rfl) ?_
      · rfl
      refine wpStill_nil ?_
      change wpList _ _ _ _ _ wr.drew
      have HR3 : Hid (PRow wr.drew g cap l) := HR.out.drew
      have HJ3 : Hid (Just g w wr.drew) := HJ.out.drew
      clear HRA HRB q6 q7 q8 q9
      generalize wr.drew = W2 at *
      by_cases hlv : c < 0
      · go_wp2_with (go_at_call 30; refine (HCM.out _).mono ?_; rintro e w' ⟨rfl, hb2⟩; have HR4 := Lib.hid (HR3.out.keep hb2); have HJ4 := Lib.hid (HJ3.out.trans (Just.of hb2)); clear hb2)
        go_roundw
        case rel =>
          refine ⟨i, (i + j) / 2, q, rfl, by go_num, by omega, by omega, by omega, by omega, ?_, HR4.out, HJ4.out⟩
          show _ = _
          rw [← HS.out, HT.out, HL.out, decide_eq_true hlv, if_neg (by decide)]
        case measure => simp [intOf] <;> omega
      · have hdc : decide (c < 0) = false := decide_eq_false hlv
        go_wp2_with (go_at_call 30; refine (HCM.out _).mono ?_; rintro e w' ⟨rfl, hb2⟩; have HR4 := Lib.hid (HR3.out.keep hb2); have HJ4 := Lib.hid (HJ3.out.trans (Just.of hb2)); clear hb2)
        go_roundw
        case rel =>
          refine ⟨(i + j) / 2 + 1, j, q, by go_num, rfl, by omega, by omega, by omega, by omega, ?_, HR4.out, HJ4.out⟩
          show _ = _
          rw [← HS.out, HT.out, HL.out, decide_eq_false (show ¬ c < 0 by omega), if_pos (by decide)]
        case measure => simp [intOf] <;> omega
    · obtain rfl : i = j := by omega
      have hiz : i = z := by rw [← HS.out, look_done _ _ _ _ (Nat.le_refl _)]
      subst hiz
      clear HS HZ
      have p1 : a ≤ i := by omega
      have p2 : i ≤ m := by omega
      have p3 : i ≤ (a + b) / 2 := by omega
      have p4 : (a + b) / 2 + m - i ≤ b := by omega
      have p5 : IntKind.i64.wrap (((a : Int) + b) / 2 + m - i) = ((a : Int) + b) / 2 + m - i := IntWalk.i64_in _ (by omega)
      have he := HE.out
      go_wp2_with (first
        | (go_at_call 91; refine (rot_at g cap _ l rfl i m e _ _ _ _ _ HR.out (by omega) (by omega) (by omega) (by omega) (by omega) (by omega)).mono ?_; rintro x w' ⟨rfl, hr, hj⟩; have HRa := Lib.hid hr; have HJa := Lib.hid hj; clear hr hj)
        | (go_at_call 73; refine (IH.out g cap _ _ a i ((a + b) / 2) _ _ _ _ (by first | exact HRa.out | exact HR.out) (by first | exact (So.perm_rot _ _ _ _ _).length_eq | rfl) (by omega) (by omega) (by omega) hsz (by omega) (by omega) (by omega) (by omega)).mono ?_; rintro x w' ⟨rfl, hr, hj⟩; have HRb := Lib.hid hr; have HJb := Lib.hid hj; clear hr hj)
        | (go_at_call 73; refine (IH.out g cap _ _ ((a + b) / 2) e b _ _ _ _ (by first | exact HRb.out | exact HRa.out | exact HR.out) (by first | exact ((So.perm_sym _ _ _ _ _ _).trans (So.perm_rot _ _ _ _ _)).length_eq | exact (So.perm_sym _ _ _ _ _ _).length_eq | exact (So.perm_rot _ _ _ _ _).length_eq | rfl) (by omega) (by omega) (by omega) hsz (by omega) (by omega) (by omega) (by omega)).mono ?_; rintro x w' ⟨rfl, hr, hj⟩; have HRc := Lib.hid hr; have HJc := Lib.hid hj; clear hr hj))
      all_goals (
        go_end0
        refine ⟨rfl, ?_, by first | exact (((HJ.out).trans HJa.out).trans HJb.out).trans HJc.out | exact ((HJ.out).trans HJa.out).trans HJb.out | exact ((HJ.out).trans HJa.out).trans HJc.out | exact ((HJ.out).trans HJb.out).trans HJc.out | exact (HJ.out).trans HJa.out | exact (HJ.out).trans HJb.out | exact (HJ.out).trans HJc.out | exact HJ.out⟩
        unfold So.turn
        (repeat' split) <;> first | exact HRc.out | exact HRb.out | exact HRa.out | exact HR.out | (exfalso; omega))

theorem sym_any : ∀ k : Nat, SymAt k
  | 0 => fun g cap nl l a m b x y z w h hn ha hm hb hs hk hx hy hz => by omega
  | k + 1 => fun g cap nl l a m b x y z w h hn ha hm hb hs hk hx hy hz => by
    subst hn hx hy hz
    by_cases h1 : m = a + 1
    · have := symA_any g cap l a m b w h h1 hm hb hs
      rw [So.sym, if_pos (show m - a = 1 by omega)]
      exact this
    · by_cases h2 : b = m + 1
      · have := symB_any g cap l a m b w h (by omega) h2 hb hs
        rw [So.sym, if_neg (show ¬ m - a = 1 by omega), if_pos (show b - m = 1 by omega)]
        exact this
      · by_cases h3 : (a + b) / 2 < m
        · exact symU k (sym_any k) g cap l a m b w h (by omega) (by omega) hb hs hk h3
        · exact symD k (sym_any k) g cap l a m b w h (by omega) (by omega) hb hs hk h3
end Go.Sc
