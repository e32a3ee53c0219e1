/- potential.ranged, round. -/
import Derived.Test.YtpbpeoijejocaaaGreatDoorPtP
import Derived.Test.YtpbpeoijejocaaaGreatDoorPtB
import Derived.Test.YtpbpeoijejocaaaGreatDoorPtD
import Derived.LoopN
namespace Go.Sc
open Go.RowKit Go.Proofs

theorem less_any (x c : Int) (w : World) : Calls Tryz.prog 101 #[.int .i64 x, .int .i64 c] w fun e w' => e = .returned (.bool (decide (x < c))) ∧ w = w' := by
  go_enter Tryz.func101, Tryz.ntmps101
  go_wp2_with (go_at_call 77; refine (isNaN_any _ _).mono ?_; rintro e w' ⟨rfl, rfl⟩)
  all_goals
    go_ret
    exact ⟨by simp_all, rfl⟩
theorem snan_any (x : Int) (w : World) : Calls Tryz.prog 102 #[.int .i64 x] w fun e w' => e = .returned (.bool false) ∧ w = w' := by
  go_enter Tryz.func102, Tryz.ntmps102
  go_wp2
  go_ret
  exact ⟨by simp, rfl⟩
/-- Between which two places the search still looks. -/
def BetwI (l : List Int) (c : Int) (i j : Nat) : Prop := i ≤ j ∧ j ≤ l.length ∧ (∀ (k : Nat) (x : Int), k < i → l[k]? = some x → x < c) ∧ ∀ (k : Nat) (x : Int), j ≤ k → l[k]? = some x → c ≤ x
theorem rising_le {l : List Int} (h : rising ltI l) : ∀ (i j : Nat) (x y : Int), i ≤ j → l[i]? = some x → l[j]? = some y → x ≤ y := by
  intro i j
  induction j with
  | zero =>
    intro x y hij hx hy
    have e : i = 0 := by omega
    subst e
    rw [hx] at hy
    injection hy with hy
    omega
  | succ j ih =>
    intro x y hij hx hy
    by_cases e : i = j + 1
    · subst e
      rw [hx] at hy
      injection hy with hy
      omega
    · obtain ⟨z, hz⟩ := get_of_lt (l := l) (k := j) (by have := (List.getElem?_eq_some_iff.1 hy).1; omega)
      have h1 := ih x z (by omega) hx hz
      have h2 := h j z y hz hy
      unfold ltI at h2
      omega
set_option maxRecDepth 100000 in
set_option maxHeartbeats 4000000 in
theorem bsearch_any (o : Option Addr) (l : List Int) (cap : Nat) (c : Int) (w : World) (h : IntsAt w o l) (hl : l.length ≤ 140737488351232) (hs : rising ltI l) :
    Calls Tryz.prog 81 #[.slice o l.length cap, .int .i64 c] w fun e w' => ∃ (n : Nat) (b : Bool), BetwI l c n n ∧ e = .returned (.tuple #[.int .i64 (n : Int), .bool b]) ∧ Below w.heap.size w w' := by
  have HN : Hid (IntsAt w o l) := h
  have HS := Lib.hid (rising_le hs)
  clear h hs
  go_enter Tryz.func81, Tryz.ntmps81
  go_wp2
  go_loopw [7, 8] (fun i j wr => ∃ a b : Nat, i = .int .i64 a ∧ j = .int .i64 b ∧ a ≤ b ∧ b ≤ l.length ∧ Hid (BetwI l c a b) ∧ wr = w) (fun i j _ => (intOf j).toNat - (intOf i).toNat)
  case atStart => exact ⟨0, l.length, rfl, rfl, by omega, by omega, (⟨by omega, by omega, fun k x hk => by omega, fun k x hk hx => by have := (List.getElem?_eq_some_iff.1 hx).1; omega⟩ : BetwI l c 0 l.length), rfl⟩
  case round =>
    obtain ⟨a, b, rfl, rfl, hab, hbl, HU, rfl⟩ := hrel
    by_cases hlt : a < b
    · obtain ⟨x, hx⟩ := get_of_lt (l := l) (show (a + b) / 2 < l.length by omega)
      obtain ⟨bb, off, rfl, hb, hr⟩ := HN.out _ _ hx
      have HX : Hid (l[(a + b) / 2]? = some x) := hx
      have e1 : wr.cell? ⟨bb, off + (a + b) / 2, none⟩ = some (.int .i64 x) := cell_int hr
      clear hx hr
      by_cases hxc : x < c
      · go_wp2_with (go_at_call 101; refine (less_any _ _ _).mono ?_; rintro e w' ⟨rfl, rfl⟩)
        case' roundEnd => go_roundw
        case rel => exact ⟨(a + b) / 2 + 1, b, by rw [show ((a : Int) + b) / 2 + 1 = (((a + b) / 2 + 1 : Nat) : Int) by omega], rfl, by omega, by omega, (⟨by omega, by omega, fun k y hk hy => Int.lt_of_le_of_lt (HS.out k ((a + b) / 2) y x (by omega) hy HX.out) hxc, HU.out.2.2.2⟩ : BetwI l c ((a + b) / 2 + 1) b), trivial⟩
        case measure => simp [intOf]; omega
      · go_wp2_with (go_at_call 101; refine (less_any _ _ _).mono ?_; rintro e w' ⟨rfl, rfl⟩)
        case' roundEnd => go_roundw
        case rel => exact ⟨a, (a + b) / 2, rfl, by rw [show ((a : Int) + b) / 2 = (((a + b) / 2 : Nat) : Int) by omega], by omega, by omega, (⟨by omega, by omega, HU.out.2.2.1, fun k y hk hy => Int.le_trans (by omega) (HS.out ((a + b) / 2) k x y hk HX.out hy)⟩ : BetwI l c a ((a + b) / 2)), trivial⟩
        case measure => simp [intOf]; omega
    · have hab' : a = b := by omega
      subst hab'
      by_cases hal : a < l.length
      · obtain ⟨x, hx⟩ := get_of_lt hal
        obtain ⟨bb, off, rfl, hb, hr⟩ := HN.out _ _ hx
        have e1 : wr.cell? ⟨bb, off + a, none⟩ = some (.int .i64 x) := cell_int hr
        clear hx hr
        go_wp2_with (go_at_call 102; refine (snan_any _ _).mono ?_; rintro e w' ⟨rfl, rfl⟩)
        all_goals
          go_ret2
          exact ⟨a, _, HU.out, rfl, Below.refl _ _⟩
      · go_wp2
        go_ret2
        exact ⟨a, _, HU.out, rfl, Below.refl _ _⟩
set_option maxRecDepth 100000 in
set_option maxHeartbeats 2000000 in
/-- The section of a tick. -/
theorem tsection_any (s : Sc) (y : Lay) (tk : Int) (w : World) (h : ScAt w s y) (hc : rising ltI s.c) (h0 : 0 ≤ tk) (h1 : tk ≤ 1000000) : Calls Tryz.prog 55 #[.agg (s.cells y), .int .i64 tk] w fun e w' => e = .returned (.int .i64 (secOf s.c tk : Int)) ∧ Below w.heap.size w w' := by
  have HS := Lib.hid h
  have HC := Lib.hid hc
  obtain ⟨V, N, P, C⟩ := s
  obtain ⟨o1, k1, o2, k2, o3, k3⟩ := y
  obtain ⟨r, hr⟩ : ∃ r, secOf C tk = r := ⟨_, rfl⟩
  have HR := Lib.hid hr
  dsimp only
  rw [hr]
  clear h hc hr
  show Calls Tryz.prog 55 #[.agg #[.int .i64 V, .slice o1 N.length k1, .slice o2 P.length k2, .slice o3 C.length k3], .int .i64 tk] w _
  go_enter Tryz.func55, Tryz.ntmps55
  go_wp2_with (go_at_call 81; refine (bsearch_any _ _ _ _ _ (HS.out.2.2.1.alloc _) HS.out.2.2.2.2.2 HC.out).mono ?_; rintro e w1 ⟨n, b, hn, rfl, hb⟩; have HN := Lib.hid hn; have HB := Lib.hid hb; clear hn hb)
  go_ret
  have e1 : secOf C tk = n := secOf_eq ⟨HN.out.2.1, fun i x hi hx => by have := HN.out.2.2.1 i x hi hx; omega, fun i x hi hx => by have := HN.out.2.2.2 i x hi hx; omega⟩
  have e2 : n = r := e1.symm.trans HR.out
  subst e2
  exact ⟨rfl, ((Below.refl _ w).alloc (Nat.le_refl _) _).trans (HB.out.mono (by simp))⟩
end Go.Sc

namespace Go.Sc
open Go.RowKit Go.Proofs

theorem rng_no (x : Int) (h : -32 ≤ x ∧ x ≤ 32) (w : World) : Calls Tryz.prog 83 #[.int .i64 x] w fun e w' => e = .returned (.bool false) ∧ w = w' := by
  obtain ⟨h1, h2⟩ := h
  go_enter Tryz.func83, Tryz.ntmps83
  go_wp2
  go_ret
  exact ⟨by simp; omega, rfl⟩
theorem rng_yes (x : Int) (h : ¬ (-32 ≤ x ∧ x ≤ 32)) (w : World) : Calls Tryz.prog 83 #[.int .i64 x] w fun e w' => e = .returned (.bool true) ∧ w = w' := by
  by_cases h1 : x < -32
  · go_enter Tryz.func83, Tryz.ntmps83
    go_wp2
    go_ret
    exact ⟨rfl, rfl⟩
  · have h2 : 32 < x := by omega
    go_enter Tryz.func83, Tryz.ntmps83
    go_wp2
    go_ret
    exact ⟨by simp <;> omega, rfl⟩
set_option maxRecDepth 100000 in
set_option maxHeartbeats 4000000 in
/-- Whether one of six integers is out of range. -/
theorem index6_any (b : Nat) (v : Vc) (w : World) (h : w.rangeAt b 0 v.cells) :
    Calls Tryz.prog 103 #[.slice (some ⟨b, 0, none⟩) 6 6, .func (.func 83) #[] #[]] w fun e w' => ∃ r : Int, (0 ≤ r ↔ ¬ v.lim 32) ∧ e = .returned (.int .i64 r) ∧ Below w.heap.size w w' := by
  obtain ⟨x0, x1, x2, x3, x4, x5⟩ := v
  have c0 : w.cell? ⟨b, 0, none⟩ = some (.int .i64 x0) := by simpa using h 0 _ rfl
  have c1 : w.cell? ⟨b, 1, none⟩ = some (.int .i64 x1) := by simpa using h 1 _ rfl
  have c2 : w.cell? ⟨b, 2, none⟩ = some (.int .i64 x2) := by simpa using h 2 _ rfl
  have c3 : w.cell? ⟨b, 3, none⟩ = some (.int .i64 x3) := by simpa using h 3 _ rfl
  have c4 : w.cell? ⟨b, 4, none⟩ = some (.int .i64 x4) := by simpa using h 4 _ rfl
  have c5 : w.cell? ⟨b, 5, none⟩ = some (.int .i64 x5) := by simpa using h 5 _ rfl
  have hcs : (∃ q : Nat, q < 7 ∧ (0 < q → -32 ≤ x0 ∧ x0 ≤ 32) ∧ (1 < q → -32 ≤ x1 ∧ x1 ≤ 32) ∧ (2 < q → -32 ≤ x2 ∧ x2 ≤ 32) ∧ (3 < q → -32 ≤ x3 ∧ x3 ≤ 32) ∧ (4 < q → -32 ≤ x4 ∧ x4 ≤ 32) ∧ (5 < q → -32 ≤ x5 ∧ x5 ≤ 32) ∧ (q = 0 → ¬ (-32 ≤ x0 ∧ x0 ≤ 32)) ∧ (q = 1 → ¬ (-32 ≤ x1 ∧ x1 ≤ 32)) ∧ (q = 2 → ¬ (-32 ≤ x2 ∧ x2 ≤ 32)) ∧ (q = 3 → ¬ (-32 ≤ x3 ∧ x3 ≤ 32)) ∧ (q = 4 → ¬ (-32 ≤ x4 ∧ x4 ≤ 32)) ∧ (q = 5 → ¬ (-32 ≤ x5 ∧ x5 ≤ 32))) := by
    by_cases h0 : -32 ≤ x0 ∧ x0 ≤ 32
    · by_cases h1 : -32 ≤ x1 ∧ x1 ≤ 32
      · by_cases h2 : -32 ≤ x2 ∧ x2 ≤ 32
        · by_cases h3 : -32 ≤ x3 ∧ x3 ≤ 32
          · by_cases h4 : -32 ≤ x4 ∧ x4 ≤ 32
            · by_cases h5 : -32 ≤ x5 ∧ x5 ≤ 32
              · exact ⟨6, by omega⟩
              · exact ⟨5, by omega⟩
            · exact ⟨4, by omega⟩
          · exact ⟨3, by omega⟩
        · exact ⟨2, by omega⟩
      · exact ⟨1, by omega⟩
    · exact ⟨0, by omega⟩
  obtain ⟨q, hq, a0, a1, a2, a3, a4, a5, b0, b1, b2, b3, b4, b5⟩ := hcs
  clear h
  rcases (show q = 0 ∨ q = 1 ∨ q = 2 ∨ q = 3 ∨ q = 4 ∨ q = 5 ∨ q = 6 by omega) with rfl | rfl | rfl | rfl | rfl | rfl | rfl
  · have B0 := Lib.hid (b0 rfl)
    clear a0 a1 a2 a3 a4 a5 b0 b1 b2 b3 b4 b5 hq
    go_enter Tryz.func103, Tryz.ntmps103
    go_wp2
    refine wp_loop_rounds 7 ?_
    rw [rounds_succ]; go_wp2_with (go_at_call 83; refine (rng_yes _ B0.out _).mono ?_; rintro e w' ⟨rfl, rfl⟩)
    go_ret
    exact ⟨0, ⟨fun _ h => B0.out (lim_vals h).1, fun _ => by omega⟩, rfl, Below.refl _ _⟩
  · have A0 := Lib.hid (a0 (by omega))
    have B1 := Lib.hid (b1 rfl)
    clear a0 a1 a2 a3 a4 a5 b0 b1 b2 b3 b4 b5 hq
    go_enter Tryz.func103, Tryz.ntmps103
    go_wp2
    refine wp_loop_rounds 7 ?_
    rw [rounds_succ]; go_wp2_with (go_at_call 83; refine (rng_no _ A0.out _).mono ?_; rintro e w' ⟨rfl, rfl⟩)
    rw [rounds_succ]; go_wp2_with (go_at_call 83; refine (rng_yes _ B1.out _).mono ?_; rintro e w' ⟨rfl, rfl⟩)
    go_ret
    exact ⟨1, ⟨fun _ h => B1.out (lim_vals h).2.1, fun _ => by omega⟩, rfl, Below.refl _ _⟩
  · have A0 := Lib.hid (a0 (by omega))
    have A1 := Lib.hid (a1 (by omega))
    have B2 := Lib.hid (b2 rfl)
    clear a0 a1 a2 a3 a4 a5 b0 b1 b2 b3 b4 b5 hq
    go_enter Tryz.func103, Tryz.ntmps103
    go_wp2
    refine wp_loop_rounds 7 ?_
    rw [rounds_succ]; go_wp2_with (go_at_call 83; refine (rng_no _ A0.out _).mono ?_; rintro e w' ⟨rfl, rfl⟩)
    rw [rounds_succ]; go_wp2_with (go_at_call 83; refine (rng_no _ A1.out _).mono ?_; rintro e w' ⟨rfl, rfl⟩)
    rw [rounds_succ]; go_wp2_with (go_at_call 83; refine (rng_yes _ B2.out _).mono ?_; rintro e w' ⟨rfl, rfl⟩)
    go_ret
    exact ⟨2, ⟨fun _ h => B2.out (lim_vals h).2.2.1, fun _ => by omega⟩, rfl, Below.refl _ _⟩
  · have A0 := Lib.hid (a0 (by omega))
    have A1 := Lib.hid (a1 (by omega))
    have A2 := Lib.hid (a2 (by omega))
    have B3 := Lib.hid (b3 rfl)
    clear a0 a1 a2 a3 a4 a5 b0 b1 b2 b3 b4 b5 hq
    go_enter Tryz.func103, Tryz.ntmps103
    go_wp2
    refine wp_loop_rounds 7 ?_
    rw [rounds_succ]; go_wp2_with (go_at_call 83; refine (rng_no _ A0.out _).mono ?_; rintro e w' ⟨rfl, rfl⟩)
    rw [rounds_succ]; go_wp2_with (go_at_call 83; refine (rng_no _ A1.out _).mono ?_; rintro e w' ⟨rfl, rfl⟩)
    rw [rounds_succ]; go_wp2_with (go_at_call 83; refine (rng_no _ A2.out _).mono ?_; rintro e w' ⟨rfl, rfl⟩)
    rw [rounds_succ]; go_wp2_with (go_at_call 83; refine (rng_yes _ B3.out _).mono ?_; rintro e w' ⟨rfl, rfl⟩)
    go_ret
    exact ⟨3, ⟨fun _ h => B3.out (lim_vals h).2.2.2.1, fun _ => by omega⟩, rfl, Below.refl _ _⟩
  · have A0 := Lib.hid (a0 (by omega))
    have A1 := Lib.hid (a1 (by omega))
    have A2 := Lib.hid (a2 (by omega))
    have A3 := Lib.hid (a3 (by omega))
    have B4 := Lib.hid (b4 rfl)
    clear a0 a1 a2 a3 a4 a5 b0 b1 b2 b3 b4 b5 hq
    go_enter Tryz.func103, Tryz.ntmps103
    go_wp2
    refine wp_loop_rounds 7 ?_
    rw [rounds_succ]; go_wp2_with (go_at_call 83; refine (rng_no _ A0.out _).mono ?_; rintro e w' ⟨rfl, rfl⟩)
    rw [rounds_succ]; go_wp2_with (go_at_call 83; refine (rng_no _ A1.out _).mono ?_; rintro e w' ⟨rfl, rfl⟩)
    rw [rounds_succ]; go_wp2_with (go_at_call 83; refine (rng_no _ A2.out _).mono ?_; rintro e w' ⟨rfl, rfl⟩)
    rw [rounds_succ]; go_wp2_with (go_at_call 83; refine (rng_no _ A3.out _).mono ?_; rintro e w' ⟨rfl, rfl⟩)
    rw [rounds_succ]; go_wp2_with (go_at_call 83; refine (rng_yes _ B4.out _).mono ?_; rintro e w' ⟨rfl, rfl⟩)
    go_ret
    exact ⟨4, ⟨fun _ h => B4.out (lim_vals h).2.2.2.2.1, fun _ => by omega⟩, rfl, Below.refl _ _⟩
  · have A0 := Lib.hid (a0 (by omega))
    have A1 := Lib.hid (a1 (by omega))
    have A2 := Lib.hid (a2 (by omega))
    have A3 := Lib.hid (a3 (by omega))
    have A4 := Lib.hid (a4 (by omega))
    have B5 := Lib.hid (b5 rfl)
    clear a0 a1 a2 a3 a4 a5 b0 b1 b2 b3 b4 b5 hq
    go_enter Tryz.func103, Tryz.ntmps103
    go_wp2
    refine wp_loop_rounds 7 ?_
    rw [rounds_succ]; go_wp2_with (go_at_call 83; refine (rng_no _ A0.out _).mono ?_; rintro e w' ⟨rfl, rfl⟩)
    rw [rounds_succ]; go_wp2_with (go_at_call 83; refine (rng_no _ A1.out _).mono ?_; rintro e w' ⟨rfl, rfl⟩)
    rw [rounds_succ]; go_wp2_with (go_at_call 83; refine (rng_no _ A2.out _).mono ?_; rintro e w' ⟨rfl, rfl⟩)
    rw [rounds_succ]; go_wp2_with (go_at_call 83; refine (rng_no _ A3.out _).mono ?_; rintro e w' ⟨rfl, rfl⟩)
    rw [rounds_succ]; go_wp2_with (go_at_call 83; refine (rng_no _ A4.out _).mono ?_; rintro e w' ⟨rfl, rfl⟩)
    rw [rounds_succ]; go_wp2_with (go_at_call 83; refine (rng_yes _ B5.out _).mono ?_; rintro e w' ⟨rfl, rfl⟩)
    go_ret
    exact ⟨5, ⟨fun _ h => B5.out (lim_vals h).2.2.2.2.2, fun _ => by omega⟩, rfl, Below.refl _ _⟩
  · have A0 := Lib.hid (a0 (by omega))
    have A1 := Lib.hid (a1 (by omega))
    have A2 := Lib.hid (a2 (by omega))
    have A3 := Lib.hid (a3 (by omega))
    have A4 := Lib.hid (a4 (by omega))
    have A5 := Lib.hid (a5 (by omega))
    clear a0 a1 a2 a3 a4 a5 b0 b1 b2 b3 b4 b5 hq
    go_enter Tryz.func103, Tryz.ntmps103
    go_wp2
    refine wp_loop_rounds 7 ?_
    rw [rounds_succ]; go_wp2_with (go_at_call 83; refine (rng_no _ A0.out _).mono ?_; rintro e w' ⟨rfl, rfl⟩)
    rw [rounds_succ]; go_wp2_with (go_at_call 83; refine (rng_no _ A1.out _).mono ?_; rintro e w' ⟨rfl, rfl⟩)
    rw [rounds_succ]; go_wp2_with (go_at_call 83; refine (rng_no _ A2.out _).mono ?_; rintro e w' ⟨rfl, rfl⟩)
    rw [rounds_succ]; go_wp2_with (go_at_call 83; refine (rng_no _ A3.out _).mono ?_; rintro e w' ⟨rfl, rfl⟩)
    rw [rounds_succ]; go_wp2_with (go_at_call 83; refine (rng_no _ A4.out _).mono ?_; rintro e w' ⟨rfl, rfl⟩)
    rw [rounds_succ]; go_wp2_with (go_at_call 83; refine (rng_no _ A5.out _).mono ?_; rintro e w' ⟨rfl, rfl⟩)
    rw [rounds_succ]; go_wp2
    go_ret
    exact ⟨-1, ⟨fun h => by omega, fun h => absurd (⟨A0.out, A1.out, A2.out, A3.out, A4.out, A5.out⟩ : Vc.lim 32 ⟨x0, x1, x2, x3, x4, x5⟩) h⟩, rfl, Below.refl _ _⟩
end Go.Sc

namespace Go.Sc
open Go.RowKit Go.Proofs

set_option maxRecDepth 100000 in
set_option maxHeartbeats 2000000 in
theorem contains6_any (b : Nat) (v : Vc) (w : World) (h : w.rangeAt b 0 v.cells) : Calls Tryz.prog 82 #[.slice (some ⟨b, 0, none⟩) 6 6, .func (.func 83) #[] #[]] w fun e w' => e = .returned (.bool (!decide (v.lim 32))) ∧ Below w.heap.size w w' := by
  have HI := Lib.hid (index6_any b v w h)
  clear h
  go_enter Tryz.func82, Tryz.ntmps82
  go_wp2_with (go_at_call 103; refine HI.out.mono ?_; rintro e w1 ⟨r, hr, rfl, hb⟩; have HR := Lib.hid hr; have HB := Lib.hid hb; clear hr hb)
  go_ret
  refine ⟨?_, HB.out⟩
  by_cases hv : v.lim 32
  · rw [decide_eq_true hv]
    have hr : ¬ (0 ≤ r) := fun hh => HR.out.1 hh hv
    rw [decide_eq_false (by omega)]
    rfl
  · rw [decide_eq_false hv]
    have hr := HR.out.2 hv
    rw [decide_eq_true (by omega)]
    rfl
set_option maxRecDepth 100000 in
set_option maxHeartbeats 2000000 in
/-- Whether a pitch is in range. -/
theorem ranged_any (v : Vc) (w : World) : Calls Tryz.prog 58 #[.agg v.cells.toArray] w fun e w' => e = .returned (.bool (decide (v.lim 32))) ∧ Below w.heap.size w w' := by
  have HI := Lib.hid (contains6_any w.heap.size v (w.alloc (.cells v.cells.toArray 29)) (rangeAt_born w _ _))
  obtain ⟨bb, hbb⟩ : ∃ bb, decide (v.lim 32) = bb := ⟨_, rfl⟩
  rw [hbb] at HI ⊢
  clear hbb
  obtain ⟨x0, x1, x2, x3, x4, x5⟩ := v
  dsimp only [Vc.cells] at HI ⊢
  go_enter Tryz.func58, Tryz.ntmps58
  go_wp2_with (go_at_call 82; refine HI.out.mono ?_; rintro e w1 ⟨rfl, hb⟩; have HB : Hid (Below w.heap.size w w1) := ((Below.refl _ w).alloc (Nat.le_refl _) _).trans (hb.mono (by simp)); clear hb)
  go_ret
  exact ⟨by simp, HB.out⟩
set_option maxRecDepth 100000 in
set_option maxHeartbeats 1000000 in
/-- A step turned round. -/
theorem round_any (x : St) (w : World) : Calls Tryz.prog 62 #[.agg x.cells.toArray] w fun e w' => e = .returned (.agg x.turn.cells.toArray) ∧ Below w.heap.size w w' := by
  obtain ⟨f, t, k⟩ := x
  dsimp only [St.cells, St.turn]
  go_enter Tryz.func62, Tryz.ntmps62
  go_wp2
  exact bodyPost_ret (v := .agg #[.int .i64 t, .int .i64 f, .int .i64 k]) (by simp [results, Tryz.results62, go_sem]) rfl ⟨rfl, ((Below.refl _ w).alloc (Nat.le_refl _) _).alloc (by simp) _⟩
end Go.Sc
