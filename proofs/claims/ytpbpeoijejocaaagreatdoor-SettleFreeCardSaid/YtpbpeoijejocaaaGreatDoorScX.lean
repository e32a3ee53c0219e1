/- score.First. -/
import Derived.Test.YtpbpeoijejocaaaGreatDoorScW
import Derived.Test.YtpbpeoijejocaaaGreatDoorScR
import Derived.Deep.RegionHeld3
import Derived.IntWalk
namespace Go.Sc
open Go.RowKit Go.Proofs

/-- What First answers. -/
def FirstIs (s : Sc) (k : Int) (n : Nat) (er : Int) : Prop :=
  (¬ (validOk s ∧ 0 ≤ k ∧ k ≤ s.c.length + 1) ∧ n = 0 ∧ er = 1) ∨
  (validOk s ∧ er = 0 ∧ ((k = 0 ∧ n = 0) ∨ (k = s.c.length + 1 ∧ n = s.n.length) ∨ ∃ (j : Nat) (c : Int), k = j + 1 ∧ s.c[j]? = some c ∧ BeginsAt s.n c n))
theorem valid_true {s : Sc} (hv : validOk s) (y : Lay) (w : World) (h : ScAt w s y) : Calls Tryz.prog 44 #[.agg (s.cells y)] w (fun e w' => e = .returned (.bool true) ∧ Below w.heap.size w w') :=
  (valid_any s y w h).mono (by rintro e w' ⟨b, hb, rfl, hB⟩; exact ⟨by rw [hb.2 hv], hB⟩)
theorem valid_false {s : Sc} (hv : ¬ validOk s) (y : Lay) (w : World) (h : ScAt w s y) : Calls Tryz.prog 44 #[.agg (s.cells y)] w (fun e w' => e = .returned (.bool false) ∧ Below w.heap.size w w') :=
  (valid_any s y w h).mono (by rintro e w' ⟨b, hb, rfl, hB⟩; cases b; exact ⟨rfl, hB⟩; exact absurd (hb.1 rfl) hv)
theorem rising_fr {l : List Nt} (h : rising ltN l) : ∀ (i j : Nat) (x y : Nt), i ≤ j → l[i]? = some x → l[j]? = some y → x.fr ≤ y.fr := by
  intro i j
  induction j with
  | zero =>
    intro x y hij hx hy
    obtain rfl : i = 0 := by omega
    rw [hx] at hy
    injection hy with hy
    subst hy
    omega
  | succ j ih =>
    intro x y hij hx hy
    by_cases e : i = j + 1
    · subst e
      rw [hx] at hy
      injection hy with hy
      subst hy
      omega
    · obtain ⟨z, hz⟩ := get_of_lt (l := l) (k := j) (by have := (List.getElem?_eq_some_iff.1 hy).1; omega)
      have h1 := ih x z (by omega) hx hz
      have h2 := h j z y hz hy
      unfold ltN at h2
      omega
theorem cellKeep {W w' : World} {a : Addr} {v : Value} (h : Hid (Below W.heap.size W w')) (hc : W.cell? a = some v) : w'.cell? a = some v := by
  rw [h.out.cell (World.block_lt_of_cell? W a hc)]; exact hc
theorem hid_size {n : Nat} {A W : World} (h : Hid (Below n A W)) : A.heap.size ≤ W.heap.size := h.out.size
theorem belowKeep {n : Nat} {A W w' : World} (h : Hid (Below W.heap.size W w')) (hn : n ≤ W.heap.size) (hb : Hid (Below n A W)) : Hid (Below n A w') := (hb.out.trans (h.out.mono hn) : Below _ _ _)
set_option maxRecDepth 100000 in
set_option maxHeartbeats 16000000 in
theorem first_any (s : Sc) (y : Lay) (k : Int) (hk : -9223372036854775808 ≤ k ∧ k ≤ 9223372036854775807) (w : World) (h : ScAt w s y) :
    Calls Tryz.prog 23 #[.agg (s.cells y), .int .i64 k] w (fun e w' => ∃ (n : Nat) (er : Int), FirstIs s k n er ∧ e = .returned (.tuple #[.int .i64 n, .int .i64 er]) ∧ Below w.heap.size w w') := by
  obtain ⟨V, N, P, C⟩ := s
  obtain ⟨o1, k1, o2, k2, o3, k3⟩ := y
  have hC : C.length ≤ 140737488351232 := h.2.2.2.2.2
  have HS : Hid (ScAt w ⟨V, N, P, C⟩ ⟨o1, k1, o2, k2, o3, k3⟩) := h
  clear h
  show Calls Tryz.prog 23 #[.agg #[.int .i64 V, .slice o1 N.length k1, .slice o2 P.length k2, .slice o3 C.length k3], .int .i64 k] w _
  have W1 : Hid (ScAt (w.alloc (.cells #[.int .i64 V, .slice o1 N.length k1, .slice o2 P.length k2, .slice o3 C.length k3] 26)) ⟨V, N, P, C⟩ ⟨o1, k1, o2, k2, o3, k3⟩) := HS.out.below ((Below.refl _ _).alloc (Nat.le_refl _) _)
  have hW : ∀ w', Below (w.alloc (.cells #[.int .i64 V, .slice o1 N.length k1, .slice o2 P.length k2, .slice o3 C.length k3] 26)).heap.size (w.alloc (.cells #[.int .i64 V, .slice o1 N.length k1, .slice o2 P.length k2, .slice o3 C.length k3] 26)) w' → Below w.heap.size w w' := fun w' hb => below_loop (obj := (.cells #[.int .i64 V, .slice o1 N.length k1, .slice o2 P.length k2, .slice o3 C.length k3] 26)) (hb.mono (by simp))
  have HW := Lib.hid hW
  clear hW
  by_cases hv : validOk ⟨V, N, P, C⟩
  · have HV := Lib.hid hv
    clear hv
    rcases (show k < 0 ∨ k = 0 ∨ k = (C.length : Int) + 1 ∨ (C.length : Int) + 1 < k ∨ ∃ j : Nat, k = j + 1 ∧ j < C.length by
      rcases (show k < 0 ∨ k = 0 ∨ k = (C.length : Int) + 1 ∨ (C.length : Int) + 1 < k ∨ (1 ≤ k ∧ k ≤ C.length) by omega) with h | h | h | h | h
      · exact .inl h
      · exact .inr (.inl h)
      · exact .inr (.inr (.inl h))
      · exact .inr (.inr (.inr (.inl h)))
      · exact .inr (.inr (.inr (.inr ⟨(k - 1).toNat, by omega, by omega⟩)))) with h0 | h0 | h0 | h0 | ⟨j, h0, hj⟩
    · go_enter Tryz.func23, Tryz.ntmps23
      go_wp2_with (go_at_call 44; refine (valid_true HV.out _ _ W1.out).mono ?_; rintro e w' ⟨rfl, hb2⟩; have HB2 := Lib.hid hb2; clear hb2; have c1 : w'.cell? ⟨w.heap.size, 1, none⟩ = some (.slice o1 N.length k1) := cellKeep HB2 (by simp); have c3 : w'.cell? ⟨w.heap.size, 3, none⟩ = some (.slice o3 C.length k3) := cellKeep HB2 (by simp))
      go_ret2
      exact ⟨0, 1, .inl ⟨fun h => by have := h.2.1; omega, rfl, rfl⟩, rfl, HW.out _ HB2.out⟩
    · subst h0
      go_enter Tryz.func23, Tryz.ntmps23
      go_wp2_with (go_at_call 44; refine (valid_true HV.out _ _ W1.out).mono ?_; rintro e w' ⟨rfl, hb2⟩; have HB2 := Lib.hid hb2; clear hb2; have c1 : w'.cell? ⟨w.heap.size, 1, none⟩ = some (.slice o1 N.length k1) := cellKeep HB2 (by simp); have c3 : w'.cell? ⟨w.heap.size, 3, none⟩ = some (.slice o3 C.length k3) := cellKeep HB2 (by simp))
      go_ret2
      exact ⟨0, 0, .inr ⟨HV.out, rfl, .inl ⟨rfl, rfl⟩⟩, rfl, HW.out _ HB2.out⟩
    · go_enter Tryz.func23, Tryz.ntmps23
      go_wp2_with (go_at_call 44; refine (valid_true HV.out _ _ W1.out).mono ?_; rintro e w' ⟨rfl, hb2⟩; have HB2 := Lib.hid hb2; clear hb2; have c1 : w'.cell? ⟨w.heap.size, 1, none⟩ = some (.slice o1 N.length k1) := cellKeep HB2 (by simp); have c3 : w'.cell? ⟨w.heap.size, 3, none⟩ = some (.slice o3 C.length k3) := cellKeep HB2 (by simp))
      go_ret2
      exact ⟨N.length, 0, .inr ⟨HV.out, rfl, .inr (.inl ⟨h0, rfl⟩)⟩, rfl, HW.out _ HB2.out⟩
    · go_enter Tryz.func23, Tryz.ntmps23
      go_wp2_with (go_at_call 44; refine (valid_true HV.out _ _ W1.out).mono ?_; rintro e w' ⟨rfl, hb2⟩; have HB2 := Lib.hid hb2; clear hb2; have c1 : w'.cell? ⟨w.heap.size, 1, none⟩ = some (.slice o1 N.length k1) := cellKeep HB2 (by simp); have c3 : w'.cell? ⟨w.heap.size, 3, none⟩ = some (.slice o3 C.length k3) := cellKeep HB2 (by simp))
      go_ret2
      exact ⟨0, 1, .inl ⟨fun h => by have := h.2.2; dsimp only at this; omega, rfl, rfl⟩, rfl, HW.out _ HB2.out⟩
    · subst h0
      go_enter Tryz.func23, Tryz.ntmps23
      go_upto_region 8 with (go_at_call 44; refine (valid_true HV.out _ _ W1.out).mono ?_; rintro e w' ⟨rfl, hb2⟩; have HB2 := Lib.hid hb2; clear hb2; have c1 : w'.cell? ⟨w.heap.size, 1, none⟩ = some (.slice o1 N.length k1) := cellKeep HB2 (by simp); have c3 : w'.cell? ⟨w.heap.size, 3, none⟩ = some (.slice o3 C.length k3) := cellKeep HB2 (by simp))
      obtain ⟨c, hc⟩ := get_of_lt hj
      have HCC := Lib.hid hc
      have HA : Hid (ScAt w' ⟨V, N, P, C⟩ ⟨o1, k1, o2, k2, o3, k3⟩) := HS.out.below (HW.out _ HB2.out)
      obtain ⟨b, off, rfl, hb, hr⟩ := HA.out.2.2.1 j _ hc
      have c4 : w'.cell? ⟨b, off + j, none⟩ = some (.int .i64 c) := by simpa using hr 0 _ rfl
      clear hr hc
      have HB0 : Hid (Below w'.heap.size w' w'.drew) := ((Below.refl _ _).drew : Below _ _ _)
      have q1 : IntKind.i64.wrap ((j : Int) + 1 - 1) = (j : Int) := by rw [show (j : Int) + 1 - 1 = j by omega]; exact IntWalk.i64_in _ (by omega)
      have q0 : IntKind.i64.wrap (j : Int) = (j : Int) := IntWalk.i64_in _ (by omega)
      have q2 : (0 : Int) ≤ j := by omega
      have q5 : ((j : Int)).toNat = j := by omega
      have q3 : (j : Int) < (C.length : Int) := by omega
      clear hk
      go_region_held3 (fun W => W.cell? ⟨w.heap.size, 1, none⟩ = some (.slice o1 N.length k1) ∧ W.cell? ⟨w.heap.size, 3, none⟩ = some (.slice (some ⟨b, off, none⟩) C.length k3) ∧ W.cell? ⟨b, off + j, none⟩ = some (.int .i64 c) ∧ Hid (Below w'.heap.size w' W)) (first | (refine ⟨by simpa using c1, by simpa using c3, by simpa using c4, HB0⟩) | (refine ⟨cellKeep HB3 (by assumption), cellKeep HB3 (by assumption), cellKeep HB3 (by assumption), belowKeep HB3 (hid_size ‹Hid (Below w'.heap.size w' _)›) ‹Hid (Below w'.heap.size w' _)›⟩)) (first | (go_at_call 47; refine (search_any _ _ _ _ _ (HA.out.1.below (Hid.out ‹Hid (Below w'.heap.size w' _)›)) HA.out.2.2.2.1 (rising_fr HV.out.2.1.2)).mono ?_; rintro e w3 ⟨n, bb, hbg, rfl, hb3⟩; have HB3 := Lib.hid hb3; have HBG := Lib.hid hbg; clear hb3 hbg))
      go_wp2
      go_ret2
      rename_i hh
      exact ⟨n, 0, .inr ⟨HV.out, rfl, .inr (.inr ⟨j, c, rfl, HCC.out, HBG.out⟩)⟩, rfl, (HW.out _ HB2.out).trans ((Hid.out (hh.2.2.2)).mono (HW.out _ HB2.out).size)⟩
  · have HV := Lib.hid hv
    clear hv
    go_enter Tryz.func23, Tryz.ntmps23
    go_wp2_with (go_at_call 44; refine (valid_false HV.out _ _ W1.out).mono ?_; rintro e w' ⟨rfl, hb2⟩; have HB2 := Lib.hid hb2; clear hb2)
    go_ret2
    exact ⟨0, 1, .inl ⟨fun h => HV.out h.1, rfl, rfl⟩, rfl, HW.out _ HB2.out⟩
end Go.Sc
