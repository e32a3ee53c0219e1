/- slices.stableCmpFunc, SortStableFunc at pairs. A row of pairs that the call owns, and its sort; Go's stable sort at no pair at all. -/
import Derived.Test.YtjpbfggfoahoeaaGreatDoorSrG
import Derived.Test.YtjpbfggfoahoeaaGreatDoorScY
namespace Go.Sc
open Go.RowKit Go.Proofs

theorem insS_at (g cap nl : Nat) (l : List Pr) (hn : l.length = nl) (a b : Nat) (x y : Int) (w : World) (h : PRow w g cap l) (hb : b ≤ nl) (ha : a ≤ b) (hsz : nl ≤ 1000000) (hx : x = a) (hy : y = b) :
    Calls Tryz.prog 72 #[.slice (some ⟨g, 0, none⟩) nl cap, .int .i64 x, .int .i64 y, .func (.func 30) #[] #[]] w fun x w' => x = .returned (.tuple #[]) ∧ PRow w' g cap (So.insS ltQ a b l) ∧ Just g w w' := by
  subst hn hx hy
  exact insS_any g cap l a b w h hb ha hsz
theorem len_insS (lt : Pr → Pr → Bool) (a b : Nat) (l : List Pr) : (So.insS lt a b l).length = l.length := (So.perm_insO ..).length_eq
theorem len_sym (lt : Pr → Pr → Bool) (k a m b : Nat) (l : List Pr) : (So.sym lt k a m b l).length = l.length := (So.perm_sym ..).length_eq

set_option maxRecDepth 100000 in
set_option maxHeartbeats 8000000 in
theorem stable_any (g cap : Nat) (l : List Pr) (w : World) (h : PRow w g cap l) (hsz : l.length ≤ 1000000) :
    Calls Tryz.prog 55 #[.slice (some ⟨g, 0, none⟩) l.length cap, .int .i64 l.length, .func (.func 30) #[] #[]] w fun x w' => x = .returned (.tuple #[]) ∧ PRow w' g cap (So.stable ltQ l) ∧ Just g w w' := by
  have HN : Hid (PRow w g cap l) := h
  clear h
  obtain ⟨n, hn⟩ : ∃ n, l.length = n := ⟨_, rfl⟩
  obtain ⟨r, hr⟩ : ∃ r, So.stable ltQ l = r := ⟨_, rfl⟩
  have HQ : Hid (So.mrgs ltQ n (n + 1) 20 (So.blks ltQ n (n + 1) 0 l) = r) := by show _ = _; rw [← hr, ← hn]; rfl
  rw [hr, hn]
  rw [hn] at hsz
  have HLn := Lib.hid hn
  clear hn hr
  go_enter Tryz.func55, Tryz.ntmps55
  go_wp2
  go_loopw [7, 8] (fun v u wr => ∃ (a k : Nat) (li : List Pr), v = .int .i64 a ∧ u = .int .i64 ((a : Int) + 20) ∧ a ≤ n ∧ n + 1 - a ≤ k ∧ Hid (li.length = n) ∧ Hid (So.mrgs ltQ n (n + 1) 20 (So.blks ltQ n k a li) = r) ∧ Hid (PRow wr g cap li) ∧ Hid (Just g w wr)) (fun v _ _ => n + 1 - (intOf v).toNat)
  case atStart => exact ⟨0, n + 1, l, rfl, rfl, by omega, by omega, HLn.out, HQ.out, HN.out, Just.refl _ _⟩
  case round =>
    obtain ⟨a, k, li, rfl, rfl, han, hk, HL, HS, HR, HJ⟩ := hrel
    obtain ⟨k, rfl⟩ : ∃ q, k = q + 1 := ⟨k - 1, by omega⟩
    by_cases hlt : a + 20 ≤ n
    · have hltz : (a : Int) + 20 ≤ n := by omega
      go_wp2_with (go_at_call 72; refine (insS_at g cap n li HL.out a (a + 20) _ _ wr HR.out hlt (by omega) hsz (by omega) (by omega)).mono ?_; rintro x w' ⟨rfl, hr, hj⟩; have HR2 := Lib.hid hr; have HJ2 := Lib.hid (HJ.out.trans hj); clear hr hj)
      go_roundw
      case rel =>
        refine ⟨a + 20, k, _, by go_num, by first | rfl | go_num | (congr 1; omega), by omega, by omega, ?_, ?_, HR2.out, HJ2.out⟩
        · show _ = _
          rw [len_insS]
          exact HL.out
        · show _ = _
          rw [← HS.out, So.blks, if_pos hlt]
      case measure => simp [intOf] <;> omega
    · have hltz : ¬ (a : Int) + 20 ≤ n := by omega
      have HS2 : Hid (So.mrgs ltQ n (n + 1) 20 (So.insS ltQ a n li) = r) := by show _ = _; rw [← HS.out, So.blks, if_neg hlt]
      clear HS
      go_wp2_with (go_at_call 72; refine (insS_at g cap n li HL.out a n _ _ wr HR.out (Nat.le_refl _) han hsz (by omega) (by omega)).mono ?_; rintro x w' ⟨rfl, hr, hj⟩; have HR2 := Lib.hid hr; have HJ2 := Lib.hid (HJ.out.trans hj); clear hr hj)
      have HL2 : Hid ((So.insS ltQ a n li).length = n) := by show _ = _; rw [len_insS]; exact HL.out
      generalize So.insS ltQ a n li = l2 at *
      go_loopw [6] (fun v wr => ∃ (z k : Nat) (li : List Pr), v = .int .i64 z ∧ 20 ≤ z ∧ z ≤ 2 * n + 20 ∧ n + 1 - z ≤ k ∧ Hid (li.length = n) ∧ Hid (So.mrgs ltQ n k z li = r) ∧ Hid (PRow wr g cap li) ∧ Hid (Just g w wr)) (fun v _ => n + 1 - (intOf v).toNat)
      case atStart => exact ⟨20, n + 1, l2, rfl, Nat.le_refl _, by omega, by omega, HL2.out, HS2.out, HR2.out, HJ2.out⟩
      case round =>
        obtain ⟨z, k2, lz, rfl, hz, hz2, hk2, HLz, HSz, HRz, HJz⟩ := hrel
        by_cases hzn : z < n
        · obtain ⟨k2, rfl⟩ : ∃ q, k2 = q + 1 := ⟨k2 - 1, by omega⟩
          have hznz : (z : Int) < n := by omega
          have HS3 : Hid (So.mrgs ltQ n k2 (z * 2) (So.mrg ltQ n z (n + 1) 0 lz) = r) := by show _ = _; rw [← HSz.out, So.mrgs, if_pos hzn]
          clear HSz
          go_wp2
          go_loopw [7, 8] (fun v u wr => ∃ (a k : Nat) (li : List Pr), v = .int .i64 a ∧ u = .int .i64 ((a : Int) + 2 * z) ∧ a ≤ n ∧ n + 1 - a ≤ k ∧ Hid (li.length = n) ∧ Hid (So.mrgs ltQ n k2 (z * 2) (So.mrg ltQ n z k a li) = r) ∧ Hid (PRow wr g cap li) ∧ Hid (Just g w wr)) (fun v _ _ => n + 1 - (intOf v).toNat)
          case atStart => exact ⟨0, n + 1, lz, rfl, by go_num, by omega, by omega, HLz.out, HS3.out, HRz.out, HJz.out⟩
          case round =>
            obtain ⟨a3, k3, l3, rfl, rfl, han3, hk3, HL3, HS4, HR3, HJ3⟩ := hrel
            obtain ⟨k3, rfl⟩ : ∃ q, k3 = q + 1 := ⟨k3 - 1, by omega⟩
            by_cases hlt3 : a3 + 2 * z ≤ n
            · have hlt3z : (a3 : Int) + 2 * z ≤ n := by omega
              go_wp2_with (go_at_call 73; refine (sym_any n g cap n l3 a3 (a3 + z) (a3 + 2 * z) _ _ _ wr HR3.out HL3.out (by omega) (by omega) hlt3 hsz (by omega) (by omega) (by omega) (by omega)).mono ?_; rintro x w' ⟨rfl, hr, hj⟩; have HR5 := Lib.hid hr; have HJ5 := Lib.hid (HJ3.out.trans hj); clear hr hj)
              go_roundw
              case rel =>
                refine ⟨a3 + 2 * z, k3, _, by go_num, by first | rfl | go_num | (congr 1; omega), by omega, by omega, ?_, ?_, HR5.out, HJ5.out⟩
                · show _ = _
                  rw [len_sym]
                  exact HL3.out
                · show _ = _
                  rw [← HS4.out, So.mrg, if_pos hlt3]
              case measure => simp [intOf] <;> omega
            · have hlt3z : ¬ (a3 : Int) + 2 * z ≤ n := by omega
              by_cases hm : a3 + z < n
              · have hmz : (a3 : Int) + z < n := by omega
                go_wp2_with (go_at_call 73; refine (sym_any n g cap n l3 a3 (a3 + z) n _ _ _ wr HR3.out HL3.out (by omega) (by omega) (Nat.le_refl _) hsz (by omega) (by omega) (by omega) (by omega)).mono ?_; rintro x w' ⟨rfl, hr, hj⟩; have HR5 := Lib.hid hr; have HJ5 := Lib.hid (HJ3.out.trans hj); clear hr hj)
                go_roundw
                case rel =>
                  refine ⟨z * 2, k2, _, by go_num, by omega, by omega, by omega, ?_, ?_, HR5.out, HJ5.out⟩
                  · show _ = _
                    rw [len_sym]
                    exact HL3.out
                  · show _ = _
                    rw [← HS4.out, So.mrg, if_neg hlt3, if_pos hm]
                case measure => simp [intOf] <;> omega
              · have hmz : ¬ (a3 : Int) + z < n := by omega
                go_wp2
                go_roundw
                case rel =>
                  refine ⟨z * 2, k2, l3, by go_num, by omega, by omega, by omega, HL3.out, ?_, HR3.out, HJ3.out⟩
                  show _ = _
                  rw [← HS4.out, So.mrg, if_neg hlt3, if_neg hm]
                case measure => simp [intOf] <;> omega
        · have hznz : ¬ (z : Int) < n := by omega
          go_wp2
          go_end0
          refine ⟨rfl, ?_, HJz.out⟩
          have h0 := HSz.out
          have h1 : So.mrgs ltQ n k2 z lz = lz := by
            cases k2 with
            | zero => rfl
            | succ k => rw [So.mrgs, if_neg hzn]
          rw [h1] at h0
          rw [← h0]
          exact HRz.out

set_option maxRecDepth 100000 in
set_option maxHeartbeats 8000000 in
theorem sort_any (g cap : Nat) (l : List Pr) (w : World) (h : PRow w g cap l) (hsz : l.length ≤ 1000000) :
    Calls Tryz.prog 29 #[.slice (some ⟨g, 0, none⟩) l.length cap, .func (.func 30) #[] #[]] w fun x w' => x = .returned (.tuple #[]) ∧ PRow w' g cap (So.stable ltQ l) ∧ Just g w w' := by
  have HN : Hid (PRow w g cap l) := h
  clear h
  go_enter Tryz.func29, Tryz.ntmps29
  go_wp2_with (go_at_call 55; refine (stable_any g cap l _ HN.out hsz).mono ?_; rintro x w' ⟨rfl, hr, hj⟩; have HR5 := Lib.hid hr; have HJ5 := Lib.hid hj; clear hr hj)
  go_end0
  exact ⟨rfl, HR5.out, HJ5.out⟩
end Go.Sc

/-! A row of pairs that the call owns, and its sort; Go's stable sort at no pair at all. -/
namespace Go.Sc
open Go.RowKit Go.Proofs

theorem flat_len (l : List Pr) : (l.flatMap Pr.cells).length = l.length * 9 := by
  induction l with
  | nil => rfl
  | cons p l ih => rw [List.flatMap_cons, List.length_append, ih, List.length_cons, Pr.len]; omega
theorem PRow.own {w : World} {g cap base : Nat} {l : List Pr} (h : PRow w g cap l) (hb : base ≤ g) : OwnP w base (.slice (some ⟨g, 0, none⟩) l.length cap) l := by
  obtain ⟨cur, h1, h2, h3⟩ := h.blk
  have hl := h.len
  refine ⟨flat_len l, .inr ⟨g, cap, cur, rfl, hb, h1, h.len, h.max, h2, ?_⟩⟩
  refine List.ext_getElem? fun k => ?_
  rw [List.getElem?_take]
  by_cases hk : k < l.length * 9
  · rw [if_pos hk]
    obtain ⟨p, hp⟩ := get_of_lt (show k / 9 < l.length by omega)
    obtain ⟨u, hu⟩ : ∃ u, p.cells[k % 9]? = some u := ⟨_, List.getElem?_eq_getElem (by rw [Pr.len]; omega)⟩
    have e1 := h3 _ p hp _ u hu
    have e2 := flat_at (size := 9) Pr.len l (k / 9) (k % 9) p u hp hu
    rw [show k / 9 * 9 + k % 9 = k by omega] at e1 e2
    rw [e2, ← e1, Array.getElem?_toList]
  · rw [if_neg hk, List.getElem?_eq_none (by rw [flat_len]; omega)]
theorem OwnP.cases {w : World} {base : Nat} {v : Value} {l : List Pr} (h : OwnP w base v l) : (v = .slice none 0 0 ∧ l = []) ∨ ∃ g cap, v = .slice (some ⟨g, 0, none⟩) l.length cap ∧ base ≤ g ∧ PRow w g cap l := by
  rcases h.2 with ⟨hv, h0⟩ | ⟨g, cap, cur, hv, hb, hg, h1, h2, h3, h4⟩
  · exact .inl ⟨hv, List.length_eq_zero_iff.1 h0⟩
  · refine .inr ⟨g, cap, hv, hb, h1, h2, cur, hg, h3, fun i p hp j u hu => ?_⟩
    have e2 := flat_at (size := 9) Pr.len l i j p u hp hu
    have hi : i < l.length := (List.getElem?_eq_some_iff.1 hp).1
    have hj : j < 9 := by rw [← Pr.len p]; exact (List.getElem?_eq_some_iff.1 hu).1
    rw [← h4, List.getElem?_take, if_pos (by omega), Array.getElem?_toList] at e2
    exact e2

set_option maxRecDepth 100000 in
set_option maxHeartbeats 4000000 in
theorem insS_nil (w : World) : Calls Tryz.prog 72 #[.slice none 0 0, .int .i64 0, .int .i64 0, .func (.func 30) #[] #[]] w fun x w' => x = .returned (.tuple #[]) ∧ w' = w := by
  go_enter Tryz.func72, Tryz.ntmps72
  go_wp2
  refine wp_loop_rounds 1 ?_
  rw [rounds_succ]
  go_wp2
  go_end0
  exact ⟨rfl, rfl⟩
set_option maxRecDepth 100000 in
set_option maxHeartbeats 4000000 in
theorem stable_nil (w : World) : Calls Tryz.prog 55 #[.slice none 0 0, .int .i64 0, .func (.func 30) #[] #[]] w fun x w' => x = .returned (.tuple #[]) ∧ w' = w := by
  go_enter Tryz.func55, Tryz.ntmps55
  go_wp2
  refine wp_loop_rounds 1 ?_
  rw [rounds_succ]
  go_wp2_with (go_at_call 72; refine (insS_nil _).mono ?_; rintro x w' ⟨rfl, rfl⟩)
  refine wp_loop_rounds 1 ?_
  rw [rounds_succ]
  go_wp2
  go_end0
  exact ⟨rfl, rfl⟩
set_option maxRecDepth 100000 in
set_option maxHeartbeats 4000000 in
theorem sort_nil (w : World) : Calls Tryz.prog 29 #[.slice none 0 0, .func (.func 30) #[] #[]] w fun x w' => x = .returned (.tuple #[]) ∧ w' = w := by
  go_enter Tryz.func29, Tryz.ntmps29
  go_wp2_with (go_at_call 55; refine (stable_nil _).mono ?_; rintro x w' ⟨rfl, rfl⟩)
  go_end0
  exact ⟨rfl, rfl⟩

/-- Only the blocks from base on have turned, of the old ones the row's alone. -/
def RowOnly (v : Value) (w w' : World) : Prop := w'.os = w.os ∧ w'.tape = w.tape ∧ w'.output = w.output ∧ w.heap.size ≤ w'.heap.size ∧ ∀ k, k < w.heap.size → v.ownBlock ≠ some k → w'.heap[k]? = w.heap[k]?
theorem RowOnly.of_just {g m c : Nat} {w w' : World} (h : Just g w w') : RowOnly (.slice (some ⟨g, 0, none⟩) m c) w w' :=
  ⟨h.os, h.tape, h.output, h.size, fun k hk hg => h.block k hk fun e => hg (by rw [e]; rfl)⟩
theorem sort_own {w : World} {base : Nat} {v : Value} {l : List Pr} (h : OwnP w base v l) (hsz : l.length ≤ 1000000) :
    Calls Tryz.prog 29 #[v, .func (.func 30) #[] #[]] w fun x w' => x = .returned (.tuple #[]) ∧ OwnP w' base v (So.stable ltQ l) ∧ RowOnly v w w' := by
  rcases h.cases with ⟨rfl, rfl⟩ | ⟨g, cap, rfl, hb, hp⟩
  · refine (sort_nil w).mono fun x w' ⟨hx, hw⟩ => ?_
    subst hw
    exact ⟨hx, h, rfl, rfl, rfl, Nat.le_refl _, fun _ _ _ => rfl⟩
  · refine (sort_any g cap l w hp hsz).mono fun x w' ⟨hx, hr, hj⟩ => ⟨hx, ?_, .of_just hj⟩
    have := hr.own hb
    rw [(So.perm_stable ltQ l).length_eq] at this
    exact this
end Go.Sc
