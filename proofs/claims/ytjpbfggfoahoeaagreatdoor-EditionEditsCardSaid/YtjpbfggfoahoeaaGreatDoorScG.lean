/- The search for the first note of a section: score.First$1, slices.BinarySearchFunc. -/
import Derived.Test.YtjpbfggfoahoeaaGreatDoorScR
namespace Go.Sc
open Go.RowKit Go.Proofs

set_option maxRecDepth 100000 in
theorem from_any (n : Nt) (c : Int) (w : World) : Calls Tryz.prog 90 #[.agg n.cells.toArray, .int .i64 c] w fun e w' => e = .returned (.int .i64 (cmpI n.fr c)) ∧ Below w.heap.size w w' := by
  obtain ⟨v, fr, un, a0, a1, a2, a3, a4, a5, td⟩ := n
  show Calls Tryz.prog 90 #[.agg #[.int .i64 v, .int .i64 fr, .int .i64 un, .int .i64 a0, .int .i64 a1, .int .i64 a2, .int .i64 a3, .int .i64 a4, .int .i64 a5, .bool td], .int .i64 c] w _
  dsimp only
  go_enter Tryz.func90, Tryz.ntmps90
  go_wp2_with (go_at_call 32; refine (compare_any _ _ _).mono ?_; rintro e w' ⟨rfl, rfl⟩)
  go_ret
  exact ⟨rfl, (Below.refl _ _).alloc (Nat.le_refl _) _⟩

/-- n is the number of notes that begin before the tick. -/
def BeginsAt (l : List Nt) (c : Int) (n : Nat) : Prop := n ≤ l.length ∧ (∀ (i : Nat) (x : Nt), i < n → l[i]? = some x → x.fr < c) ∧ ∀ (i : Nat) (x : Nt), n ≤ i → l[i]? = some x → c ≤ x.fr
def Between (l : List Nt) (c : Int) (i j : Nat) : Prop := i ≤ j ∧ j ≤ l.length ∧ (∀ (k : Nat) (x : Nt), k < i → l[k]? = some x → x.fr < c) ∧ ∀ (k : Nat) (x : Nt), j ≤ k → l[k]? = some x → c ≤ x.fr
def Found (l : List Nt) (c : Int) (w : World) (e : Ending) (w' : World) : Prop := ∃ (n : Nat) (b : Bool), BeginsAt l c n ∧ e = .returned (.tuple #[.int .i64 n, .bool b]) ∧ Below w.heap.size w w'
theorem fr_lt {x c : Int} (h : cmpI x c < 0) : x < c := by
  unfold cmpI at h
  repeat' split at h
  all_goals omega
theorem fr_ge {x c : Int} (h : 0 ≤ cmpI x c) : c ≤ x := by
  unfold cmpI at h
  repeat' split at h
  all_goals omega
theorem between_up {l : List Nt} {c : Int} {a b m : Nat} {x : Nt} (hs : ∀ (i j : Nat) (x y : Nt), i ≤ j → l[i]? = some x → l[j]? = some y → x.fr ≤ y.fr) (h : Between l c a b) (hm : m < b) (hx : l[m]? = some x) (hc : x.fr < c) : Between l c (m + 1) b :=
  ⟨hm, h.2.1, fun k y hk hy => Int.lt_of_le_of_lt (hs k m y x (by omega) hy hx) hc, h.2.2.2⟩
theorem between_down {l : List Nt} {c : Int} {a b m : Nat} {x : Nt} (hs : ∀ (i j : Nat) (x y : Nt), i ≤ j → l[i]? = some x → l[j]? = some y → x.fr ≤ y.fr) (h : Between l c a b) (ha : a ≤ m) (hm : m < b) (hx : l[m]? = some x) (hc : c ≤ x.fr) : Between l c a m :=
  ⟨ha, by have := h.2.1; omega, h.2.2.1, fun k y hk hy => Int.le_trans hc (hs m k x y hk hx hy)⟩
set_option maxRecDepth 100000 in
set_option maxHeartbeats 8000000 in
theorem search_any (o : Option Addr) (l : List Nt) (cap : Nat) (c : Int) (w : World) (h : NotesAt w o l) (hl : l.length ≤ 140737488351232) (hs : ∀ (i j : Nat) (x y : Nt), i ≤ j → l[i]? = some x → l[j]? = some y → x.fr ≤ y.fr) :
    Calls Tryz.prog 89 #[.slice o l.length cap, .int .i64 c, .func (.func 90) #[] #[]] w (Found l c w) := by
  have HN : Hid (NotesAt w o l) := h
  have HS := Lib.hid hs
  clear h hs
  go_enter Tryz.func89, Tryz.ntmps89
  go_wp2
  go_loopw [9, 10] (fun i j wr => ∃ a b : Nat, i = .int .i64 a ∧ j = .int .i64 b ∧ a ≤ b ∧ b ≤ l.length ∧ Hid (Between l c a b) ∧ Hid (Below w.heap.size w wr)) (fun i j _ => (intOf j).toNat - (intOf i).toNat)
  case atStart => exact ⟨0, l.length, rfl, rfl, by omega, by omega, (⟨by omega, by omega, fun k x hk => by omega, fun k x hk hx => by have := (List.getElem?_eq_some_iff.1 hx).1; omega⟩ : Between l c 0 l.length), (Below.refl _ _ : Below _ _ _)⟩
  case round =>
    obtain ⟨a, b, rfl, rfl, hab, hbl, HU, HB⟩ := hrel
    by_cases hlt : a < b
    · obtain ⟨x, hx⟩ := get_of_lt (l := l) (show (a + b) / 2 < l.length by omega)
      obtain ⟨bb, off, rfl, hb, hr⟩ := HN.out _ _ hx
      have HX : Hid (l[(a + b) / 2]? = some x) := hx
      have HR : Hid (wr.rangeAt bb (off + (a + b) / 2 * 10) x.cells) := rangeAt_below HB.out hb hr
      clear hx hr
      go_wp2_with (first
        | (refine wpList_load_mid rfl 41 (.tmp 27) rfl bb (off + (a + b) / 2 * 10) ?_ _ _ HR.out Tryz.underlying41 rfl (by kernel_rfl) ?_; · rfl)
        | (go_at_call 90; refine (from_any x c _).mono ?_; rintro e w' ⟨rfl, hb2⟩; have HB2 := Lib.hid hb2; clear hb2))
      case' roundEnd =>
        rename_i hx
        go_roundw
      · rename_i hx
        refine ⟨(a + b) / 2 + 1, b, by rw [show ((a : Int) + b) / 2 + 1 = (((a + b) / 2 + 1 : Nat) : Int) by omega], rfl, by omega, by omega, (between_up HS.out HU.out (by omega) HX.out (fr_lt hx) : Between l c ((a + b) / 2 + 1) b), (HB.out.trans (HB2.out.mono HB.out.size) : Below _ _ _)⟩
      · simp [intOf]; omega
      · rename_i hx
        go_roundw
        case rel => exact ⟨a, (a + b) / 2, rfl, by rw [show ((a : Int) + b) / 2 = (((a + b) / 2 : Nat) : Int) by omega], by omega, by omega, (between_down HS.out HU.out (by omega) (by omega) HX.out (fr_ge hx) : Between l c a ((a + b) / 2)), (HB.out.trans (HB2.out.mono HB.out.size) : Below _ _ _)⟩
        case measure => simp [intOf]; omega
    · have hab' : a = b := by omega
      subst hab'
      have hfin : BeginsAt l c a := ⟨hbl, HU.out.2.2.1, HU.out.2.2.2⟩
      have HF := Lib.hid hfin
      clear hfin
      by_cases hal : a < l.length
      · obtain ⟨⟨v, fr, un, a0, a1, a2, a3, a4, a5, td⟩, hx⟩ := get_of_lt hal
        obtain ⟨bb, off, rfl, hb, hr⟩ := HN.out _ _ hx
        have hr2 := rangeAt_below HB.out hb hr
        have k0 : wr.cell? ⟨bb, off + a * 10, none⟩ = some (.int .i64 v) := hr2 0 _ rfl
        have k1 : wr.cell? ⟨bb, off + a * 10 + 1, none⟩ = some (.int .i64 fr) := hr2 1 _ rfl
        have k2 : wr.cell? ⟨bb, off + a * 10 + 2, none⟩ = some (.int .i64 un) := hr2 2 _ rfl
        have k3 : wr.cell? ⟨bb, off + a * 10 + 3, none⟩ = some (.int .i64 a0) := hr2 3 _ rfl
        have k4 : wr.cell? ⟨bb, off + a * 10 + 4, none⟩ = some (.int .i64 a1) := hr2 4 _ rfl
        have k5 : wr.cell? ⟨bb, off + a * 10 + 5, none⟩ = some (.int .i64 a2) := hr2 5 _ rfl
        have k6 : wr.cell? ⟨bb, off + a * 10 + 6, none⟩ = some (.int .i64 a3) := hr2 6 _ rfl
        have k7 : wr.cell? ⟨bb, off + a * 10 + 7, none⟩ = some (.int .i64 a4) := hr2 7 _ rfl
        have k8 : wr.cell? ⟨bb, off + a * 10 + 8, none⟩ = some (.int .i64 a5) := hr2 8 _ rfl
        have k9 : wr.cell? ⟨bb, off + a * 10 + 9, none⟩ = some (.bool td) := hr2 9 _ rfl
        clear hx hr hr2
        go_wp2_with (go_at_call 90; refine (from_any ⟨v, fr, un, a0, a1, a2, a3, a4, a5, td⟩ c _).mono ?_; rintro e w' ⟨rfl, hb2⟩; have HB2 := Lib.hid hb2; clear hb2)
        go_ret2
        exact ⟨a, _, HF.out, rfl, HB.out.trans (HB2.out.mono HB.out.size)⟩
      · go_wp2
        go_ret2
        exact ⟨a, _, HF.out, rfl, HB.out⟩
end Go.Sc
