/- score.Valid. -/
import Derived.Test.YtpbpeoijejocaaaGreatDoorScV
import Derived.Test.YtpbpeoijejocaaaGreatDoorScR
import Derived.Test.YtpbpeoijejocaaaGreatDoorScP
namespace Go.Sc
open Go.RowKit Go.Proofs

/-- A score. -/
structure Sc where
  v : Int
  n : List Nt
  p : List Pr
  c : List Int
  deriving DecidableEq
/-- Where its slices lie. -/
structure Lay where
  o1 : Option Addr
  k1 : Nat
  o2 : Option Addr
  k2 : Nat
  o3 : Option Addr
  k3 : Nat
def Sc.cells (s : Sc) (y : Lay) : Array Value := #[.int .i64 s.v, .slice y.o1 s.n.length y.k1, .slice y.o2 s.p.length y.k2, .slice y.o3 s.c.length y.k3]
/-- It lies in memory. -/
def ScAt (w : World) (s : Sc) (y : Lay) : Prop := NotesAt w y.o1 s.n ∧ PairsAt w y.o2 s.p ∧ IntsAt w y.o3 s.c ∧ s.n.length ≤ 140737488351232 ∧ s.p.length ≤ 140737488351232 ∧ s.c.length ≤ 140737488351232
theorem ScAt.below {w w' : World} {s : Sc} {y : Lay} (h : ScAt w s y) (hb : Below w.heap.size w w') : ScAt w' s y :=
  ⟨h.1.below hb, h.2.1.below hb, h.2.2.1.below hb, h.2.2.2⟩
def validTo (s : Sc) (k : Nat) : Prop :=
  (1 ≤ k → sizesOk s.v s.n.length s.p.length s.c.length) ∧ (2 ≤ k → notesOk s.v s.n) ∧ (3 ≤ k → voicesOk s.n) ∧ (4 ≤ k → pairsOk s.n s.p) ∧ (5 ≤ k → cadOk s.c)
def validOk (s : Sc) : Prop := sizesOk s.v s.n.length s.p.length s.c.length ∧ notesOk s.v s.n ∧ voicesOk s.n ∧ pairsOk s.n s.p ∧ cadOk s.c
theorem eight {s : Sc} (h : validTo s 2) : ∀ n ∈ s.n, 0 ≤ n.v ∧ n.v < 8 := fun n hn => by
  have h1 := h.1 (by omega)
  have h2 := (h.2.1 (by omega)).1 n hn
  unfold sizesOk at h1
  unfold noteOk at h2
  omega
theorem below_two {w wr : World} {a b : Obj} (h : Below (w.heap.size + 2) ((w.alloc a).alloc b) wr) : Below w.heap.size w wr :=
  (((Below.refl _ w).alloc (Nat.le_refl _) a).alloc (by simp) b).trans (h.mono (by omega))
set_option maxRecDepth 100000 in
set_option maxHeartbeats 16000000 in
theorem valid_any (s : Sc) (y : Lay) (w : World) (h : ScAt w s y) : Calls Tryz.prog 44 #[.agg (s.cells y)] w (Says (validOk s) w) := by
  obtain ⟨V, N, P, C⟩ := s
  obtain ⟨o1, k1, o2, k2, o3, k3⟩ := y
  have HS : Hid (ScAt w ⟨V, N, P, C⟩ ⟨o1, k1, o2, k2, o3, k3⟩) := h
  clear h
  show Calls Tryz.prog 44 #[.agg #[.int .i64 V, .slice o1 N.length k1, .slice o2 P.length k2, .slice o3 C.length k3]] w _
  go_enter Tryz.func44, Tryz.ntmps44
  go_wp2
  have hz : w.heap.size + 2 = ((w.alloc (.cells #[.int .i64 V, .slice o1 N.length k1, .slice o2 P.length k2, .slice o3 C.length k3] 26)).alloc (.cells #[.func (.func 72) #[] #[], .func (.func 73) #[] #[], .func (.func 74) #[] #[], .func (.func 75) #[] #[], .func (.func 76) #[] #[]] 32)).heap.size := by simp
  go_loopw [7] (fun i wr => ∃ k : Nat, k ≤ 5 ∧ i = .int .i64 k ∧ Hid (validTo ⟨V, N, P, C⟩ k) ∧ Hid (Below (w.heap.size + 2) ((w.alloc (.cells #[.int .i64 V, .slice o1 N.length k1, .slice o2 P.length k2, .slice o3 C.length k3] 26)).alloc (.cells #[.func (.func 72) #[] #[], .func (.func 73) #[] #[], .func (.func 74) #[] #[], .func (.func 75) #[] #[], .func (.func 76) #[] #[]] 32)) wr)) (fun i _ => 5 - (intOf i).toNat)
  case atStart => exact ⟨0, by omega, rfl, (⟨fun h => by omega, fun h => by omega, fun h => by omega, fun h => by omega, fun h => by omega⟩ : validTo _ 0), (Below.refl _ _ : Below _ _ _)⟩
  case round =>
    obtain ⟨k, hk, rfl, HU, HB⟩ := hrel
    have hz2 : w.heap.size + 2 ≤ wr.heap.size := hz ▸ HB.out.size
    have HR : Hid (wr.rangeAt w.heap.size 0 [.int .i64 V, .slice o1 N.length k1, .slice o2 P.length k2, .slice o3 C.length k3]) := rangeAt_below HB.out (by omega) (rangeAt_alloc _ (fun j v hj => by
      rcases (show j = 0 ∨ j = 1 ∨ j = 2 ∨ j = 3 ∨ 4 ≤ j by omega) with rfl | rfl | rfl | rfl | h4
      · simpa using hj
      · simpa using hj
      · simpa using hj
      · simpa using hj
      · rw [List.getElem?_eq_none (by simpa using h4)] at hj; cases hj))
    have HA' : ScAt wr ⟨V, N, P, C⟩ ⟨o1, k1, o2, k2, o3, k3⟩ := HS.out.below (below_two HB.out)
    have HA := Lib.hid HA'
    clear HA'
    rcases (show k = 0 ∨ k = 1 ∨ k = 2 ∨ k = 3 ∨ k = 4 ∨ k = 5 by omega) with rfl | rfl | rfl | rfl | rfl | rfl
    · have g9 : wr.cell? ⟨w.heap.size + 1, 0, none⟩ = some (.func (.func 72) #[] #[]) := (HB.out.cell (p := ⟨w.heap.size + 1, 0, none⟩) (by simp)).trans (by simp)
      go_wp2_with (first
        | (refine wpList_load_mid rfl 26 (.tmp 1) rfl w.heap.size 0 rfl [.int .i64 V, .slice o1 N.length k1, .slice o2 P.length k2, .slice o3 C.length k3] _ HR.out Tryz.underlying26 rfl (by kernel_rfl) ?_)
        | (go_at_call 72; refine (sizes_any _ _ _ _ _ _ _ _ _ _ _).mono ?_; rintro e w' ⟨bb, hbb, rfl, hb2⟩; have HB2 := Lib.hid hb2; have HBB := Lib.hid hbb; clear hb2 hbb))
      case' roundEnd => go_roundw
      case' rel => exact ⟨1, by omega, rfl, (⟨fun _ => HBB.out.1 (by simpa using ‹(!bb) = false›), fun h => by omega, fun h => by omega, fun h => by omega, fun h => by omega⟩ : validTo _ 1), (HB.out.trans (HB2.out.mono (by omega)) : Below _ _ _)⟩
      case' measure => simp [intOf]
      go_ret
      refine Says.no (fun hh => ?_) ((below_two HB.out).trans (HB2.out.mono (by omega)))
      have := HBB.out.2 hh.1; simp [this] at *
    · have g9 : wr.cell? ⟨w.heap.size + 1, 1, none⟩ = some (.func (.func 73) #[] #[]) := (HB.out.cell (p := ⟨w.heap.size + 1, 1, none⟩) (by simp)).trans (by simp)
      go_wp2_with (first
        | (refine wpList_load_mid rfl 26 (.tmp 1) rfl w.heap.size 0 rfl [.int .i64 V, .slice o1 N.length k1, .slice o2 P.length k2, .slice o3 C.length k3] _ HR.out Tryz.underlying26 rfl (by kernel_rfl) ?_)
        | (go_at_call 73; refine (notes_any _ _ _ _ _ _ _ HA.out.1 HA.out.2.2.2.1).mono ?_; rintro e w' ⟨bb, hbb, rfl, hb2⟩; have HB2 := Lib.hid hb2; have HBB := Lib.hid hbb; clear hb2 hbb))
      case' roundEnd => go_roundw
      case' rel => exact ⟨2, by omega, rfl, (⟨(fun _ => HU.out.1 (by omega)), fun _ => HBB.out.1 (by simpa using ‹(!bb) = false›), fun h => by omega, fun h => by omega, fun h => by omega⟩ : validTo _ 2), (HB.out.trans (HB2.out.mono (by omega)) : Below _ _ _)⟩
      case' measure => simp [intOf]
      go_ret
      refine Says.no (fun hh => ?_) ((below_two HB.out).trans (HB2.out.mono (by omega)))
      have := HBB.out.2 hh.2.1; simp [this] at *
    · have g9 : wr.cell? ⟨w.heap.size + 1, 2, none⟩ = some (.func (.func 74) #[] #[]) := (HB.out.cell (p := ⟨w.heap.size + 1, 2, none⟩) (by simp)).trans (by simp)
      go_wp2_with (first
        | (refine wpList_load_mid rfl 26 (.tmp 1) rfl w.heap.size 0 rfl [.int .i64 V, .slice o1 N.length k1, .slice o2 P.length k2, .slice o3 C.length k3] _ HR.out Tryz.underlying26 rfl (by kernel_rfl) ?_)
        | (go_at_call 74; refine (voices_any _ _ _ _ _ _ _ HA.out.1 HA.out.2.2.2.1 (eight HU.out)).mono ?_; rintro e w' ⟨bb, hbb, rfl, hb2⟩; have HB2 := Lib.hid hb2; have HBB := Lib.hid hbb; clear hb2 hbb))
      case' roundEnd => go_roundw
      case' rel => exact ⟨3, by omega, rfl, (⟨(fun _ => HU.out.1 (by omega)), (fun _ => HU.out.2.1 (by omega)), fun _ => HBB.out.1 (by simpa using ‹(!bb) = false›), fun h => by omega, fun h => by omega⟩ : validTo _ 3), (HB.out.trans (HB2.out.mono (by omega)) : Below _ _ _)⟩
      case' measure => simp [intOf]
      go_ret
      refine Says.no (fun hh => ?_) ((below_two HB.out).trans (HB2.out.mono (by omega)))
      have := HBB.out.2 hh.2.2.1; simp [this] at *
    · have g9 : wr.cell? ⟨w.heap.size + 1, 3, none⟩ = some (.func (.func 75) #[] #[]) := (HB.out.cell (p := ⟨w.heap.size + 1, 3, none⟩) (by simp)).trans (by simp)
      go_wp2_with (first
        | (refine wpList_load_mid rfl 26 (.tmp 1) rfl w.heap.size 0 rfl [.int .i64 V, .slice o1 N.length k1, .slice o2 P.length k2, .slice o3 C.length k3] _ HR.out Tryz.underlying26 rfl (by kernel_rfl) ?_)
        | (go_at_call 75; refine (pairs_any _ _ _ _ _ _ _ _ _ HA.out.1 HA.out.2.1 HA.out.2.2.2.2.1).mono ?_; rintro e w' ⟨bb, hbb, rfl, hb2⟩; have HB2 := Lib.hid hb2; have HBB := Lib.hid hbb; clear hb2 hbb))
      case' roundEnd => go_roundw
      case' rel => exact ⟨4, by omega, rfl, (⟨(fun _ => HU.out.1 (by omega)), (fun _ => HU.out.2.1 (by omega)), (fun _ => HU.out.2.2.1 (by omega)), fun _ => HBB.out.1 (by simpa using ‹(!bb) = false›), fun h => by omega⟩ : validTo _ 4), (HB.out.trans (HB2.out.mono (by omega)) : Below _ _ _)⟩
      case' measure => simp [intOf]
      go_ret
      refine Says.no (fun hh => ?_) ((below_two HB.out).trans (HB2.out.mono (by omega)))
      have := HBB.out.2 hh.2.2.2.1; simp [this] at *
    · have g9 : wr.cell? ⟨w.heap.size + 1, 4, none⟩ = some (.func (.func 76) #[] #[]) := (HB.out.cell (p := ⟨w.heap.size + 1, 4, none⟩) (by simp)).trans (by simp)
      go_wp2_with (first
        | (refine wpList_load_mid rfl 26 (.tmp 1) rfl w.heap.size 0 rfl [.int .i64 V, .slice o1 N.length k1, .slice o2 P.length k2, .slice o3 C.length k3] _ HR.out Tryz.underlying26 rfl (by kernel_rfl) ?_)
        | (go_at_call 76; refine (cadences_any _ _ _ _ _ _ _ HA.out.2.2.1 HA.out.2.2.2.2.2).mono ?_; rintro e w' ⟨bb, hbb, rfl, hb2⟩; have HB2 := Lib.hid hb2; have HBB := Lib.hid hbb; clear hb2 hbb))
      case' roundEnd => go_roundw
      case' rel => exact ⟨5, by omega, rfl, (⟨(fun _ => HU.out.1 (by omega)), (fun _ => HU.out.2.1 (by omega)), (fun _ => HU.out.2.2.1 (by omega)), (fun _ => HU.out.2.2.2.1 (by omega)), fun _ => HBB.out.1 (by simpa using ‹(!bb) = false›)⟩ : validTo _ 5), (HB.out.trans (HB2.out.mono (by omega)) : Below _ _ _)⟩
      case' measure => simp [intOf]
      go_ret
      refine Says.no (fun hh => ?_) ((below_two HB.out).trans (HB2.out.mono (by omega)))
      have := HBB.out.2 hh.2.2.2.2; simp [this] at *
    · go_wp2
      go_ret
      refine Says.yes ?_ (below_two HB.out)
      exact ⟨HU.out.1 (by omega), HU.out.2.1 (by omega), HU.out.2.2.1 (by omega), HU.out.2.2.2.1 (by omega), HU.out.2.2.2.2 (by omega)⟩
end Go.Sc
