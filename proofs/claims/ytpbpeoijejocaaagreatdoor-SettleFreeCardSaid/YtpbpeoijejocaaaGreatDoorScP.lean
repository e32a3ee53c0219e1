/- score.pairs. -/
import Derived.Test.YtpbpeoijejocaaaGreatDoorScR
import Derived.Deep.RegionHeld3
namespace Go.Sc
open Go.RowKit Go.Proofs

def pairOk (N : List Nt) (p : Pr) : Prop := 0 ≤ p.a ∧ p.a < p.b ∧ p.b < N.length ∧ okV 16 p.w0 p.w1 p.w2 p.w3 p.w4 p.w5 ∧ 0 ≤ p.bd ∧ p.bd ≤ 100000 ∧
  ∀ x y, N[p.a.toNat]? = some x → N[p.b.toNat]? = some y → x.v ≠ y.v ∧ y.fr < x.un
def pairsOk (N : List Nt) (l : List Pr) : Prop := (∀ p ∈ l, pairOk N p) ∧ rising ltP l
def pairsTo (N : List Nt) (l : List Pr) (k : Nat) : Prop := ∀ n ∈ l.take k, pairOk N n
theorem pairOk_mk {N : List Nt} {i j : Nat} {w0 w1 w2 w3 w4 w5 bd : Int} {x y : Nt} (hx : N[i]? = some x) (hy : N[j]? = some y) (h1 : (i : Int) < j) (h2 : (j : Int) < N.length) (h3 : okV 16 w0 w1 w2 w3 w4 w5) (h4 : 0 ≤ bd) (h5 : bd ≤ 100000) (h6 : x.v ≠ y.v) (h7 : y.fr < x.un) :
    pairOk N ⟨i, j, w0, w1, w2, w3, w4, w5, bd⟩ :=
  ⟨Int.natCast_nonneg i, h1, h2, h3, h4, h5, fun x' y' hx' hy' => by
    have hx' : N[i]? = some x' := hx'
    have hy' : N[j]? = some y' := hy'
    rw [hx] at hx'
    rw [hy] at hy'
    cases hx'
    cases hy'
    exact ⟨h6, h7⟩⟩
theorem pairOk_at {N : List Nt} {i j : Nat} {w0 w1 w2 w3 w4 w5 bd : Int} {x y : Nt} (h : pairOk N ⟨i, j, w0, w1, w2, w3, w4, w5, bd⟩) (hx : N[i]? = some x) (hy : N[j]? = some y) : x.v ≠ y.v ∧ y.fr < x.un :=
  h.2.2.2.2.2.2 x y hx hy
set_option maxRecDepth 100000 in
set_option maxHeartbeats 8000000 in
theorem pairs_any (V cs : Value) (o1 o : Option Addr) (N : List Nt) (cap1 : Nat) (l : List Pr) (cap : Nat) (w : World) (h1 : NotesAt w o1 N) (h : PairsAt w o l) (hl : l.length ≤ 140737488351232) :
    Calls Tryz.prog 75 #[.agg #[V, .slice o1 N.length cap1, .slice o l.length cap, cs]] w (Says (pairsOk N l) w) := by
  have HN1 : Hid (NotesAt w o1 N) := h1
  have HN : Hid (PairsAt w o l) := h
  clear h h1
  go_enter Tryz.func75, Tryz.ntmps75
  go_wp2
  go_loopw [10] (fun i wr => ∃ k : Nat, k ≤ l.length ∧ i = .int .i64 k ∧ Hid (pairsTo N l k) ∧ Hid (Below (w.heap.size + 1) (w.alloc (.cells #[V, .slice o1 N.length cap1, .slice o l.length cap, cs] 26)) wr)) (fun i _ => l.length - (intOf i).toNat)
  case atStart => exact ⟨0, by omega, rfl, (fun n hn => by simp at hn : pairsTo N l 0), (Below.refl _ _ : Below _ _ _)⟩
  case round =>
    obtain ⟨k, hk, rfl, HU, HB⟩ := hrel
    have hz : w.heap.size < wr.heap.size := by have := HB.out.size; simp at this; omega
    have g1 : wr.cell? ⟨w.heap.size, 1, none⟩ = some (.slice o1 N.length cap1) := (HB.out.cell (p := ⟨w.heap.size, 1, none⟩) (by simp)).trans (by simp)
    have g2 : wr.cell? ⟨w.heap.size, 2, none⟩ = some (.slice o l.length cap) := (HB.out.cell (p := ⟨w.heap.size, 2, none⟩) (by simp)).trans (by simp)
    by_cases hlt : k < l.length
    · obtain ⟨⟨pa, pb, w0, w1, w2, w3, w4, w5, bd⟩, hn⟩ := get_of_lt hlt
      obtain ⟨b, off, rfl, hb, hr⟩ := HN.out k _ hn
      have hr2 : Hid (wr.rangeAt b (off + k * 9) [.int .i64 pa, .int .i64 pb, .int .i64 w0, .int .i64 w1, .int .i64 w2, .int .i64 w3, .int .i64 w4, .int .i64 w5, .int .i64 bd]) := rangeAt_below HB.out (by omega) (rangeAt_alloc _ hr)
      have HNN : Hid (l[k]? = some ⟨pa, pb, w0, w1, w2, w3, w4, w5, bd⟩) := hn
      clear hn hr
      go_wp2_with (first
        | (refine wpList_load_mid rfl 84 (.tmp 12) rfl b (off + k * 9) rfl _ _ hr2.out Tryz.underlying84 rfl (by kernel_rfl) ?_)
        | (go_at_call 93; refine (bounded_any _ _ _ _ _ _ _ _ (by omega) (by omega)).mono ?_; rintro e w' ⟨rfl, hb2⟩; have k8 : w'.cell? ⟨wr.heap.size, 8, none⟩ = some (.int .i64 bd) := ((bcell hb2).1 _ _ (by simp)).trans (by go_simp); have k0 : w'.cell? ⟨wr.heap.size, 0, none⟩ = some (.int .i64 pa) := ((bcell hb2).1 _ _ (by simp)).trans (by go_simp); have k1 : w'.cell? ⟨wr.heap.size, 1, none⟩ = some (.int .i64 pb) := ((bcell hb2).1 _ _ (by simp)).trans (by go_simp); have k2 : w'.cell? ⟨w.heap.size, 1, none⟩ = some (.slice o1 N.length cap1) := ((bcell hb2).1 _ _ (by simp; omega)).trans (by go_simp); have HB2 := Lib.hid hb2; clear hb2))
      all_goals try (
        go_ret
        refine Says.no (fun hh => ?_) ?_
        · have h1 := hh.1 _ (mem_of_get HNN.out)
          obtain ⟨c1, c2, c3, c4, c5, c6, c7⟩ := h1
          dsimp only at c1 c2 c3 c4 c5 c6
          first
            | omega
            | exact absurd c4 (by assumption)
        · first
            | exact (below_loop HB.out).alloc (by omega) _
            | exact ((below_loop HB.out).alloc (by omega) _).trans (HB2.out.mono (by simp; omega)))
      obtain ⟨i, rfl⟩ : ∃ i : Nat, pa = i := ⟨pa.toNat, by omega⟩
      obtain ⟨j, rfl⟩ : ∃ j : Nat, pb = j := ⟨pb.toNat, by omega⟩
      obtain ⟨⟨xv, xf, xu, x0, x1, x2, x3, x4, x5, xt⟩, hx⟩ := get_of_lt (l := N) (show i < N.length by omega)
      obtain ⟨⟨yv, yf, yu, y0, y1, y2, y3, y4, y5, yt⟩, hy⟩ := get_of_lt (l := N) (show j < N.length by omega)
      obtain ⟨bN, offN, rfl, hbN, hrx⟩ := HN1.out i _ hx
      obtain ⟨bN', offN', ho', hbN', hry⟩ := HN1.out j _ hy
      cases ho'
      have hzz : Below w.heap.size w w' := ((below_loop HB.out).alloc (by omega) _).trans (HB2.out.mono (by simp; omega))
      have hrx' : w'.rangeAt bN (offN + i * 10) (Nt.cells ⟨xv, xf, xu, x0, x1, x2, x3, x4, x5, xt⟩) := rangeAt_below hzz hbN hrx
      have hry' : w'.rangeAt bN (offN + j * 10) (Nt.cells ⟨yv, yf, yu, y0, y1, y2, y3, y4, y5, yt⟩) := rangeAt_below hzz hbN hry
      have HX : Hid (N[i]? = some ⟨xv, xf, xu, x0, x1, x2, x3, x4, x5, xt⟩) := hx
      have HY : Hid (N[j]? = some ⟨yv, yf, yu, y0, y1, y2, y3, y4, y5, yt⟩) := hy
      have hz1 : Below (w.heap.size + 1) (w.alloc (.cells #[V, .slice (some ⟨bN, offN, none⟩) N.length cap1, .slice (some ⟨b, off, none⟩) l.length cap, cs] 26)) w' := (HB.out.alloc (by omega) _).trans (HB2.out.mono (by simp; omega))
      have hz2 : w.heap.size + 1 ≤ w'.heap.size := by have := hz1.size; simp at this; omega
      have HZ := Lib.hid hzz
      have HZ1 := Lib.hid hz1
      clear hx hy hrx hry hzz hz1
      have ci0 : w'.cell? ⟨bN, offN + i * 10, none⟩ = some (.int .i64 xv) := hrx' 0 _ rfl
      have ci1 : w'.cell? ⟨bN, offN + i * 10 + 1, none⟩ = some (.int .i64 xf) := hrx' 1 _ rfl
      have ci2 : w'.cell? ⟨bN, offN + i * 10 + 2, none⟩ = some (.int .i64 xu) := hrx' 2 _ rfl
      have ci3 : w'.cell? ⟨bN, offN + i * 10 + 3, none⟩ = some (.int .i64 x0) := hrx' 3 _ rfl
      have ci4 : w'.cell? ⟨bN, offN + i * 10 + 4, none⟩ = some (.int .i64 x1) := hrx' 4 _ rfl
      have ci5 : w'.cell? ⟨bN, offN + i * 10 + 5, none⟩ = some (.int .i64 x2) := hrx' 5 _ rfl
      have ci6 : w'.cell? ⟨bN, offN + i * 10 + 6, none⟩ = some (.int .i64 x3) := hrx' 6 _ rfl
      have ci7 : w'.cell? ⟨bN, offN + i * 10 + 7, none⟩ = some (.int .i64 x4) := hrx' 7 _ rfl
      have ci8 : w'.cell? ⟨bN, offN + i * 10 + 8, none⟩ = some (.int .i64 x5) := hrx' 8 _ rfl
      have ci9 : w'.cell? ⟨bN, offN + i * 10 + 9, none⟩ = some (.bool xt) := hrx' 9 _ rfl
      have cj0 : w'.cell? ⟨bN, offN + j * 10, none⟩ = some (.int .i64 yv) := hry' 0 _ rfl
      have cj1 : w'.cell? ⟨bN, offN + j * 10 + 1, none⟩ = some (.int .i64 yf) := hry' 1 _ rfl
      have cj2 : w'.cell? ⟨bN, offN + j * 10 + 2, none⟩ = some (.int .i64 yu) := hry' 2 _ rfl
      have cj3 : w'.cell? ⟨bN, offN + j * 10 + 3, none⟩ = some (.int .i64 y0) := hry' 3 _ rfl
      have cj4 : w'.cell? ⟨bN, offN + j * 10 + 4, none⟩ = some (.int .i64 y1) := hry' 4 _ rfl
      have cj5 : w'.cell? ⟨bN, offN + j * 10 + 5, none⟩ = some (.int .i64 y2) := hry' 5 _ rfl
      have cj6 : w'.cell? ⟨bN, offN + j * 10 + 6, none⟩ = some (.int .i64 y3) := hry' 6 _ rfl
      have cj7 : w'.cell? ⟨bN, offN + j * 10 + 7, none⟩ = some (.int .i64 y4) := hry' 7 _ rfl
      have cj8 : w'.cell? ⟨bN, offN + j * 10 + 8, none⟩ = some (.int .i64 y5) := hry' 8 _ rfl
      have cj9 : w'.cell? ⟨bN, offN + j * 10 + 9, none⟩ = some (.bool yt) := hry' 9 _ rfl
      clear hrx' hry'
      have q1 : (0 : Int) ≤ (i : Int) := by omega
      have q2 : (i : Int) < (N.length : Int) := by omega
      have q3 : (0 : Int) ≤ (j : Int) := by omega
      have q4 : (j : Int) < (N.length : Int) := by omega
      go_region_held3 (fun W => W.cell? ⟨w.heap.size, 1, none⟩ = some (.slice (some ⟨bN, offN, none⟩) N.length cap1) ∧ W.cell? ⟨wr.heap.size, 0, none⟩ = some (.int .i64 i) ∧ W.cell? ⟨wr.heap.size, 1, none⟩ = some (.int .i64 j) ∧ W.cell? ⟨bN, offN + i * 10, none⟩ = some (.int .i64 xv) ∧ W.cell? ⟨bN, offN + i * 10 + 1, none⟩ = some (.int .i64 xf) ∧ W.cell? ⟨bN, offN + i * 10 + 2, none⟩ = some (.int .i64 xu) ∧ W.cell? ⟨bN, offN + i * 10 + 3, none⟩ = some (.int .i64 x0) ∧ W.cell? ⟨bN, offN + i * 10 + 4, none⟩ = some (.int .i64 x1) ∧ W.cell? ⟨bN, offN + i * 10 + 5, none⟩ = some (.int .i64 x2) ∧ W.cell? ⟨bN, offN + i * 10 + 6, none⟩ = some (.int .i64 x3) ∧ W.cell? ⟨bN, offN + i * 10 + 7, none⟩ = some (.int .i64 x4) ∧ W.cell? ⟨bN, offN + i * 10 + 8, none⟩ = some (.int .i64 x5) ∧ W.cell? ⟨bN, offN + i * 10 + 9, none⟩ = some (.bool xt) ∧ W.cell? ⟨bN, offN + j * 10, none⟩ = some (.int .i64 yv) ∧ W.cell? ⟨bN, offN + j * 10 + 1, none⟩ = some (.int .i64 yf) ∧ W.cell? ⟨bN, offN + j * 10 + 2, none⟩ = some (.int .i64 yu) ∧ W.cell? ⟨bN, offN + j * 10 + 3, none⟩ = some (.int .i64 y0) ∧ W.cell? ⟨bN, offN + j * 10 + 4, none⟩ = some (.int .i64 y1) ∧ W.cell? ⟨bN, offN + j * 10 + 5, none⟩ = some (.int .i64 y2) ∧ W.cell? ⟨bN, offN + j * 10 + 6, none⟩ = some (.int .i64 y3) ∧ W.cell? ⟨bN, offN + j * 10 + 7, none⟩ = some (.int .i64 y4) ∧ W.cell? ⟨bN, offN + j * 10 + 8, none⟩ = some (.int .i64 y5) ∧ W.cell? ⟨bN, offN + j * 10 + 9, none⟩ = some (.bool yt)) (go_keep) (fail)
      all_goals go_wp2
      all_goals first
        | (rename_i hne hx
           go_roundw
           case rel => exact ⟨k + 1, by omega, by go_num, (all_step HU.out HNN.out (pairOk_mk HX.out HY.out (by omega) (by omega) (by assumption) (by omega) (by omega) hne hx.2) : pairsTo N l (k + 1)), ((((HZ1.out.alloc hz2 _).alloc (by simp; omega) _).drew : Below _ _ _))⟩
           case measure => simp [intOf]; omega)
        | (go_ret
           refine Says.no (fun hh => ?_) (((HZ.out.alloc (by omega) _).alloc (by simp; omega) _).drew)
           have h1 := pairOk_at (hh.1 _ (mem_of_get HNN.out)) HX.out HY.out
           obtain ⟨c1, c2⟩ := h1
           dsimp only at c1 c2
           first
             | exact c1 (by assumption)
             | (rename_i hx; rcases hx with hx | hx
                · exact c1 (by simpa using hx)
                · omega))
    · have hkl : k = l.length := by omega
      subst hkl
      go_wp2_with (go_at_call 97; refine (risingP_any _ _ _ _ (HN.out.below (below_loop HB.out)) hl).mono ?_; rintro e w' ⟨bb, hbb, rfl, hb2⟩; have HB2 := Lib.hid hb2; have HBB := Lib.hid hbb; clear hb2 hbb)
      go_ret
      refine ⟨bb, ?_, rfl, (below_loop HB.out).trans (HB2.out.mono (by omega))⟩
      rw [HBB.out]
      exact ⟨fun hh => ⟨by have := HU.out; unfold pairsTo at this; rwa [List.take_length] at this, hh⟩, fun hh => hh.2⟩
end Go.Sc
