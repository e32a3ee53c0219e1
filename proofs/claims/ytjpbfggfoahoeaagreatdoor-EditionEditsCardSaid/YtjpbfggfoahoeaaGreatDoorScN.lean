/- score.notes. -/
import Derived.Test.YtjpbfggfoahoeaaGreatDoorScR
namespace Go.Sc
open Go.RowKit Go.Proofs

def notesTo (V : Int) (l : List Nt) (k : Nat) : Prop := ∀ n ∈ l.take k, noteOk V n
set_option maxRecDepth 100000 in
set_option maxHeartbeats 2000000 in
theorem notes_any (V : Int) (o : Option Addr) (l : List Nt) (cap : Nat) (ps cs : Value) (w : World) (h : NotesAt w o l) (hl : l.length ≤ 140737488351232) :
    Calls Tryz.prog 43 #[.agg #[.int .i64 V, .slice o l.length cap, ps, cs]] w (Says (notesOk V l) w) := by
  have HN : Hid (NotesAt w o l) := h
  clear h
  go_enter Tryz.func43, Tryz.ntmps43
  go_wp2
  go_loopw [8] (fun i wr => ∃ k : Nat, k ≤ l.length ∧ i = .int .i64 k ∧ Hid (notesTo V l k) ∧ Hid (Below (w.heap.size + 1) (w.alloc (.cells #[.int .i64 V, .slice o l.length cap, ps, cs] 26)) wr)) (fun i _ => l.length - (intOf i).toNat)
  case atStart => exact ⟨0, by omega, rfl, (fun n hn => by simp at hn : notesTo V l 0), (Below.refl _ _ : Below _ _ _)⟩
  case round =>
    obtain ⟨k, hk, rfl, HU, HB⟩ := hrel
    have hz : w.heap.size < wr.heap.size := by have := HB.out.size; simp at this; omega
    have g0 : wr.cell? ⟨w.heap.size, 0, none⟩ = some (.int .i64 V) := (HB.out.cell (p := ⟨w.heap.size, 0, none⟩) (by simp)).trans (by simp)
    have g1 : wr.cell? ⟨w.heap.size, 1, none⟩ = some (.slice o l.length cap) := (HB.out.cell (p := ⟨w.heap.size, 1, none⟩) (by simp)).trans (by simp)
    by_cases hlt : k < l.length
    · obtain ⟨⟨v, fr, un, a0, a1, a2, a3, a4, a5, td⟩, hn⟩ := get_of_lt hlt
      obtain ⟨b, off, rfl, hb, hr⟩ := HN.out k _ hn
      have hr2 : Hid (wr.rangeAt b (off + k * 10) [.int .i64 v, .int .i64 fr, .int .i64 un, .int .i64 a0, .int .i64 a1, .int .i64 a2, .int .i64 a3, .int .i64 a4, .int .i64 a5, .bool td]) := rangeAt_below HB.out (by omega) (rangeAt_alloc _ hr)
      have HNN : Hid (l[k]? = some ⟨v, fr, un, a0, a1, a2, a3, a4, a5, td⟩) := hn
      clear hn hr
      go_wp2_with (first
        | (refine wpList_load_mid rfl 41 (.tmp 10) rfl b (off + k * 10) rfl _ _ hr2.out Tryz.underlying41 rfl (by kernel_rfl) ?_)
        | (go_at_call 64; refine (bounded_any _ _ _ _ _ _ _ _ (by omega) (by omega)).mono ?_; rintro e w' ⟨rfl, hb2⟩; have HB2 := Lib.hid hb2; clear hb2))
      case roundEnd =>
        rename_i hx
        have hx2 : okV 24 a0 a1 a2 a3 a4 a5 := by simpa using hx.2
        go_roundw
        case rel =>
          refine ⟨k + 1, by omega, by go_num, ?_, ?_⟩
          · exact (all_step HU.out HNN.out ⟨by omega, by omega, by omega, by omega, by omega, hx2⟩ : notesTo V l (k + 1))
          · exact ((HB.out.alloc (by omega) _).trans (HB2.out.mono (by simp; omega)) : Below _ _ _)
        case measure => simp [intOf]; omega
      all_goals
        go_ret
        refine Says.no (fun hh => ?_) ?_
        · have h1 := hh.1 _ (mem_of_get HNN.out)
          obtain ⟨c1, c2, c3, c4, c5, c6⟩ := h1
          dsimp only at c1 c2 c3 c4 c5 c6
          first
            | omega
            | (simp [c6] at *; omega)
        · first
            | exact (below_loop HB.out).alloc (by omega) _
            | exact ((below_loop HB.out).alloc (by omega) _).trans (HB2.out.mono (by simp; omega))
    · have hkl : k = l.length := by omega
      subst hkl
      go_wp2_with (go_at_call 65; refine (risingN_any _ _ _ _ (HN.out.below (below_loop HB.out)) hl).mono ?_; rintro e w' ⟨bb, hbb, rfl, hb2⟩; have HB2 := Lib.hid hb2; have HBB := Lib.hid hbb; clear hb2 hbb)
      go_ret
      refine ⟨bb, ?_, rfl, (below_loop HB.out).trans (HB2.out.mono (by omega))⟩
      rw [HBB.out]
      exact ⟨fun hh => ⟨by have := HU.out; unfold notesTo at this; rwa [List.take_length] at this, hh⟩, fun hh => hh.2⟩
end Go.Sc
