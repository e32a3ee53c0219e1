/- score.voices. -/
import Derived.Test.YtpbpeoijejocaaaGreatDoorScE
import Derived.Deep.CutRange
import Derived.RowKit3
namespace Go.Sc
open Go.RowKit Go.Proofs

def zN : Nt := ⟨0, 0, 0, 0, 0, 0, 0, 0, 0, false⟩
theorem World.alloc_heap_new' (w : World) (o : Obj) : (w.alloc o).heap[w.heap.size]? = some o := by
  show (w.heap.push o)[w.heap.size]? = some o
  simp
/-- The last one of the first k notes that has the voice. -/
def lastOf (l : List Nt) : Nat → Int → Nt
  | 0, _ => zN
  | k + 1, v => match l[k]? with
    | some n => if n.v = v then n else lastOf l k v
    | none => lastOf l k v
def voiceOk (b n : Nt) : Prop := b.un ≤ n.fr ∧ (n.td = true → b.un = n.fr ∧ b.un ≠ 0 ∧ (b.a0 = n.a0 ∧ b.a1 = n.a1 ∧ b.a2 = n.a2 ∧ b.a3 = n.a3 ∧ b.a4 = n.a4 ∧ b.a5 = n.a5))
def voicesOk (l : List Nt) : Prop := ∀ (k : Nat) (n : Nt), l[k]? = some n → voiceOk (lastOf l k n.v) n
def voicesTo (l : List Nt) (K : Nat) : Prop := ∀ (k : Nat) (n : Nt), k < K → l[k]? = some n → voiceOk (lastOf l k n.v) n
def LastAt (w : World) (A : Nat) (l : List Nt) (k : Nat) : Prop := ∀ m : Nat, m < 8 → w.rangeAt A (m * 10) (lastOf l k m).cells ∧ w.there A (m * 10) 10
theorem LastAt.alloc {w : World} {A : Nat} {l : List Nt} {k : Nat} (h : LastAt w A l k) (o : Obj) : LastAt (w.alloc o) A l k :=
  fun m hm => ⟨World.rangeAt_alloc (h m hm).1 o, World.there_alloc (h m hm).2 o⟩
theorem Nt.cells_length (n : Nt) : n.cells.length = 10 := rfl
theorem LastAt.step {W : World} {A : Nat} {l : List Nt} {k m : Nat} {n : Nt} (hm : m < 8) (hv : n.v = m) (hn : l[k]? = some n) (h : LastAt W A l k) : LastAt (W.setCells A (m * 10) n.cells) A l (k + 1) := by
  intro j hj
  refine ⟨?_, World.there_setCells (h j hj).2 _ _ _⟩
  by_cases e : j = m
  · subst e
    have e2 : lastOf l (k + 1) (j : Int) = n := by simp [lastOf, hn, hv]
    rw [e2]
    exact World.rangeAt_setCells_same _ _ _ _ (h j hj).2
  · have e2 : lastOf l (k + 1) (j : Int) = lastOf l k (j : Int) := by
      simp only [lastOf, hn]
      rw [if_neg (by omega)]
    rw [e2]
    refine World.rangeAt_setCells_apart (h j hj).1 _ _ _ ?_
    simp only [Nt.cells_length]
    omega
theorem below_cells {B : Nat} {a : World} (b : Nat) (hb : B ≤ b) : ∀ (vs : List Value) (o : Nat) {w : World}, Below B a w → Below B a (w.setCells b o vs)
  | [], _, _, h => h
  | v :: r, o, _, h => below_cells b hb r (o + 1) (h.setCell (p := ⟨b, o, none⟩) hb v)
theorem size_setCells (b : Nat) : ∀ (vs : List Value) (o : Nat) (w : World), (w.setCells b o vs).heap.size = w.heap.size
  | [], _, _ => rfl
  | v :: r, o, w => by
    rw [World.setCells, size_setCells b r (o + 1)]
    simp
set_option maxRecDepth 100000 in
set_option maxHeartbeats 16000000 in
theorem voices_any (V ps cs : Value) (o : Option Addr) (l : List Nt) (cap : Nat) (w : World) (h : NotesAt w o l) (hl : l.length ≤ 140737488351232) (hv : ∀ n ∈ l, 0 ≤ n.v ∧ n.v < 8) :
    Calls Tryz.prog 74 #[.agg #[V, .slice o l.length cap, ps, cs]] w (Says (voicesOk l) w) := by
  have HN : Hid (NotesAt w o l) := h
  have HV := Lib.hid hv
  clear h hv
  go_enter Tryz.func74, Tryz.ntmps74
  go_wp2
  go_loopw [10] (fun i wr => ∃ k : Nat, k ≤ l.length ∧ i = .int .i64 k ∧ Hid (voicesTo l k) ∧ Hid (Below (w.heap.size + 1) (w.alloc (.cells #[V, .slice o l.length cap, ps, cs] 26)) wr) ∧ w.heap.size + 1 < wr.heap.size ∧ Hid (LastAt wr (w.heap.size + 1) l k)) (fun i _ => l.length - (intOf i).toNat)
  case atStart =>
    refine ⟨0, by omega, rfl, (fun k n hk => by omega : voicesTo l 0), ((Below.refl _ _).alloc (by simp) _ : Below _ _ _), by simp, ?_⟩
    intro m hm
    have hb := World.alloc_heap_new' (w.alloc (.cells #[V, .slice o l.length cap, ps, cs] 26)) (.cells Tryz.zeroCells183 183)
    refine ⟨?_, ?_⟩
    · have h1 := World.rangeAt_of_block hb (m * 10) 10
      have h2 : (Tryz.zeroCells183.extract (m * 10) (m * 10 + 10)).toList = (lastOf l 0 m).cells := by
        rcases (show m = 0 ∨ m = 1 ∨ m = 2 ∨ m = 3 ∨ m = 4 ∨ m = 5 ∨ m = 6 ∨ m = 7 by omega) with rfl | rfl | rfl | rfl | rfl | rfl | rfl | rfl <;> kernel_rfl
      rw [h2] at h1
      simpa using h1
    · intro j hj
      refine ⟨?_, ?_⟩
      · have h1 := World.rangeAt_of_block hb (m * 10) 10
        have h3 := World.rangeAt.isSome h1 j (by rw [Array.length_toList, Array.size_extract, show Tryz.zeroCells183.size = 80 from rfl]; omega)
        simpa using h3
      · rw [frozen?_alloc_cells, frozen?_alloc_cells]
        simp [World.frozen?]
  case round =>
    obtain ⟨k, hk, rfl, HU, HB, hA, HL⟩ := hrel
    have g1 : wr.cell? ⟨w.heap.size, 1, none⟩ = some (.slice o l.length cap) := (HB.out.cell (p := ⟨w.heap.size, 1, none⟩) (by simp)).trans (by simp)
    by_cases hlt : k < l.length
    · obtain ⟨⟨v, fr, un, a0, a1, a2, a3, a4, a5, td⟩, hn⟩ := get_of_lt hlt
      obtain ⟨hv0, hv8⟩ := HV.out _ (mem_of_get hn)
      dsimp only at hv0 hv8
      obtain ⟨m, rfl⟩ : ∃ m : Nat, v = m := ⟨v.toNat, by omega⟩
      obtain ⟨b, off, rfl, hb, hr⟩ := HN.out k _ hn
      have hr2 : Hid (wr.rangeAt b (off + k * 10) [.int .i64 m, .int .i64 fr, .int .i64 un, .int .i64 a0, .int .i64 a1, .int .i64 a2, .int .i64 a3, .int .i64 a4, .int .i64 a5, .bool td]) := rangeAt_below HB.out (by omega) (rangeAt_alloc _ hr)
      have HNN : Hid (l[k]? = some ⟨m, fr, un, a0, a1, a2, a3, a4, a5, td⟩) := hn
      obtain ⟨hq1, hq2⟩ := HL.out m (by omega)
      obtain ⟨⟨pv, pf, pu, p0, p1, p2, p3, p4, p5, pt⟩, hp⟩ : ∃ p, lastOf l k m = p := ⟨_, rfl⟩
      rw [hp] at hq1
      have HP := Lib.hid hp
      have HR3 : Hid (wr.rangeAt (w.heap.size + 1) (m * 10) [.int .i64 pv, .int .i64 pf, .int .i64 pu, .int .i64 p0, .int .i64 p1, .int .i64 p2, .int .i64 p3, .int .i64 p4, .int .i64 p5, .bool pt]) := hq1
      have HT := Lib.hid hq2
      clear hn hr hp hq1 hq2
      go_upto_region 6 with (first
        | (refine wpList_load_mid rfl 100 (.tmp 12) rfl b (off + k * 10) rfl _ _ hr2.out Tryz.underlying100 rfl (by kernel_rfl) ?_)
        | (refine wpList_load_mid rfl 100 (.tmp 16) rfl (w.heap.size + 1) (m * 10) rfl _ _ (World.rangeAt_alloc HR3.out _) Tryz.underlying100 rfl (by kernel_rfl) ?_))
      go_cut [45] from 18 to 46 (fun c wx => (∃ bb : Bool, c = .bool bb ∧ Hid (bb = false ↔ voiceOk ⟨pv, pf, pu, p0, p1, p2, p3, p4, p5, pt⟩ ⟨m, fr, un, a0, a1, a2, a3, a4, a5, td⟩)) ∧ wx = (wr.alloc (.cells #[.int .i64 m, .int .i64 fr, .int .i64 un, .int .i64 a0, .int .i64 a1, .int .i64 a2, .int .i64 a3, .int .i64 a4, .int .i64 a5, .bool td] 100)).alloc (.cells #[.int .i64 pv, .int .i64 pf, .int .i64 pu, .int .i64 p0, .int .i64 p1, .int .i64 p2, .int .i64 p3, .int .i64 p4, .int .i64 p5, .bool pt] 100))
      case first =>
        clear HN HV HU HL HB HNN HP HR3 HT hr2
        by_cases h1 : fr < pu
        · go_wp2
          go_meet
          exact ⟨⟨true, rfl, (by unfold voiceOk; simp; omega : _ ↔ _)⟩, rfl⟩
        · cases td
          · go_wp2
            go_meet
            exact ⟨⟨false, rfl, (by unfold voiceOk; simp; omega : _ ↔ _)⟩, rfl⟩
          · by_cases h2 : pu = fr
            · by_cases h3 : pu = 0
              · have b2 : (pu != fr) = false := by simp [h2]
                have b3 : (pu == 0) = true := by simp [h3]
                have H3 := Lib.hid h3
                clear h2 h3
                go_wp2
                go_meet
                exact ⟨⟨true, rfl, (⟨(fun h => by cases h), fun h => ((h.2 rfl).2.1 H3.out).elim⟩ : true = false ↔ voiceOk _ _)⟩, rfl⟩
              · have b2 : (pu != fr) = false := by simp [h2]
                have b3 : (pu == 0) = false := by simp [h3]
                have H2 := Lib.hid h2
                have H3 := Lib.hid h3
                clear h2 h3
                by_cases hav : (p0 = a0 ∧ p1 = a1 ∧ p2 = a2 ∧ p3 = a3 ∧ p4 = a4 ∧ p5 = a5)
                · have hq : ∀ W, (Op.equalIn 10000 29 (.agg #[.int .i64 p0, .int .i64 p1, .int .i64 p2, .int .i64 p3, .int .i64 p4, .int .i64 p5]) (.agg #[.int .i64 a0, .int .i64 a1, .int .i64 a2, .int .i64 a3, .int .i64 a4, .int .i64 a5])).run Tryz.prog W = .ok true W := fun W => by rw [eq_vec, decide_eq_true hav]
                  have HAV := Lib.hid hav
                  clear hav
                  go_wp2
                  go_meet
                  exact ⟨⟨false, rfl, (⟨fun _ => ⟨by dsimp only; omega, fun _ => ⟨H2.out, H3.out, HAV.out⟩⟩, fun _ => rfl⟩ : _ ↔ _)⟩, rfl⟩
                · have hq : ∀ W, (Op.equalIn 10000 29 (.agg #[.int .i64 p0, .int .i64 p1, .int .i64 p2, .int .i64 p3, .int .i64 p4, .int .i64 p5]) (.agg #[.int .i64 a0, .int .i64 a1, .int .i64 a2, .int .i64 a3, .int .i64 a4, .int .i64 a5])).run Tryz.prog W = .ok false W := fun W => by rw [eq_vec, decide_eq_false hav]
                  have HAV := Lib.hid hav
                  clear hav
                  go_wp2
                  go_meet
                  exact ⟨⟨true, rfl, (⟨(fun h => by cases h), fun h => (HAV.out (h.2 rfl).2.2).elim⟩ : true = false ↔ voiceOk _ _)⟩, rfl⟩
            · have b2 : (pu != fr) = true := by simp [h2]
              have H2 := Lib.hid h2
              clear h2
              go_wp2
              go_meet
              exact ⟨⟨true, rfl, (⟨(fun h => by cases h), fun h => (H2.out (h.2 rfl).1).elim⟩ : true = false ↔ voiceOk _ _)⟩, rfl⟩
      case rest =>
        obtain ⟨⟨bb, rfl, HBB⟩, rfl⟩ := hcut
        cases bb
        · go_upto_region 8 with (fail)
          apply wp_region_lit
          go_step
          go_step
          go_step
          go_step
          go_step
          go_step
          go_step
          go_step
          go_step
          go_step
          go_step
          go_step
          refine wpList_store_mid rfl 100 (.tmp 49) (.tmp 48) rfl (w.heap.size + 1) (m * 10) #[.int .i64 m, .int .i64 fr, .int .i64 un, .int .i64 a0, .int .i64 a1, .int .i64 a2, .int .i64 a3, .int .i64 a4, .int .i64 a5, .bool td] rfl rfl (World.there_alloc (World.there_alloc HT.out _) _) (by kernel_rfl) (by kernel_rfl) ?_
          generalize hw3 : World.setCells _ _ _ _ = w3
          go_wp2
          have hst := LastAt.step (n := ⟨m, fr, un, a0, a1, a2, a3, a4, a5, td⟩) (by omega) rfl HNN.out ((HL.out.alloc (.cells #[.int .i64 m, .int .i64 fr, .int .i64 un, .int .i64 a0, .int .i64 a1, .int .i64 a2, .int .i64 a3, .int .i64 a4, .int .i64 a5, .bool td] 100)).alloc (.cells #[.int .i64 pv, .int .i64 pf, .int .i64 pu, .int .i64 p0, .int .i64 p1, .int .i64 p2, .int .i64 p3, .int .i64 p4, .int .i64 p5, .bool pt] 100))
          refine ⟨⟨k + 1, by omega, by push_cast; rfl, ?_, ?_, ?_, ?_⟩, ?_⟩
          · intro i n hi hin
            by_cases e : i = k
            · subst e
              have := HNN.out.symm.trans hin
              injection this with this
              subst this
              rw [show lastOf l i _ = _ from HP.out]
              exact HBB.out.1 rfl
            · exact HU.out i n (by omega) hin
          · rw [← hw3]
            exact below_cells _ (Nat.le_refl _) _ _ ((HB.out.alloc (by omega) _).alloc (by simp; omega) _)
          · rw [← hw3, size_setCells]
            simp
            omega
          · rw [← hw3]
            exact hst
          · simp only [intOf]
            omega
        · go_wp2
          go_ret
          refine Says.no (fun hh => ?_) ?_
          · have := HBB.out.2 (by have h5 := hh k _ HNN.out; rw [show lastOf l k _ = _ from HP.out] at h5; exact h5)
            cases this
          · exact ((below_loop HB.out).alloc (by omega) _).alloc (by simp; omega) _
    · go_wp2
      go_ret
      refine Says.yes (fun i n hi => HU.out i n ?_ hi) (below_loop HB.out)
      have := (List.getElem?_eq_some_iff.1 hi).1
      omega
end Go.Sc
