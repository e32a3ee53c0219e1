/- slices.ContainsFunc at intervals and at pairs; the small functions of the reference: Interval, Few, Plus. -/
import Derived.Test.YtpbpeoijejocaaaGreatDoorPtI
import Derived.Test.YtpbpeoijejocaaaGreatDoorScX
namespace Go.Sc
open Go.RowKit Go.Proofs

set_option maxRecDepth 100000 in
set_option maxHeartbeats 1000000 in
theorem tuned1_any (v : Vc) (w : World) : Calls Tryz.prog 52 #[.agg v.cells.toArray] w (Post (!decide (v.lim 48)) w) := by
  have HI := Lib.hid (interval_any v)
  obtain ⟨bb, hbb⟩ : ∃ bb, decide (v.lim 48) = bb := ⟨_, rfl⟩
  rw [hbb] at HI ⊢
  clear hbb
  obtain ⟨x0, x1, x2, x3, x4, x5⟩ := v
  dsimp only [Vc.cells] at HI ⊢
  go_enter Tryz.func52, Tryz.ntmps52
  go_wp2_with (go_at_call 53; refine (HI.out _).mono ?_; rintro e w1 ⟨rfl, hb⟩; have HB : Hid (Below w.heap.size w w1) := ((Below.refl _ w).alloc (Nat.le_refl _) _).trans (hb.mono (by simp)); clear hb)
  go_ret
  exact ⟨by simp, HB.out⟩
set_option maxRecDepth 100000 in
set_option maxHeartbeats 4000000 in
theorem indexV_any (o : Option Addr) (l : List Vc) (cap : Nat) (w : World) (h : RowAt 6 Vc.cells w o l) (hl : l.length ≤ 140737488351232) :
    Calls Tryz.prog 78 #[.slice o l.length cap, .func (.func 52) #[] #[]] w fun e w' => ∃ r : Int, (0 ≤ r ↔ ∃ v ∈ l, ¬ v.lim 48) ∧ e = .returned (.int .i64 r) ∧ Below w.heap.size w w' := by
  have HN := Lib.hid h
  clear h
  go_enter Tryz.func78, Tryz.ntmps78
  go_wp2
  go_loopw [8] (fun i wr => ∃ k : Nat, k ≤ l.length ∧ i = .int .i64 k ∧ Hid (∀ (j : Nat) (v : Vc), j < k → l[j]? = some v → v.lim 48) ∧ Hid (Below w.heap.size w wr)) (fun i _ => l.length - (intOf i).toNat)
  case atStart => exact ⟨0, by omega, rfl, (fun j v hj => by omega : ∀ (j : Nat) (v : Vc), j < 0 → l[j]? = some v → v.lim 48), (Below.refl _ _ : Below _ _ _)⟩
  case round =>
    obtain ⟨k, hk, rfl, HO, HB⟩ := hrel
    by_cases hlt : k < l.length
    · obtain ⟨v, hv⟩ := get_of_lt hlt
      obtain ⟨b, off, rfl, hb, hr⟩ := HN.out k _ hv
      have hr2 := Lib.hid (rangeAt_below HB.out hb hr)
      have HV : Aside (l[k]? = some v) := hv
      have HT := Lib.hid (tuned1_any v)
      obtain ⟨bb, hbb⟩ : ∃ bb, decide (v.lim 48) = bb := ⟨_, rfl⟩
      rw [hbb] at HT
      have HBB := Lib.hid hbb
      clear hbb hr hv
      obtain ⟨x0, x1, x2, x3, x4, x5⟩ := v
      dsimp only [Vc.cells] at HT hr2
      go_wp2_with (first
        | (refine wpList_load_mid rfl 29 (.tmp 14) rfl b (off + k * 6) rfl _ _ hr2.out Tryz.underlying29 rfl (by kernel_rfl) ?_)
        | (go_at_call 52; refine (HT.out _).mono ?_; rintro e w1 ⟨rfl, hb1⟩; have HB1 : Hid (Below w.heap.size w w1) := HB.out.trans (hb1.mono HB.out.size); clear hb1))
      · rename_i hc
        go_ret
        refine ⟨(k : Int), ⟨fun _ => ⟨_, List.mem_of_getElem? HV.out, ?_⟩, fun _ => by omega⟩, rfl, HB1.out⟩
        have := HBB.out
        intro hlim
        rw [decide_eq_true hlim] at this
        rw [← this] at hc
        cases hc
      · rename_i hc
        refine ⟨⟨k + 1, by omega, by go_num, Lib.hid (fun j v hj hv => ?_), HB1⟩, by simp only [intOf]; omega⟩
        by_cases e : j = k
        · subst e
          rw [HV.out] at hv
          cases hv
          have := HBB.out
          rw [show bb = true by simpa using hc] at this
          exact of_decide_eq_true this
        · exact HO.out j v (by omega) hv
    · go_wp2
      go_ret
      refine ⟨-1, ⟨fun h => by omega, fun ⟨v, hv, hn⟩ => ?_⟩, rfl, HB.out⟩
      obtain ⟨j, hj⟩ := List.getElem?_of_mem hv
      exact absurd (HO.out j v (by have := (List.getElem?_eq_some_iff.1 hj).1; omega) hj) hn
set_option maxRecDepth 100000 in
set_option maxHeartbeats 1000000 in
theorem containsV_any (o : Option Addr) (l : List Vc) (cap : Nat) (w : World) (h : RowAt 6 Vc.cells w o l) (hl : l.length ≤ 140737488351232) :
    Calls Tryz.prog 51 #[.slice o l.length cap, .func (.func 52) #[] #[]] w fun e w' => ∃ b : Bool, (b = true ↔ ∃ v ∈ l, ¬ v.lim 48) ∧ e = .returned (.bool b) ∧ Below w.heap.size w w' := by
  have HI := Lib.hid (indexV_any o l cap w h hl)
  clear h
  go_enter Tryz.func51, Tryz.ntmps51
  go_wp2_with (go_at_call 78; refine HI.out.mono ?_; rintro e w1 ⟨r, hr, rfl, hb⟩; have HR := Lib.hid hr; have HB := Lib.hid hb; clear hr hb)
  go_ret
  exact ⟨_, by rw [← HR.out]; simp, rfl, HB.out⟩
/-! Pairs that cross. -/
set_option maxRecDepth 100000 in
set_option maxHeartbeats 1000000 in
theorem free1_any (p : Pr) (B : Nat) (n : Int) (w : World) (hc : w.cell? ⟨B, 0, none⟩ = some (.int .i64 n)) : Calls Tryz.prog 24 #[.agg p.cells.toArray, .pointer (some ⟨B, 0, none⟩)] w fun e w' => e = .returned (.bool (decide (p.a < n ∧ n ≤ p.b))) ∧ Below w.heap.size w w' := by
  obtain ⟨pa, pb, w0, w1, w2, w3, w4, w5, bd⟩ := p
  dsimp only [Pr.cells]
  have hc2 : (w.alloc (.cells #[.int .i64 pa, .int .i64 pb, .int .i64 w0, .int .i64 w1, .int .i64 w2, .int .i64 w3, .int .i64 w4, .int .i64 w5, .int .i64 bd] 84)).cell? ⟨B, 0, none⟩ = some (.int .i64 n) := (World.cell?_alloc_some w _ _ (by rw [hc]; rfl)).trans hc
  go_enter Tryz.func24, Tryz.ntmps24
  by_cases h1 : pa < n
  · by_cases h2 : n ≤ pb
    · go_wp2
      go_ret
      exact ⟨by simp [h1, h2], (Below.refl _ w).alloc (Nat.le_refl _) _⟩
    · go_wp2
      go_ret
      exact ⟨by simp; omega, (Below.refl _ w).alloc (Nat.le_refl _) _⟩
  · go_wp2
    go_ret
    exact ⟨by simp; omega, (Below.refl _ w).alloc (Nat.le_refl _) _⟩
set_option maxRecDepth 100000 in
set_option maxHeartbeats 4000000 in
theorem indexP_any (o : Option Addr) (l : List Pr) (cap B : Nat) (n : Int) (w : World) (h : PairsAt w o l) (hl : l.length ≤ 140737488351232) (hc : w.cell? ⟨B, 0, none⟩ = some (.int .i64 n)) :
    Calls Tryz.prog 50 #[.slice o l.length cap, .func (.func 24) #[] #[.pointer (some ⟨B, 0, none⟩)]] w fun e w' => ∃ r : Int, (0 ≤ r ↔ ∃ p ∈ l, p.a < n ∧ n ≤ p.b) ∧ e = .returned (.int .i64 r) ∧ Below w.heap.size w w' := by
  have HN := Lib.hid h
  have HC := Lib.hid hc
  clear h hc
  go_enter Tryz.func50, Tryz.ntmps50
  go_wp2
  go_loopw [8] (fun i wr => ∃ k : Nat, k ≤ l.length ∧ i = .int .i64 k ∧ Hid (∀ (j : Nat) (p : Pr), j < k → l[j]? = some p → ¬ (p.a < n ∧ n ≤ p.b)) ∧ Hid (Below w.heap.size w wr)) (fun i _ => l.length - (intOf i).toNat)
  case atStart => exact ⟨0, by omega, rfl, (fun j v hj => by omega : ∀ (j : Nat) (p : Pr), j < 0 → l[j]? = some p → ¬ (p.a < n ∧ n ≤ p.b)), (Below.refl _ _ : Below _ _ _)⟩
  case round =>
    obtain ⟨k, hk, rfl, HO, HB⟩ := hrel
    by_cases hlt : k < l.length
    · obtain ⟨p, hv⟩ := get_of_lt hlt
      obtain ⟨b, off, rfl, hb, hr⟩ := HN.out k _ hv
      have hr2 := Lib.hid (rangeAt_below HB.out hb hr)
      have HV : Aside (l[k]? = some p) := hv
      have hT := free1_any p B n wr ((HB.out.cell (p := ⟨B, 0, none⟩) (World.block_lt_of_cell? w _ HC.out)).trans HC.out)
      obtain ⟨bb, hbb⟩ : ∃ bb, decide (p.a < n ∧ n ≤ p.b) = bb := ⟨_, rfl⟩
      rw [hbb] at hT
      have HT := Lib.hid hT
      have HBB : Aside (bb = true ↔ p.a < n ∧ n ≤ p.b) := by rw [← hbb]; exact decide_eq_true_iff
      clear hT hbb
      clear hr hv
      obtain ⟨pa, pb, w0, w1, w2, w3, w4, w5, bd⟩ := p
      dsimp only [Pr.cells] at HT hr2
      go_wp2_with (first
        | (refine wpList_load_mid rfl 84 (.tmp 14) rfl b (off + k * 9) rfl _ _ hr2.out Tryz.underlying84 rfl (by kernel_rfl) ?_)
        | (go_at_call 24; refine HT.out.mono ?_; rintro e w1 ⟨rfl, hb1⟩; have HB1 : Hid (Below w.heap.size w w1) := HB.out.trans (hb1.mono HB.out.size); clear hb1))
      · rename_i hc
        go_ret
        exact ⟨(k : Int), ⟨fun _ => ⟨_, List.mem_of_getElem? HV.out, HBB.out.1 hc⟩, fun _ => by omega⟩, rfl, HB1.out⟩
      · rename_i hc
        refine ⟨⟨k + 1, by omega, by go_num, Lib.hid (fun j v hj hv => ?_), HB1⟩, by simp only [intOf]; omega⟩
        by_cases e : j = k
        · subst e
          rw [HV.out] at hv
          cases hv
          intro hh
          have := HBB.out.2 hh
          rw [hc] at this
          cases this
        · exact HO.out j v (by omega) hv
    · go_wp2
      go_ret
      refine ⟨-1, ⟨fun h => by omega, fun ⟨v, hv, hn⟩ => ?_⟩, rfl, HB.out⟩
      obtain ⟨j, hj⟩ := List.getElem?_of_mem hv
      exact absurd hn (HO.out j v (by have := (List.getElem?_eq_some_iff.1 hj).1; omega) hj)
set_option maxRecDepth 100000 in
set_option maxHeartbeats 1000000 in
theorem containsP_any (o : Option Addr) (l : List Pr) (cap B : Nat) (n : Int) (w : World) (h : PairsAt w o l) (hl : l.length ≤ 140737488351232) (hc : w.cell? ⟨B, 0, none⟩ = some (.int .i64 n)) :
    Calls Tryz.prog 25 #[.slice o l.length cap, .func (.func 24) #[] #[.pointer (some ⟨B, 0, none⟩)]] w fun e w' => ∃ b : Bool, (b = true ↔ ∃ p ∈ l, p.a < n ∧ n ≤ p.b) ∧ e = .returned (.bool b) ∧ Below w.heap.size w w' := by
  have HI := Lib.hid (indexP_any o l cap B n w h hl hc)
  clear h hc
  go_enter Tryz.func25, Tryz.ntmps25
  go_wp2_with (go_at_call 50; refine HI.out.mono ?_; rintro e w1 ⟨r, hr, rfl, hb⟩; have HR := Lib.hid hr; have HB := Lib.hid hb; clear hr hb)
  go_ret
  exact ⟨_, by rw [← HR.out]; simp, rfl, HB.out⟩
end Go.Sc
