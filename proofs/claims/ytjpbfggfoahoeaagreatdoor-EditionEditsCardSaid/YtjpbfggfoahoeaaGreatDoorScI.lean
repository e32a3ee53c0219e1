/- score.rising at integers, score.cadences, score.sizes. -/
import Derived.Test.YtjpbfggfoahoeaaGreatDoorScR
namespace Go.Sc
open Go.RowKit Go.Proofs

theorem cell_int {w : World} {b off k : Nat} {x : Int} (h : w.rangeAt b (off + k * 1) [Value.int .i64 x]) : w.cell? ⟨b, off + k, none⟩ = some (.int .i64 x) := by
  have := h 0 _ rfl
  simpa using this
theorem neg_cmp {x y : Int} : cmpI x y < 0 ↔ ltI x y := by
  unfold cmpI ltI
  repeat' split
  all_goals omega

set_option maxRecDepth 100000 in
set_option maxHeartbeats 4000000 in
theorem risingI_any (o : Option Addr) (l : List Int) (cap : Nat) (w : World) (h : IntsAt w o l) (hl : l.length ≤ 140737488351232) :
    Calls Tryz.prog 69 #[.slice o l.length cap, .func (.func 32) #[] #[]] w (Says (rising ltI l) w) := by
  have HN : Hid (IntsAt w o l) := h
  clear h
  go_enter Tryz.func69, Tryz.ntmps69
  go_wp2
  go_loopw [5] (fun i wr => ∃ j : Nat, j ≤ l.length ∧ i = .int .i64 (j + 1) ∧ Hid (risingTo ltI l j) ∧ Hid (Below w.heap.size w wr)) (fun i _ => l.length + 1 - (intOf i).toNat)
  case atStart => exact ⟨0, by omega, rfl, (fun i a b hi => by omega : risingTo ltI l 0), (Below.refl _ _ : Below _ _ _)⟩
  case round =>
    obtain ⟨j, hj, rfl, HU, HB⟩ := hrel
    by_cases hlt : j + 1 < l.length
    · obtain ⟨x, hx⟩ := get_of_lt (show j < l.length by omega)
      obtain ⟨y, hy⟩ := get_of_lt hlt
      obtain ⟨b, off, rfl, hb, hr⟩ := HN.out j _ hx
      obtain ⟨b', off', ho', hb', hr'⟩ := HN.out (j + 1) _ hy
      cases ho'
      have HX : Hid (l[j]? = some x) := hx
      have HY : Hid (l[j + 1]? = some y) := hy
      have e1 : wr.cell? ⟨b, off + j, none⟩ = some (.int .i64 x) := cell_int (rangeAt_below HB.out hb hr)
      have e2 : wr.cell? ⟨b, off + (j + 1), none⟩ = some (.int .i64 y) := cell_int (rangeAt_below HB.out hb hr')
      have f1 : wr.drew.cell? ⟨b, off + j, none⟩ = some (.int .i64 x) := e1
      have f2 : wr.drew.cell? ⟨b, off + (j + 1), none⟩ = some (.int .i64 y) := e2
      clear hx hy hr hr' hb hb'
      go_wp2
      refine wp_region_still_tail 10 (by kernel_rfl) (by kernel_rfl) ?_
      simp only [List.take_succ_cons, List.take_zero, List.drop_succ_cons, List.drop_zero]
      change wpStill _ _ wr.drew _ _ _
      have q1 : IntKind.i64.wrap (j : Int) = (j : Int) := IntWalk.i64_in _ (by omega)
      have q2 : (0 : Int) ≤ (j : Int) := by omega
      have q3 : (j : Int) < (l.length : Int) := by omega
      have q4 : (0 : Int) ≤ (j : Int) + 1 := by omega
      have q5 : (j : Int) + 1 < (l.length : Int) := by omega
      have q6 : ((j : Int) + 1).toNat = j + 1 := by omega
      repeat still_step
      refine wpStill_nil ?_
      change wpList _ _ _ _ _ wr.drew
      have HB2 : Hid (Below w.heap.size w wr.drew) := HB.out.drew
      clear HB e1 e2 f1 f2
      generalize wr.drew = W2 at *
      go_wp2_with (go_at_call 32; refine (compare_any x y _).mono ?_; rintro e w' ⟨rfl, rfl⟩)
      case roundEnd =>
        rename_i hx
        have hlx : ltI x y := neg_cmp.1 hx
        go_roundw
        case rel => exact ⟨j + 1, by omega, by go_num, (rising_step HU.out HX.out HY.out hlx : risingTo ltI l (j + 1)), HB2⟩
        case measure => simp [intOf]; omega
      · rename_i hx
        go_ret
        refine Says.no (fun hh => ?_) HB2.out
        have := neg_cmp.2 (hh j x y HX.out HY.out)
        omega
    · go_wp2
      go_ret
      refine Says.yes (fun i a b ha hb => HU.out i a b ?_ ha hb) HB.out
      have := (List.getElem?_eq_some_iff.1 hb).1
      omega

def cadOk (l : List Int) : Prop := (∀ c ∈ l, 1 ≤ c ∧ c < 100000) ∧ rising ltI l
def cadTo (l : List Int) (k : Nat) : Prop := ∀ c ∈ l.take k, 1 ≤ c ∧ c < 100000
set_option maxRecDepth 100000 in
set_option maxHeartbeats 2000000 in
theorem cadences_any (V ns ps : Value) (o : Option Addr) (l : List Int) (cap : Nat) (w : World) (h : IntsAt w o l) (hl : l.length ≤ 140737488351232) :
    Calls Tryz.prog 46 #[.agg #[V, ns, ps, .slice o l.length cap]] w (Says (cadOk l) w) := by
  have HN : Hid (IntsAt w o l) := h
  clear h
  go_enter Tryz.func46, Tryz.ntmps46
  go_wp2
  go_loopw [8] (fun i wr => ∃ k : Nat, k ≤ l.length ∧ i = .int .i64 k ∧ Hid (cadTo l k) ∧ Hid (Below (w.heap.size + 1) (w.alloc (.cells #[V, ns, ps, .slice o l.length cap] 26)) wr)) (fun i _ => l.length - (intOf i).toNat)
  case atStart => exact ⟨0, by omega, rfl, (fun n hn => by simp at hn : cadTo l 0), (Below.refl _ _ : Below _ _ _)⟩
  case round =>
    obtain ⟨k, hk, rfl, HU, HB⟩ := hrel
    have hz : w.heap.size < wr.heap.size := by have := HB.out.size; simp at this; omega
    have g3 : wr.cell? ⟨w.heap.size, 3, none⟩ = some (.slice o l.length cap) := (HB.out.cell (p := ⟨w.heap.size, 3, none⟩) (by simp)).trans (by simp)
    by_cases hlt : k < l.length
    · obtain ⟨x, hn⟩ := get_of_lt hlt
      obtain ⟨b, off, rfl, hb, hr⟩ := HN.out k _ hn
      have e1 : wr.cell? ⟨b, off + k, none⟩ = some (.int .i64 x) := cell_int (rangeAt_below HB.out (by omega) (rangeAt_alloc _ hr))
      have HNN : Hid (l[k]? = some x) := hn
      clear hn hr
      go_wp2
      case roundEnd =>
        go_roundw
        case rel => exact ⟨k + 1, by omega, by go_num, (all_step HU.out HNN.out ⟨by omega, by omega⟩ : cadTo l (k + 1)), HB⟩
        case measure => simp [intOf]; omega
      all_goals
        go_ret
        refine Says.no (fun hh => ?_) (below_loop HB.out)
        have h1 := hh.1 _ (mem_of_get HNN.out)
        omega
    · have hkl : k = l.length := by omega
      subst hkl
      go_wp2_with (go_at_call 69; refine (risingI_any _ _ _ _ (HN.out.below (below_loop HB.out)) hl).mono ?_; rintro e w' ⟨bb, hbb, rfl, hb2⟩; have HB2 := Lib.hid hb2; have HBB := Lib.hid hbb; clear hb2 hbb)
      go_ret
      refine ⟨bb, ?_, rfl, (below_loop HB.out).trans (HB2.out.mono (by omega))⟩
      rw [HBB.out]
      exact ⟨fun hh => ⟨by have := HU.out; unfold cadTo at this; rwa [List.take_length] at this, hh⟩, fun hh => hh.2⟩

def sizesOk (V : Int) (n p c : Nat) : Prop := 1 ≤ V ∧ V ≤ 8 ∧ n ≤ 200 ∧ p ≤ 400 ∧ c < 16
set_option maxRecDepth 100000 in
set_option maxHeartbeats 2000000 in
theorem sizes_any (V : Int) (o1 o2 o3 : Option Addr) (n p c k1 k2 k3 : Nat) (w : World) :
    Calls Tryz.prog 42 #[.agg #[.int .i64 V, .slice o1 n k1, .slice o2 p k2, .slice o3 c k3]] w (Says (sizesOk V n p c) w) := by
  go_enter Tryz.func42, Tryz.ntmps42
  go_wp2
  all_goals
    go_ret
    refine ⟨_, ?_, rfl, (Below.refl _ _).alloc (Nat.le_refl _) _⟩
    unfold sizesOk
    first
      | (rw [decide_eq_true_iff]; omega)
      | (refine ⟨fun hh => ?_, fun hh => ?_⟩
         · cases hh
         · omega)
end Go.Sc
