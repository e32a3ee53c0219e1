/- slices.Equal at integers. -/
import Derived.Test.YtjpbfggfoahoeaaGreatDoorScI
import Derived.Test.YtjpbfggfoahoeaaGreatDoorScE
namespace Go.Sc
open Go.RowKit Go.Proofs

def sameTo {α : Type} (l l' : List α) (k : Nat) : Prop := ∀ i, i < k → l[i]? = l'[i]?
theorem sameTo_step {α : Type} {l l' : List α} {k : Nat} (h : sameTo l l' k) (hk : l[k]? = l'[k]?) : sameTo l l' (k + 1) := fun i hi => by
  rcases Nat.lt_or_ge i k with h1 | h1
  · exact h i h1
  · have : i = k := by omega
    subst this
    exact hk
theorem sameTo_all {α : Type} {l l' : List α} (hl : l.length = l'.length) (h : sameTo l l' l.length) : l = l' := by
  apply List.ext_getElem?
  intro i
  rcases Nat.lt_or_ge i l.length with h1 | h1
  · exact h i h1
  · rw [List.getElem?_eq_none h1, List.getElem?_eq_none (by omega)]
set_option maxRecDepth 100000 in
set_option maxHeartbeats 8000000 in
theorem equalI_any (o o' : Option Addr) (l l' : List Int) (cap cap' : Nat) (w : World) (h : IntsAt w o l) (h' : IntsAt w o' l') (hl : l.length ≤ 140737488351232) :
    Calls Tryz.prog 23 #[.slice o l.length cap, .slice o' l'.length cap'] w (Says (l = l') w) := by
  have HN : Hid (IntsAt w o l) := h
  have HN' : Hid (IntsAt w o' l') := h'
  clear h h'
  by_cases hlen : l.length = l'.length
  · have bl : ((l.length : Int) != (l'.length : Int)) = false := by simp [hlen]
    have HL := Lib.hid hlen
    clear hlen
    go_enter Tryz.func23, Tryz.ntmps23
    go_wp2
    go_loopw [13] (fun i wr => ∃ k : Nat, k ≤ l.length ∧ i = .int .i64 k ∧ Hid (sameTo l l' k) ∧ Hid (Below w.heap.size w wr)) (fun i _ => l.length - (intOf i).toNat)
    case atStart => exact ⟨0, by omega, rfl, (fun i hi => by omega : sameTo l l' 0), (Below.refl _ _ : Below _ _ _)⟩
    case round =>
      obtain ⟨k, hk, rfl, HU, HB⟩ := hrel
      by_cases hlt : k < l.length
      · have hlt' : k < l'.length := by have := HL.out; omega
        obtain ⟨x, hx⟩ := get_of_lt hlt
        obtain ⟨y, hy⟩ := get_of_lt hlt'
        obtain ⟨b, off, rfl, hb, hr⟩ := HN.out k _ hx
        obtain ⟨b', off', rfl, hb', hr'⟩ := HN'.out k _ hy
        have HX : Hid (l[k]? = some x) := hx
        have HY : Hid (l'[k]? = some y) := hy
        have e1 : wr.cell? ⟨b, off + k, none⟩ = some (.int .i64 x) := cell_int (rangeAt_below HB.out hb hr)
        have e2 : wr.cell? ⟨b', off' + k, none⟩ = some (.int .i64 y) := cell_int (rangeAt_below HB.out hb' hr')
        have f1 : wr.drew.cell? ⟨b, off + k, none⟩ = some (.int .i64 x) := e1
        have f2 : wr.drew.cell? ⟨b', off' + k, none⟩ = some (.int .i64 y) := e2
        clear hx hy hr hr' hb hb'
        go_wp2
        refine wp_region_still_tail 8 (by kernel_rfl) (by kernel_rfl) ?_
        simp only [List.take_succ_cons, List.take_zero, List.drop_succ_cons, List.drop_zero]
        change wpStill _ _ wr.drew _ _ _
        have q2 : (0 : Int) ≤ (k : Int) := by omega
        have q3 : (k : Int) < (l.length : Int) := by omega
        have q4 : (k : Int) < (l'.length : Int) := by omega
        repeat still_step
        refine wpStill_nil ?_
        change wpList _ _ _ _ _ wr.drew
        have HB2 : Hid (Below w.heap.size w wr.drew) := HB.out.drew
        clear HB e1 e2 f1 f2
        generalize wr.drew = W2 at *
        go_wp2
        case roundEnd =>
          rename_i hx
          have hxy : x = y := by simpa using hx
          go_roundw
          case rel => exact ⟨k + 1, by omega, by go_num, (sameTo_step HU.out (by rw [HX.out, HY.out, hxy]) : sameTo l l' (k + 1)), HB2⟩
          case measure => simp [intOf]; omega
        · rename_i hx
          go_ret
          refine Says.no (fun hh => ?_) HB2.out
          have h1 := HX.out
          rw [hh, HY.out] at h1
          cases h1
          simp at hx
      · go_wp2
        go_ret
        exact Says.yes (sameTo_all HL.out (fun i hi => HU.out i (by omega))) HB.out
  · have bl : ((l.length : Int) != (l'.length : Int)) = true := by simp; omega
    go_enter Tryz.func23, Tryz.ntmps23
    go_wp2
    go_ret
    exact Says.no (fun hh => hlen (by rw [hh])) (Below.refl _ _)
end Go.Sc

/-! slices.Equal at notes and at pairs. -/
namespace Go.Sc
open Go.RowKit Go.Proofs

set_option maxRecDepth 100000 in
set_option maxHeartbeats 8000000 in
theorem equalN_any (o o' : Option Addr) (l l' : List Nt) (cap cap' : Nat) (w : World) (h : NotesAt w o l) (h' : NotesAt w o' l') (hl : l.length ≤ 140737488351232) :
    Calls Tryz.prog 21 #[.slice o l.length cap, .slice o' l'.length cap'] w (Says (l = l') w) := by
  have HN : Hid (NotesAt w o l) := h
  have HN' : Hid (NotesAt w o' l') := h'
  clear h h'
  by_cases hlen : l.length = l'.length
  · have bl : ((l.length : Int) != (l'.length : Int)) = false := by simp [hlen]
    have HL := Lib.hid hlen
    clear hlen
    go_enter Tryz.func21, Tryz.ntmps21
    go_wp2
    go_loopw [13] (fun i wr => ∃ k : Nat, k ≤ l.length ∧ i = .int .i64 k ∧ Hid (sameTo l l' k) ∧ Hid (Below w.heap.size w wr)) (fun i _ => l.length - (intOf i).toNat)
    case atStart => exact ⟨0, by omega, rfl, (fun i hi => by omega : sameTo l l' 0), (Below.refl _ _ : Below _ _ _)⟩
    case round =>
      obtain ⟨k, hk, rfl, HU, HB⟩ := hrel
      by_cases hlt : k < l.length
      · have hlt' : k < l'.length := by have := HL.out; omega
        obtain ⟨x, hx⟩ := get_of_lt hlt
        obtain ⟨y, hy⟩ := get_of_lt hlt'
        obtain ⟨b, off, rfl, hb, hr⟩ := HN.out k _ hx
        obtain ⟨b', off', rfl, hb', hr'⟩ := HN'.out k _ hy
        have HX : Hid (l[k]? = some x) := hx
        have HY : Hid (l'[k]? = some y) := hy
        have HR1 : Hid (wr.drew.rangeAt b (off + k * 10) x.cells) := rangeAt_below HB.out hb hr
        have HR2 : Hid (wr.drew.rangeAt b' (off' + k * 10) y.cells) := rangeAt_below HB.out hb' hr'
        clear hx hy hr hr' hb hb'
        go_wp2
        refine wp_region_still_tail 8 (by kernel_rfl) (by kernel_rfl) ?_
        simp only [List.take_succ_cons, List.take_zero, List.drop_succ_cons, List.drop_zero]
        change wpStill _ _ wr.drew _ _ _
        have q2 : (0 : Int) ≤ (k : Int) := by omega
        have q3 : (k : Int) < (l.length : Int) := by omega
        have q4 : (k : Int) < (l'.length : Int) := by omega
        iterate 3 still_step
        refine still_load rfl 41 (.tmp 18) rfl b (off + k * 10) ?_ _ _ HR1.out Tryz.underlying41 rfl (by kernel_rfl) ?_
        · rfl
        iterate 3 still_step
        refine still_load rfl 41 (.tmp 22) rfl b' (off' + k * 10) ?_ _ _ HR2.out Tryz.underlying41 rfl (by kernel_rfl) ?_
        · rfl
        refine wpStill_nil ?_
        change wpList _ _ _ _ _ wr.drew
        have HB2 : Hid (Below w.heap.size w wr.drew) := HB.out.drew
        clear HB HR1 HR2
        generalize wr.drew = W2 at *
        by_cases hxy : x = y
        · have hq : ∀ W, (Op.equalIn 10000 41 (.agg x.cells.toArray) (.agg y.cells.toArray)).run Tryz.prog W = .ok true W := fun W => by rw [eq_note, decide_eq_true hxy]
          have HXY := Lib.hid hxy
          clear hxy
          go_wp2
          go_roundw
          case rel => exact ⟨k + 1, by omega, by go_num, (sameTo_step HU.out (by rw [HX.out, HY.out, HXY.out]) : sameTo l l' (k + 1)), HB2⟩
          case measure => simp [intOf]; omega
        · have hq : ∀ W, (Op.equalIn 10000 41 (.agg x.cells.toArray) (.agg y.cells.toArray)).run Tryz.prog W = .ok false W := fun W => by rw [eq_note, decide_eq_false hxy]
          have HXY := Lib.hid hxy
          clear hxy
          go_wp2
          go_ret
          refine Says.no (fun hh => ?_) HB2.out
          have h1 := HX.out
          rw [hh, HY.out] at h1
          cases h1
          exact HXY.out rfl
      · go_wp2
        go_ret
        exact Says.yes (sameTo_all HL.out (fun i hi => HU.out i (by omega))) HB.out
  · have bl : ((l.length : Int) != (l'.length : Int)) = true := by simp; omega
    go_enter Tryz.func21, Tryz.ntmps21
    go_wp2
    go_ret
    exact Says.no (fun hh => hlen (by rw [hh])) (Below.refl _ _)
set_option maxRecDepth 100000 in
set_option maxHeartbeats 8000000 in
theorem equalP_any (o o' : Option Addr) (l l' : List Pr) (cap cap' : Nat) (w : World) (h : PairsAt w o l) (h' : PairsAt w o' l') (hl : l.length ≤ 140737488351232) :
    Calls Tryz.prog 22 #[.slice o l.length cap, .slice o' l'.length cap'] w (Says (l = l') w) := by
  have HN : Hid (PairsAt w o l) := h
  have HN' : Hid (PairsAt w o' l') := h'
  clear h h'
  by_cases hlen : l.length = l'.length
  · have bl : ((l.length : Int) != (l'.length : Int)) = false := by simp [hlen]
    have HL := Lib.hid hlen
    clear hlen
    go_enter Tryz.func22, Tryz.ntmps22
    go_wp2
    go_loopw [13] (fun i wr => ∃ k : Nat, k ≤ l.length ∧ i = .int .i64 k ∧ Hid (sameTo l l' k) ∧ Hid (Below w.heap.size w wr)) (fun i _ => l.length - (intOf i).toNat)
    case atStart => exact ⟨0, by omega, rfl, (fun i hi => by omega : sameTo l l' 0), (Below.refl _ _ : Below _ _ _)⟩
    case round =>
      obtain ⟨k, hk, rfl, HU, HB⟩ := hrel
      by_cases hlt : k < l.length
      · have hlt' : k < l'.length := by have := HL.out; omega
        obtain ⟨x, hx⟩ := get_of_lt hlt
        obtain ⟨y, hy⟩ := get_of_lt hlt'
        obtain ⟨b, off, rfl, hb, hr⟩ := HN.out k _ hx
        obtain ⟨b', off', rfl, hb', hr'⟩ := HN'.out k _ hy
        have HX : Hid (l[k]? = some x) := hx
        have HY : Hid (l'[k]? = some y) := hy
        have HR1 : Hid (wr.drew.rangeAt b (off + k * 9) x.cells) := rangeAt_below HB.out hb hr
        have HR2 : Hid (wr.drew.rangeAt b' (off' + k * 9) y.cells) := rangeAt_below HB.out hb' hr'
        clear hx hy hr hr' hb hb'
        go_wp2
        refine wp_region_still_tail 8 (by kernel_rfl) (by kernel_rfl) ?_
        simp only [List.take_succ_cons, List.take_zero, List.drop_succ_cons, List.drop_zero]
        change wpStill _ _ wr.drew _ _ _
        have q2 : (0 : Int) ≤ (k : Int) := by omega
        have q3 : (k : Int) < (l.length : Int) := by omega
        have q4 : (k : Int) < (l'.length : Int) := by omega
        iterate 3 still_step
        refine still_load rfl 43 (.tmp 18) rfl b (off + k * 9) ?_ _ _ HR1.out Tryz.underlying43 rfl (by kernel_rfl) ?_
        · rfl
        iterate 3 still_step
        refine still_load rfl 43 (.tmp 22) rfl b' (off' + k * 9) ?_ _ _ HR2.out Tryz.underlying43 rfl (by kernel_rfl) ?_
        · rfl
        refine wpStill_nil ?_
        change wpList _ _ _ _ _ wr.drew
        have HB2 : Hid (Below w.heap.size w wr.drew) := HB.out.drew
        clear HB HR1 HR2
        generalize wr.drew = W2 at *
        by_cases hxy : x = y
        · have hq : ∀ W, (Op.equalIn 10000 43 (.agg x.cells.toArray) (.agg y.cells.toArray)).run Tryz.prog W = .ok true W := fun W => by rw [eq_pair, decide_eq_true hxy]
          have HXY := Lib.hid hxy
          clear hxy
          go_wp2
          go_roundw
          case rel => exact ⟨k + 1, by omega, by go_num, (sameTo_step HU.out (by rw [HX.out, HY.out, HXY.out]) : sameTo l l' (k + 1)), HB2⟩
          case measure => simp [intOf]; omega
        · have hq : ∀ W, (Op.equalIn 10000 43 (.agg x.cells.toArray) (.agg y.cells.toArray)).run Tryz.prog W = .ok false W := fun W => by rw [eq_pair, decide_eq_false hxy]
          have HXY := Lib.hid hxy
          clear hxy
          go_wp2
          go_ret
          refine Says.no (fun hh => ?_) HB2.out
          have h1 := HX.out
          rw [hh, HY.out] at h1
          cases h1
          exact HXY.out rfl
      · go_wp2
        go_ret
        exact Says.yes (sameTo_all HL.out (fun i hi => HU.out i (by omega))) HB.out
  · have bl : ((l.length : Int) != (l'.length : Int)) = true := by simp; omega
    go_enter Tryz.func22, Tryz.ntmps22
    go_wp2
    go_ret
    exact Says.no (fun hh => hlen (by rw [hh])) (Below.refl _ _)
end Go.Sc
