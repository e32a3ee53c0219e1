/- score.rising at notes and at pairs; the comparison of pairs. -/
import Derived.Test.YtjpbfggfoahoeaaGreatDoorScA
import Derived.IntWalk
namespace Go.Sc
open Go.RowKit Go.Proofs

theorem still_load {P : Program} {ops : Array Oper} {w : World} {Q : Act → Prop} {a : Act} {op : Oper} {rest : List Oper} (hgd : op.guard = none) (ty : TypeId) (x : Operand) (ho : op.op = .load ty x)
    (b o : Nat) (hx : a.eval x = .pointer (some ⟨b, o, none⟩)) (cs : List Value) (d : TypeDesc) (hc : w.rangeAt b o cs)
    (hu : P.underlying ty = some d) (hd : d.isRow = true) (hi : (P.info? ty).map (·.size) = some cs.length)
    (h : wpStill P ops w Q rest (a.put op.dst (.agg cs.toArray))) : wpStill P ops w Q (op :: rest) a := by
  unfold wpStill
  rw [if_pos (by unfold Region.wanted; rw [hgd])]
  unfold Oper.still execOp
  simp only [ho, hx, Instr.loadAt, Instr.sureAddr, Sem.run_bind, Sem.run_pure, Result.andThen_ok, run_loadVar_mid w b o ty cs d hc hu hd hi]
  exact ⟨rfl, h⟩
theorem neg_or {x y x' y' : Int} : orI (cmpI x y) (cmpI x' y') < 0 ↔ x < y ∨ (x = y ∧ x' < y') := by
  unfold orI cmpI
  repeat' split
  all_goals omega
theorem rising_step {α : Type} {lt : α → α → Prop} {l : List α} {j : Nat} {a b : α} (h : ∀ (i : Nat) (a b : α), i < j → l[i]? = some a → l[i + 1]? = some b → lt a b) (ha : l[j]? = some a) (hb : l[j + 1]? = some b) (hl : lt a b) :
    ∀ (i : Nat) (a b : α), i < j + 1 → l[i]? = some a → l[i + 1]? = some b → lt a b := fun i x y hi hx hy => by
  rcases Nat.lt_or_ge i j with h1 | h1
  · exact h i x y h1 hx hy
  · have : i = j := by omega
    subst this
    rw [ha] at hx
    rw [hb] at hy
    cases hx
    cases hy
    exact hl
def risingTo {α : Type} (lt : α → α → Prop) (l : List α) (j : Nat) : Prop := ∀ (i : Nat) (a b : α), i < j → l[i]? = some a → l[i + 1]? = some b → lt a b

set_option maxRecDepth 100000 in
set_option maxHeartbeats 4000000 in
theorem cmpP_any (a b : Pr) (w : World) : Calls Tryz.prog 68 #[.agg a.cells.toArray, .agg b.cells.toArray] w fun e w' => e = .returned (.int .i64 (orI (cmpI a.a b.a) (cmpI a.b b.b))) ∧ Below w.heap.size w w' := by
  obtain ⟨v, fr, a0, a1, a2, a3, a4, a5, td⟩ := a
  obtain ⟨v', fr', b0, b1, b2, b3, b4, b5, td'⟩ := b
  show Calls Tryz.prog 68 #[.agg #[.int .i64 v, .int .i64 fr, .int .i64 a0, .int .i64 a1, .int .i64 a2, .int .i64 a3, .int .i64 a4, .int .i64 a5, .int .i64 td], .agg #[.int .i64 v', .int .i64 fr', .int .i64 b0, .int .i64 b1, .int .i64 b2, .int .i64 b3, .int .i64 b4, .int .i64 b5, .int .i64 td']] w _
  dsimp only
  go_enter Tryz.func68, Tryz.ntmps68
  go_wp2
  generalize hW : World.alloc (World.alloc w _) _ = W0
  have e0 : W0.cell? ⟨w.heap.size, 0, none⟩ = some (.int .i64 v) := by rw [← hW]; simp
  have e1 : W0.cell? ⟨w.heap.size, 1, none⟩ = some (.int .i64 fr) := by rw [← hW]; simp
  have e2 : W0.cell? ⟨w.heap.size + 1, 0, none⟩ = some (.int .i64 v') := by rw [← hW]; simp
  have e3 : W0.cell? ⟨w.heap.size + 1, 1, none⟩ = some (.int .i64 fr') := by rw [← hW]; simp
  have HB : Hid (Below w.heap.size w W0) := by rw [← hW]; exact ((Below.refl _ _).alloc (Nat.le_refl _) _).alloc (by simp) _
  clear hW
  refine wp_region_still_tail 10 (by kernel_rfl) (by kernel_rfl) ?_
  simp only [List.take_succ_cons, List.take_zero, List.drop_succ_cons, List.drop_zero]
  change wpStill _ _ W0.drew _ _ _
  have HB2 : Hid (Below w.heap.size w W0.drew) := HB.out.drew
  have f0 : W0.drew.cell? ⟨w.heap.size, 0, none⟩ = some (.int .i64 v) := e0
  have f1 : W0.drew.cell? ⟨w.heap.size, 1, none⟩ = some (.int .i64 fr) := e1
  have f2 : W0.drew.cell? ⟨w.heap.size + 1, 0, none⟩ = some (.int .i64 v') := e2
  have f3 : W0.drew.cell? ⟨w.heap.size + 1, 1, none⟩ = some (.int .i64 fr') := e3
  repeat still_step
  still_call (compare_still _ _ _)
  repeat still_step
  still_call (compare_still _ _ _)
  repeat still_step
  refine wpStill_nil ?_
  change wpList _ _ _ _ _ W0.drew
  clear e0 e1 e2 e3 f0 f1 f2 f3 HB
  generalize W0.drew = W2 at *
  go_wp2_with (go_at_call 31; refine (or_any (cmpI v v') (cmpI fr fr') _ _ _ _ (by go_simp) (by go_simp)).mono ?_; rintro e w' ⟨rfl, rfl⟩)
  go_ret
  exact ⟨rfl, HB2.out.alloc (HB2.out.size) _⟩

set_option maxRecDepth 100000 in
set_option maxHeartbeats 4000000 in
theorem risingN_any (o : Option Addr) (l : List Nt) (cap : Nat) (w : World) (h : NotesAt w o l) (hl : l.length ≤ 140737488351232) :
    Calls Tryz.prog 65 #[.slice o l.length cap, .func (.func 66) #[] #[]] w (Says (rising ltN l) w) := by
  have HN : Hid (NotesAt w o l) := h
  clear h
  go_enter Tryz.func65, Tryz.ntmps65
  go_wp2
  go_loopw [5] (fun i wr => ∃ j : Nat, j ≤ l.length ∧ i = .int .i64 (j + 1) ∧ Hid (risingTo ltN l j) ∧ Hid (Below w.heap.size w wr)) (fun i _ => l.length + 1 - (intOf i).toNat)
  case atStart => exact ⟨0, by omega, rfl, (fun i a b hi => by omega : risingTo ltN l 0), (Below.refl _ _ : Below _ _ _)⟩
  case round =>
    obtain ⟨j, hj, rfl, HU, HB⟩ := hrel
    by_cases hlt : j + 1 < l.length
    · obtain ⟨x, hx⟩ := get_of_lt (show j < l.length by omega)
      obtain ⟨y, hy⟩ := get_of_lt hlt
      obtain ⟨b, off, rfl, hb, hr⟩ := HN.out j _ hx
      obtain ⟨b', off', ho', hb', hr'⟩ := HN.out (j + 1) _ hy
      cases ho'
      have HX : Hid (l[j]? = some x) := hx
      have HY : Hid (l[j + 1]? = some y) := hy
      have HR1 : Hid (wr.drew.rangeAt b (off + j * 10) x.cells) := rangeAt_below HB.out hb hr
      have HR2 : Hid (wr.drew.rangeAt b (off + (j + 1) * 10) y.cells) := rangeAt_below HB.out hb hr'
      clear hx hy hr hr' hb hb'
      go_wp2
      refine wp_region_still_tail 10 (by kernel_rfl) (by kernel_rfl) ?_
      simp only [List.take_succ_cons, List.take_zero, List.drop_succ_cons, List.drop_zero]
      change wpStill _ _ wr.drew _ _ _
      have q1 : IntKind.i64.wrap (j : Int) = (j : Int) := IntWalk.i64_in _ (by omega)
      have q2 : (0 : Int) ≤ (j : Int) := by omega
      have q3 : (j : Int) < (l.length : Int) := by omega
      have q4 : (0 : Int) ≤ (j : Int) + 1 := by omega
      have q5 : (j : Int) + 1 < (l.length : Int) := by omega
      have q6 : ((j : Int) + 1).toNat = j + 1 := by omega
      iterate 5 still_step
      refine still_load rfl 41 (.tmp 16) rfl b (off + j * 10) ?_ _ _ HR1.out Tryz.underlying41 rfl (by kernel_rfl) ?_
      · rfl
      iterate 3 still_step
      refine still_load rfl 41 (.tmp 20) rfl b (off + (j + 1) * 10) ?_ _ _ HR2.out Tryz.underlying41 rfl (by kernel_rfl) ?_
      · rfl
      refine wpStill_nil ?_
      change wpList _ _ _ _ _ wr.drew
      have HB2 : Hid (Below w.heap.size w wr.drew) := HB.out.drew
      clear HB HR1 HR2
      generalize wr.drew = W2 at *
      go_wp2_with (go_at_call 66; refine (cmpN_any x y _).mono ?_; rintro e w' ⟨rfl, hb2⟩; have HB3 := Lib.hid hb2; clear hb2)
      case roundEnd =>
        rename_i hx
        have hlx : ltN x y := neg_or.1 hx
        go_roundw
        case rel => exact ⟨j + 1, by omega, by go_num, (rising_step HU.out HX.out HY.out hlx : risingTo ltN l (j + 1)), (HB2.out.trans (HB3.out.mono HB2.out.size) : Below _ _ _)⟩
        case measure => simp [intOf]; omega
      · rename_i hx
        go_ret
        refine Says.no (fun hh => ?_) (HB2.out.trans (HB3.out.mono HB2.out.size))
        have := neg_or.2 (hh j x y HX.out HY.out)
        omega
    · go_wp2
      go_ret
      refine Says.yes (fun i a b ha hb => HU.out i a b ?_ ha hb) HB.out
      have := (List.getElem?_eq_some_iff.1 hb).1
      omega

set_option maxRecDepth 100000 in
set_option maxHeartbeats 4000000 in
theorem risingP_any (o : Option Addr) (l : List Pr) (cap : Nat) (w : World) (h : PairsAt w o l) (hl : l.length ≤ 140737488351232) :
    Calls Tryz.prog 67 #[.slice o l.length cap, .func (.func 68) #[] #[]] w (Says (rising ltP l) w) := by
  have HN : Hid (PairsAt w o l) := h
  clear h
  go_enter Tryz.func67, Tryz.ntmps67
  go_wp2
  go_loopw [5] (fun i wr => ∃ j : Nat, j ≤ l.length ∧ i = .int .i64 (j + 1) ∧ Hid (risingTo ltP l j) ∧ Hid (Below w.heap.size w wr)) (fun i _ => l.length + 1 - (intOf i).toNat)
  case atStart => exact ⟨0, by omega, rfl, (fun i a b hi => by omega : risingTo ltP l 0), (Below.refl _ _ : Below _ _ _)⟩
  case round =>
    obtain ⟨j, hj, rfl, HU, HB⟩ := hrel
    by_cases hlt : j + 1 < l.length
    · obtain ⟨x, hx⟩ := get_of_lt (show j < l.length by omega)
      obtain ⟨y, hy⟩ := get_of_lt hlt
      obtain ⟨b, off, rfl, hb, hr⟩ := HN.out j _ hx
      obtain ⟨b', off', ho', hb', hr'⟩ := HN.out (j + 1) _ hy
      cases ho'
      have HX : Hid (l[j]? = some x) := hx
      have HY : Hid (l[j + 1]? = some y) := hy
      have HR1 : Hid (wr.drew.rangeAt b (off + j * 9) x.cells) := rangeAt_below HB.out hb hr
      have HR2 : Hid (wr.drew.rangeAt b (off + (j + 1) * 9) y.cells) := rangeAt_below HB.out hb hr'
      clear hx hy hr hr' hb hb'
      go_wp2
      refine wp_region_still_tail 10 (by kernel_rfl) (by kernel_rfl) ?_
      simp only [List.take_succ_cons, List.take_zero, List.drop_succ_cons, List.drop_zero]
      change wpStill _ _ wr.drew _ _ _
      have q1 : IntKind.i64.wrap (j : Int) = (j : Int) := IntWalk.i64_in _ (by omega)
      have q2 : (0 : Int) ≤ (j : Int) := by omega
      have q3 : (j : Int) < (l.length : Int) := by omega
      have q4 : (0 : Int) ≤ (j : Int) + 1 := by omega
      have q5 : (j : Int) + 1 < (l.length : Int) := by omega
      have q6 : ((j : Int) + 1).toNat = j + 1 := by omega
      iterate 5 still_step
      refine still_load rfl 43 (.tmp 16) rfl b (off + j * 9) ?_ _ _ HR1.out Tryz.underlying43 rfl (by kernel_rfl) ?_
      · rfl
      iterate 3 still_step
      refine still_load rfl 43 (.tmp 20) rfl b (off + (j + 1) * 9) ?_ _ _ HR2.out Tryz.underlying43 rfl (by kernel_rfl) ?_
      · rfl
      refine wpStill_nil ?_
      change wpList _ _ _ _ _ wr.drew
      have HB2 : Hid (Below w.heap.size w wr.drew) := HB.out.drew
      clear HB HR1 HR2
      generalize wr.drew = W2 at *
      go_wp2_with (go_at_call 68; refine (cmpP_any x y _).mono ?_; rintro e w' ⟨rfl, hb2⟩; have HB3 := Lib.hid hb2; clear hb2)
      case roundEnd =>
        rename_i hx
        have hlx : ltP x y := neg_or.1 hx
        go_roundw
        case rel => exact ⟨j + 1, by omega, by go_num, (rising_step HU.out HX.out HY.out hlx : risingTo ltP l (j + 1)), (HB2.out.trans (HB3.out.mono HB2.out.size) : Below _ _ _)⟩
        case measure => simp [intOf]; omega
      · rename_i hx
        go_ret
        refine Says.no (fun hh => ?_) (HB2.out.trans (HB3.out.mono HB2.out.size))
        have := neg_or.2 (hh j x y HX.out HY.out)
        omega
    · go_wp2
      go_ret
      refine Says.yes (fun i a b ha hb => HU.out i a b ?_ ha hb) HB.out
      have := (List.getElem?_eq_some_iff.1 hb).1
      omega
end Go.Sc
