/- score.notes. -/
import Derived.Test.YtpbpeoijejocaaaGreatDoorScA
import Derived.IntWalk
namespace Go.Sc
open Go.RowKit Go.Proofs

theorem still_load {P : Program} {ops : Array Oper} {w : World} {Q : Act → Prop} {a : Act} {op : Oper} {rest : List Oper} (hgd : op.guard = none) (ty : TypeId) (x : Operand) (ho : op.op = .load ty x)
    (b o : Nat) (hx : a.eval x = .pointer (some ⟨b, o, none⟩)) (cs : List Value) (d : TypeDesc) (hc : w.rangeAt b o cs)
    (hu : P.underlying ty = some d) (hd : d.isRow = true) (hi : (P.info? ty).map (·.size) = some cs.length)
    (h : wpStill P ops w Q rest (a.put op.dst (.agg cs.toArray))) : wpStill P ops w Q (op :: rest) a := by
  unfold wpStill
  rw [if_pos (by unfold Region.wanted; rw [hgd])]
  unfold Oper.still execOp
  simp only [ho, hx, Instr.loadAt, Instr.sureAddr, Sem.run_bind, Sem.run_pure, Result.andThen_ok, run_loadVar_mid w b o ty cs d hc hu hd hi]
  exact ⟨rfl, h⟩
theorem neg_or {x y x' y' : Int} : orI (cmpI x y) (cmpI x' y') < 0 ↔ x < y ∨ (x = y ∧ x' < y') := by
  unfold orI cmpI
  repeat' split
  all_goals omega
theorem rising_step {α : Type} {lt : α → α → Prop} {l : List α} {j : Nat} {a b : α} (h : ∀ (i : Nat) (a b : α), i < j → l[i]? = some a → l[i + 1]? = some b → lt a b) (ha : l[j]? = some a) (hb : l[j + 1]? = some b) (hl : lt a b) :
    ∀ (i : Nat) (a b : α), i < j + 1 → l[i]? = some a → l[i + 1]? = some b → lt a b := fun i x y hi hx hy => by
  rcases Nat.lt_or_ge i j with h1 | h1
  · exact h i x y h1 hx hy
  · have : i = j := by omega
    subst this
    rw [ha] at hx
    rw [hb] at hy
    cases hx
    cases hy
    exact hl
def risingTo {α : Type} (lt : α → α → Prop) (l : List α) (j : Nat) : Prop := ∀ (i : Nat) (a b : α), i < j → l[i]? = some a → l[i + 1]? = some b → lt a b

set_option maxRecDepth 100000 in
set_option maxHeartbeats 4000000 in
theorem cmpP_any (a b : Pr) (w : World) : Calls Tryz.prog 98 #[.agg a.cells.toArray, .agg b.cells.toArray] w fun e w' => e = .returned (.int .i64 (orI (cmpI a.a b.a) (cmpI a.b b.b))) ∧ Below w.heap.size w w' := by
  obtain ⟨v, fr, a0, a1, a2, a3, a4, a5, td⟩ := a
  obtain ⟨v', fr', b0, b1, b2, b3, b4, b5, td'⟩ := b
  show Calls Tryz.prog 98 #[.agg #[.int .i64 v, .int .i64 fr, .int .i64 a0, .int .i64 a1, .int .i64 a2, .int .i64 a3, .int .i64 a4, .int .i64 a5, .int .i64 td], .agg #[.int .i64 v', .int .i64 fr', .int .i64 b0, .int .i64 b1, .int .i64 b2, .int .i64 b3, .int .i64 b4, .int .i64 b5, .int .i64 td']] w _
  dsimp only
  go_enter Tryz.func98, Tryz.ntmps98
  go_wp2
  generalize hW : World.alloc (World.alloc w _) _ = W0
  have e0 : W0.cell? ⟨w.heap.size, 0, none⟩ = some (.int .i64 v) := by rw [← hW]; simp
  have e1 : W0.cell? ⟨w.heap.size, 1, none⟩ = some (.int .i64 fr) := by rw [← hW]; simp
  have e2 : W0.cell? ⟨w.heap.size + 1, 0, none⟩ = some (.int .i64 v') := by rw [← hW]; simp
  have e3 : W0.cell? ⟨w.heap.size + 1, 1, none⟩ = some (.int .i64 fr') := by rw [← hW]; simp
  have HB : Hid (Below w.heap.size w W0) := by rw [← hW]; exact ((Below.refl _ _).alloc (Nat.le_refl _) _).alloc (by simp) _
  clear hW
  refine wp_region_still_tail 10 (by kernel_rfl) (by kernel_rfl) ?_
  simp only [List.take_succ_cons, List.take_zero, List.drop_succ_cons, List.drop_zero]
  change wpStill _ _ W0.drew _ _ _
  have HB2 : Hid (Below w.heap.size w W0.drew) := HB.out.drew
  have f0 : W0.drew.cell? ⟨w.heap.size, 0, none⟩ = some (.int .i64 v) := e0
  have f1 : W0.drew.cell? ⟨w.heap.size, 1, none⟩ = some (.int .i64 fr) := e1
  have f2 : W0.drew.cell? ⟨w.heap.size + 1, 0, none⟩ = some (.int .i64 v') := e2
  have f3 : W0.drew.cell? ⟨w.heap.size + 1, 1, none⟩ = some (.int .i64 fr') := e3
  repeat still_step
  still_call (compare_still _ _ _)
  repeat still_step
  still_call (compare_still _ _ _)
  repeat still_step
  refine wpStill_nil ?_
  change wpList _ _ _ _ _ W0.drew
  clear e0 e1 e2 e3 f0 f1 f2 f3 HB
  generalize W0.drew = W2 at *
  go_wp2_with (go_at_call 96; refine (or_any (cmpI v v') (cmpI fr fr') _ _ _ _ (by go_simp) (by go_simp)).mono ?_; rintro e w' ⟨rfl, rfl⟩)
  go_ret
  exact ⟨rfl, HB2.out.alloc (HB2.out.size) _⟩

set_option maxRecDepth 100000 in
set_option maxHeartbeats 4000000 in
theorem risingN_any (o : Option Addr) (l : List Nt) (cap : Nat) (w : World) (h : NotesAt w o l) (hl : l.length ≤ 140737488351232) :
    Calls Tryz.prog 94 #[.slice o l.length cap, .func (.func 95) #[] #[]] w (Says (rising ltN l) w) := by
  have HN : Hid (NotesAt w o l) := h
  clear h
  go_enter Tryz.func94, Tryz.ntmps94
  go_wp2
  go_loopw [5] (fun i wr => ∃ j : Nat, j ≤ l.length ∧ i = .int .i64 (j + 1) ∧ Hid (risingTo ltN l j) ∧ Hid (Below w.heap.size w wr)) (fun i _ => l.length + 1 - (intOf i).toNat)
  case atStart => exact ⟨0, by omega, rfl, (fun i a b hi => by omega : risingTo ltN l 0), (Below.refl _ _ : Below _ _ _)⟩
  case round =>
    obtain ⟨j, hj, rfl, HU, HB⟩ := hrel
    by_cases hlt : j + 1 < l.length
    · obtain ⟨x, hx⟩ := get_of_lt (show j < l.length by omega)
      obtain ⟨y, hy⟩ := get_of_lt hlt
      obtain ⟨b, off, rfl, hb, hr⟩ := HN.out j _ hx
      obtain ⟨b', off', ho', hb', hr'⟩ := HN.out (j + 1) _ hy
      cases ho'
      have HX : Hid (l[j]? = some x) := hx
      have HY : Hid (l[j + 1]? = some y) := hy
      have HR1 : Hid (wr.drew.rangeAt b (off + j * 10) x.cells) := rangeAt_below HB.out hb hr
      have HR2 : Hid (wr.drew.rangeAt b (off + (j + 1) * 10) y.cells) := rangeAt_below HB.out hb hr'
      clear hx hy hr hr' hb hb'
      go_wp2
      refine wp_region_still_tail 10 (by kernel_rfl) (by kernel_rfl) ?_
      simp only [List.take_succ_cons, List.take_zero, List.drop_succ_cons, List.drop_zero]
      change wpStill _ _ wr.drew _ _ _
      have q1 : IntKind.i64.wrap (j : Int) = (j : Int) := IntWalk.i64_in _ (by omega)
      have q2 : (0 : Int) ≤ (j : Int) := by omega
      have q3 : (j : Int) < (l.length : Int) := by omega
      have q4 : (0 : Int) ≤ (j : Int) + 1 := by omega
      have q5 : (j : Int) + 1 < (l.length : Int) := by omega
      have q6 : ((j : Int) + 1).toNat = j + 1 := by omega
      iterate 5 still_step
      refine still_load rfl 100 (.tmp 16) rfl b (off + j * 10) ?_ _ _ HR1.out Tryz.underlying100 rfl (by kernel_rfl) ?_
      · rfl
      iterate 3 still_step
      refine still_load rfl 100 (.tmp 20) rfl b (off + (j + 1) * 10) ?_ _ _ HR2.out Tryz.underlying100 rfl (by kernel_rfl) ?_
      · rfl
      refine wpStill_nil ?_
      change wpList _ _ _ _ _ wr.drew
      have HB2 : Hid (Below w.heap.size w wr.drew) := HB.out.drew
      clear HB HR1 HR2
      generalize wr.drew = W2 at *
      go_wp2_with (go_at_call 95; refine (cmpN_any x y _).mono ?_; rintro e w' ⟨rfl, hb2⟩; have HB3 := Lib.hid hb2; clear hb2)
      case roundEnd =>
        rename_i hx
        have hlx : ltN x y := neg_or.1 hx
        go_roundw
        case rel => exact ⟨j + 1, by omega, by go_num, (rising_step HU.out HX.out HY.out hlx : risingTo ltN l (j + 1)), (HB2.out.trans (HB3.out.mono HB2.out.size) : Below _ _ _)⟩
        case measure => simp [intOf]; omega
      · rename_i hx
        go_ret
        refine Says.no (fun hh => ?_) (HB2.out.trans (HB3.out.mono HB2.out.size))
        have := neg_or.2 (hh j x y HX.out HY.out)
        omega
    · go_wp2
      go_ret
      refine Says.yes (fun i a b ha hb => HU.out i a b ?_ ha hb) HB.out
      have := (List.getElem?_eq_some_iff.1 hb).1
      omega

set_option maxRecDepth 100000 in
set_option maxHeartbeats 4000000 in
theorem risingP_any (o : Option Addr) (l : List Pr) (cap : Nat) (w : World) (h : PairsAt w o l) (hl : l.length ≤ 140737488351232) :
    Calls Tryz.prog 97 #[.slice o l.length cap, .func (.func 98) #[] #[]] w (Says (rising ltP l) w) := by
  have HN : Hid (PairsAt w o l) := h
  clear h
  go_enter Tryz.func97, Tryz.ntmps97
  go_wp2
  go_loopw [5] (fun i wr => ∃ j : Nat, j ≤ l.length ∧ i = .int .i64 (j + 1) ∧ Hid (risingTo ltP l j) ∧ Hid (Below w.heap.size w wr)) (fun i _ => l.length + 1 - (intOf i).toNat)
  case atStart => exact ⟨0, by omega, rfl, (fun i a b hi => by omega : risingTo ltP l 0), (Below.refl _ _ : Below _ _ _)⟩
  case round =>
    obtain ⟨j, hj, rfl, HU, HB⟩ := hrel
    by_cases hlt : j + 1 < l.length
    · obtain ⟨x, hx⟩ := get_of_lt (show j < l.length by omega)
      obtain ⟨y, hy⟩ := get_of_lt hlt
      obtain ⟨b, off, rfl, hb, hr⟩ := HN.out j _ hx
      obtain ⟨b', off', ho', hb', hr'⟩ := HN.out (j + 1) _ hy
      cases ho'
      have HX : Hid (l[j]? = some x) := hx
      have HY : Hid (l[j + 1]? = some y) := hy
      have HR1 : Hid (wr.drew.rangeAt b (off + j * 9) x.cells) := rangeAt_below HB.out hb hr
      have HR2 : Hid (wr.drew.rangeAt b (off + (j + 1) * 9) y.cells) := rangeAt_below HB.out hb hr'
      clear hx hy hr hr' hb hb'
      go_wp2
      refine wp_region_still_tail 10 (by kernel_rfl) (by kernel_rfl) ?_
      simp only [List.take_succ_cons, List.take_zero, List.drop_succ_cons, List.drop_zero]
      change wpStill _ _ wr.drew _ _ _
      have q1 : IntKind.i64.wrap (j : Int) = (j : Int) := IntWalk.i64_in _ (by omega)
      have q2 : (0 : Int) ≤ (j : Int) := by omega
      have q3 : (j : Int) < (l.length : Int) := by omega
      have q4 : (0 : Int) ≤ (j : Int) + 1 := by omega
      have q5 : (j : Int) + 1 < (l.length : Int) := by omega
      have q6 : ((j : Int) + 1).toNat = j + 1 := by omega
      iterate 5 still_step
      refine still_load rfl 84 (.tmp 16) rfl b (off + j * 9) ?_ _ _ HR1.out Tryz.underlying84 rfl (by kernel_rfl) ?_
      · rfl
      iterate 3 still_step
      refine still_load rfl 84 (.tmp 20) rfl b (off + (j + 1) * 9) ?_ _ _ HR2.out Tryz.underlying84 rfl (by kernel_rfl) ?_
      · rfl
      refine wpStill_nil ?_
      change wpList _ _ _ _ _ wr.drew
      have HB2 : Hid (Below w.heap.size w wr.drew) := HB.out.drew
      clear HB HR1 HR2
      generalize wr.drew = W2 at *
      go_wp2_with (go_at_call 98; refine (cmpP_any x y _).mono ?_; rintro e w' ⟨rfl, hb2⟩; have HB3 := Lib.hid hb2; clear hb2)
      case roundEnd =>
        rename_i hx
        have hlx : ltP x y := neg_or.1 hx
        go_roundw
        case rel => exact ⟨j + 1, by omega, by go_num, (rising_step HU.out HX.out HY.out hlx : risingTo ltP l (j + 1)), (HB2.out.trans (HB3.out.mono HB2.out.size) : Below _ _ _)⟩
        case measure => simp [intOf]; omega
      · rename_i hx
        go_ret
        refine Says.no (fun hh => ?_) (HB2.out.trans (HB3.out.mono HB2.out.size))
        have := neg_or.2 (hh j x y HX.out HY.out)
        omega
    · go_wp2
      go_ret
      refine Says.yes (fun i a b ha hb => HU.out i a b ?_ ha hb) HB.out
      have := (List.getElem?_eq_some_iff.1 hb).1
      omega
end Go.Sc

namespace Go.Sc
open Go.RowKit Go.Proofs

set_option maxRecDepth 100000 in
theorem from_any (n : Nt) (c : Int) (w : World) : Calls Tryz.prog 48 #[.agg n.cells.toArray, .int .i64 c] w fun e w' => e = .returned (.int .i64 (cmpI n.fr c)) ∧ Below w.heap.size w w' := by
  obtain ⟨v, fr, un, a0, a1, a2, a3, a4, a5, td⟩ := n
  show Calls Tryz.prog 48 #[.agg #[.int .i64 v, .int .i64 fr, .int .i64 un, .int .i64 a0, .int .i64 a1, .int .i64 a2, .int .i64 a3, .int .i64 a4, .int .i64 a5, .bool td], .int .i64 c] w _
  dsimp only
  go_enter Tryz.func48, Tryz.ntmps48
  go_wp2_with (go_at_call 49; refine (compare_any _ _ _).mono ?_; rintro e w' ⟨rfl, rfl⟩)
  go_ret
  exact ⟨rfl, (Below.refl _ _).alloc (Nat.le_refl _) _⟩

/-- n is the number of notes that begin before the tick. -/
def BeginsAt (l : List Nt) (c : Int) (n : Nat) : Prop := n ≤ l.length ∧ (∀ (i : Nat) (x : Nt), i < n → l[i]? = some x → x.fr < c) ∧ ∀ (i : Nat) (x : Nt), n ≤ i → l[i]? = some x → c ≤ x.fr
def Between (l : List Nt) (c : Int) (i j : Nat) : Prop := i ≤ j ∧ j ≤ l.length ∧ (∀ (k : Nat) (x : Nt), k < i → l[k]? = some x → x.fr < c) ∧ ∀ (k : Nat) (x : Nt), j ≤ k → l[k]? = some x → c ≤ x.fr
def Found (l : List Nt) (c : Int) (w : World) (e : Ending) (w' : World) : Prop := ∃ (n : Nat) (b : Bool), BeginsAt l c n ∧ e = .returned (.tuple #[.int .i64 n, .bool b]) ∧ Below w.heap.size w w'
theorem fr_lt {x c : Int} (h : cmpI x c < 0) : x < c := by
  unfold cmpI at h
  repeat' split at h
  all_goals omega
theorem fr_ge {x c : Int} (h : 0 ≤ cmpI x c) : c ≤ x := by
  unfold cmpI at h
  repeat' split at h
  all_goals omega
theorem between_up {l : List Nt} {c : Int} {a b m : Nat} {x : Nt} (hs : ∀ (i j : Nat) (x y : Nt), i ≤ j → l[i]? = some x → l[j]? = some y → x.fr ≤ y.fr) (h : Between l c a b) (hm : m < b) (hx : l[m]? = some x) (hc : x.fr < c) : Between l c (m + 1) b :=
  ⟨hm, h.2.1, fun k y hk hy => Int.lt_of_le_of_lt (hs k m y x (by omega) hy hx) hc, h.2.2.2⟩
theorem between_down {l : List Nt} {c : Int} {a b m : Nat} {x : Nt} (hs : ∀ (i j : Nat) (x y : Nt), i ≤ j → l[i]? = some x → l[j]? = some y → x.fr ≤ y.fr) (h : Between l c a b) (ha : a ≤ m) (hm : m < b) (hx : l[m]? = some x) (hc : c ≤ x.fr) : Between l c a m :=
  ⟨ha, by have := h.2.1; omega, h.2.2.1, fun k y hk hy => Int.le_trans hc (hs m k x y hk hx hy)⟩
set_option maxRecDepth 100000 in
set_option maxHeartbeats 8000000 in
theorem search_any (o : Option Addr) (l : List Nt) (cap : Nat) (c : Int) (w : World) (h : NotesAt w o l) (hl : l.length ≤ 140737488351232) (hs : ∀ (i j : Nat) (x y : Nt), i ≤ j → l[i]? = some x → l[j]? = some y → x.fr ≤ y.fr) :
    Calls Tryz.prog 47 #[.slice o l.length cap, .int .i64 c, .func (.func 48) #[] #[]] w (Found l c w) := by
  have HN : Hid (NotesAt w o l) := h
  have HS := Lib.hid hs
  clear h hs
  go_enter Tryz.func47, Tryz.ntmps47
  go_wp2
  go_loopw [9, 10] (fun i j wr => ∃ a b : Nat, i = .int .i64 a ∧ j = .int .i64 b ∧ a ≤ b ∧ b ≤ l.length ∧ Hid (Between l c a b) ∧ Hid (Below w.heap.size w wr)) (fun i j _ => (intOf j).toNat - (intOf i).toNat)
  case atStart => exact ⟨0, l.length, rfl, rfl, by omega, by omega, (⟨by omega, by omega, fun k x hk => by omega, fun k x hk hx => by have := (List.getElem?_eq_some_iff.1 hx).1; omega⟩ : Between l c 0 l.length), (Below.refl _ _ : Below _ _ _)⟩
  case round =>
    obtain ⟨a, b, rfl, rfl, hab, hbl, HU, HB⟩ := hrel
    by_cases hlt : a < b
    · obtain ⟨x, hx⟩ := get_of_lt (l := l) (show (a + b) / 2 < l.length by omega)
      obtain ⟨bb, off, rfl, hb, hr⟩ := HN.out _ _ hx
      have HX : Hid (l[(a + b) / 2]? = some x) := hx
      have HR : Hid (wr.rangeAt bb (off + (a + b) / 2 * 10) x.cells) := rangeAt_below HB.out hb hr
      clear hx hr
      go_wp2_with (first
        | (refine wpList_load_mid rfl 100 (.tmp 27) rfl bb (off + (a + b) / 2 * 10) ?_ _ _ HR.out Tryz.underlying100 rfl (by kernel_rfl) ?_; · rfl)
        | (go_at_call 48; refine (from_any x c _).mono ?_; rintro e w' ⟨rfl, hb2⟩; have HB2 := Lib.hid hb2; clear hb2))
      case' roundEnd =>
        rename_i hx
        go_roundw
      · rename_i hx
        refine ⟨(a + b) / 2 + 1, b, by rw [show ((a : Int) + b) / 2 + 1 = (((a + b) / 2 + 1 : Nat) : Int) by omega], rfl, by omega, by omega, (between_up HS.out HU.out (by omega) HX.out (fr_lt hx) : Between l c ((a + b) / 2 + 1) b), (HB.out.trans (HB2.out.mono HB.out.size) : Below _ _ _)⟩
      · simp [intOf]; omega
      · rename_i hx
        go_roundw
        case rel => exact ⟨a, (a + b) / 2, rfl, by rw [show ((a : Int) + b) / 2 = (((a + b) / 2 : Nat) : Int) by omega], by omega, by omega, (between_down HS.out HU.out (by omega) (by omega) HX.out (fr_ge hx) : Between l c a ((a + b) / 2)), (HB.out.trans (HB2.out.mono HB.out.size) : Below _ _ _)⟩
        case measure => simp [intOf]; omega
    · have hab' : a = b := by omega
      subst hab'
      have hfin : BeginsAt l c a := ⟨hbl, HU.out.2.2.1, HU.out.2.2.2⟩
      have HF := Lib.hid hfin
      clear hfin
      by_cases hal : a < l.length
      · obtain ⟨⟨v, fr, un, a0, a1, a2, a3, a4, a5, td⟩, hx⟩ := get_of_lt hal
        obtain ⟨bb, off, rfl, hb, hr⟩ := HN.out _ _ hx
        have hr2 := rangeAt_below HB.out hb hr
        have k0 : wr.cell? ⟨bb, off + a * 10, none⟩ = some (.int .i64 v) := hr2 0 _ rfl
        have k1 : wr.cell? ⟨bb, off + a * 10 + 1, none⟩ = some (.int .i64 fr) := hr2 1 _ rfl
        have k2 : wr.cell? ⟨bb, off + a * 10 + 2, none⟩ = some (.int .i64 un) := hr2 2 _ rfl
        have k3 : wr.cell? ⟨bb, off + a * 10 + 3, none⟩ = some (.int .i64 a0) := hr2 3 _ rfl
        have k4 : wr.cell? ⟨bb, off + a * 10 + 4, none⟩ = some (.int .i64 a1) := hr2 4 _ rfl
        have k5 : wr.cell? ⟨bb, off + a * 10 + 5, none⟩ = some (.int .i64 a2) := hr2 5 _ rfl
        have k6 : wr.cell? ⟨bb, off + a * 10 + 6, none⟩ = some (.int .i64 a3) := hr2 6 _ rfl
        have k7 : wr.cell? ⟨bb, off + a * 10 + 7, none⟩ = some (.int .i64 a4) := hr2 7 _ rfl
        have k8 : wr.cell? ⟨bb, off + a * 10 + 8, none⟩ = some (.int .i64 a5) := hr2 8 _ rfl
        have k9 : wr.cell? ⟨bb, off + a * 10 + 9, none⟩ = some (.bool td) := hr2 9 _ rfl
        clear hx hr hr2
        go_wp2_with (go_at_call 48; refine (from_any ⟨v, fr, un, a0, a1, a2, a3, a4, a5, td⟩ c _).mono ?_; rintro e w' ⟨rfl, hb2⟩; have HB2 := Lib.hid hb2; clear hb2)
        go_ret2
        exact ⟨a, _, HF.out, rfl, HB.out.trans (HB2.out.mono HB.out.size)⟩
      · go_wp2
        go_ret2
        exact ⟨a, _, HF.out, rfl, HB.out⟩
end Go.Sc

namespace Go.Sc
open Go.RowKit Go.Proofs

theorem cell_int {w : World} {b off k : Nat} {x : Int} (h : w.rangeAt b (off + k * 1) [Value.int .i64 x]) : w.cell? ⟨b, off + k, none⟩ = some (.int .i64 x) := by
  have := h 0 _ rfl
  simpa using this
theorem neg_cmp {x y : Int} : cmpI x y < 0 ↔ ltI x y := by
  unfold cmpI ltI
  repeat' split
  all_goals omega

set_option maxRecDepth 100000 in
set_option maxHeartbeats 4000000 in
theorem risingI_any (o : Option Addr) (l : List Int) (cap : Nat) (w : World) (h : IntsAt w o l) (hl : l.length ≤ 140737488351232) :
    Calls Tryz.prog 99 #[.slice o l.length cap, .func (.func 49) #[] #[]] w (Says (rising ltI l) w) := by
  have HN : Hid (IntsAt w o l) := h
  clear h
  go_enter Tryz.func99, Tryz.ntmps99
  go_wp2
  go_loopw [5] (fun i wr => ∃ j : Nat, j ≤ l.length ∧ i = .int .i64 (j + 1) ∧ Hid (risingTo ltI l j) ∧ Hid (Below w.heap.size w wr)) (fun i _ => l.length + 1 - (intOf i).toNat)
  case atStart => exact ⟨0, by omega, rfl, (fun i a b hi => by omega : risingTo ltI l 0), (Below.refl _ _ : Below _ _ _)⟩
  case round =>
    obtain ⟨j, hj, rfl, HU, HB⟩ := hrel
    by_cases hlt : j + 1 < l.length
    · obtain ⟨x, hx⟩ := get_of_lt (show j < l.length by omega)
      obtain ⟨y, hy⟩ := get_of_lt hlt
      obtain ⟨b, off, rfl, hb, hr⟩ := HN.out j _ hx
      obtain ⟨b', off', ho', hb', hr'⟩ := HN.out (j + 1) _ hy
      cases ho'
      have HX : Hid (l[j]? = some x) := hx
      have HY : Hid (l[j + 1]? = some y) := hy
      have e1 : wr.cell? ⟨b, off + j, none⟩ = some (.int .i64 x) := cell_int (rangeAt_below HB.out hb hr)
      have e2 : wr.cell? ⟨b, off + (j + 1), none⟩ = some (.int .i64 y) := cell_int (rangeAt_below HB.out hb hr')
      have f1 : wr.drew.cell? ⟨b, off + j, none⟩ = some (.int .i64 x) := e1
      have f2 : wr.drew.cell? ⟨b, off + (j + 1), none⟩ = some (.int .i64 y) := e2
      clear hx hy hr hr' hb hb'
      go_wp2
      refine wp_region_still_tail 10 (by kernel_rfl) (by kernel_rfl) ?_
      simp only [List.take_succ_cons, List.take_zero, List.drop_succ_cons, List.drop_zero]
      change wpStill _ _ wr.drew _ _ _
      have q1 : IntKind.i64.wrap (j : Int) = (j : Int) := IntWalk.i64_in _ (by omega)
      have q2 : (0 : Int) ≤ (j : Int) := by omega
      have q3 : (j : Int) < (l.length : Int) := by omega
      have q4 : (0 : Int) ≤ (j : Int) + 1 := by omega
      have q5 : (j : Int) + 1 < (l.length : Int) := by omega
      have q6 : ((j : Int) + 1).toNat = j + 1 := by omega
      repeat still_step
      refine wpStill_nil ?_
      change wpList _ _ _ _ _ wr.drew
      have HB2 : Hid (Below w.heap.size w wr.drew) := HB.out.drew
      clear HB e1 e2 f1 f2
      generalize wr.drew = W2 at *
      go_wp2_with (go_at_call 49; refine (compare_any x y _).mono ?_; rintro e w' ⟨rfl, rfl⟩)
      case roundEnd =>
        rename_i hx
        have hlx : ltI x y := neg_cmp.1 hx
        go_roundw
        case rel => exact ⟨j + 1, by omega, by go_num, (rising_step HU.out HX.out HY.out hlx : risingTo ltI l (j + 1)), HB2⟩
        case measure => simp [intOf]; omega
      · rename_i hx
        go_ret
        refine Says.no (fun hh => ?_) HB2.out
        have := neg_cmp.2 (hh j x y HX.out HY.out)
        omega
    · go_wp2
      go_ret
      refine Says.yes (fun i a b ha hb => HU.out i a b ?_ ha hb) HB.out
      have := (List.getElem?_eq_some_iff.1 hb).1
      omega

def cadOk (l : List Int) : Prop := (∀ c ∈ l, 1 ≤ c ∧ c < 100000) ∧ rising ltI l
def cadTo (l : List Int) (k : Nat) : Prop := ∀ c ∈ l.take k, 1 ≤ c ∧ c < 100000
set_option maxRecDepth 100000 in
set_option maxHeartbeats 2000000 in
theorem cadences_any (V ns ps : Value) (o : Option Addr) (l : List Int) (cap : Nat) (w : World) (h : IntsAt w o l) (hl : l.length ≤ 140737488351232) :
    Calls Tryz.prog 76 #[.agg #[V, ns, ps, .slice o l.length cap]] w (Says (cadOk l) w) := by
  have HN : Hid (IntsAt w o l) := h
  clear h
  go_enter Tryz.func76, Tryz.ntmps76
  go_wp2
  go_loopw [8] (fun i wr => ∃ k : Nat, k ≤ l.length ∧ i = .int .i64 k ∧ Hid (cadTo l k) ∧ Hid (Below (w.heap.size + 1) (w.alloc (.cells #[V, ns, ps, .slice o l.length cap] 26)) wr)) (fun i _ => l.length - (intOf i).toNat)
  case atStart => exact ⟨0, by omega, rfl, (fun n hn => by simp at hn : cadTo l 0), (Below.refl _ _ : Below _ _ _)⟩
  case round =>
    obtain ⟨k, hk, rfl, HU, HB⟩ := hrel
    have hz : w.heap.size < wr.heap.size := by have := HB.out.size; simp at this; omega
    have g3 : wr.cell? ⟨w.heap.size, 3, none⟩ = some (.slice o l.length cap) := (HB.out.cell (p := ⟨w.heap.size, 3, none⟩) (by simp)).trans (by simp)
    by_cases hlt : k < l.length
    · obtain ⟨x, hn⟩ := get_of_lt hlt
      obtain ⟨b, off, rfl, hb, hr⟩ := HN.out k _ hn
      have e1 : wr.cell? ⟨b, off + k, none⟩ = some (.int .i64 x) := cell_int (rangeAt_below HB.out (by omega) (rangeAt_alloc _ hr))
      have HNN : Hid (l[k]? = some x) := hn
      clear hn hr
      go_wp2
      case roundEnd =>
        go_roundw
        case rel => exact ⟨k + 1, by omega, by go_num, (all_step HU.out HNN.out ⟨by omega, by omega⟩ : cadTo l (k + 1)), HB⟩
        case measure => simp [intOf]; omega
      all_goals
        go_ret
        refine Says.no (fun hh => ?_) (below_loop HB.out)
        have h1 := hh.1 _ (mem_of_get HNN.out)
        omega
    · have hkl : k = l.length := by omega
      subst hkl
      go_wp2_with (go_at_call 99; refine (risingI_any _ _ _ _ (HN.out.below (below_loop HB.out)) hl).mono ?_; rintro e w' ⟨bb, hbb, rfl, hb2⟩; have HB2 := Lib.hid hb2; have HBB := Lib.hid hbb; clear hb2 hbb)
      go_ret
      refine ⟨bb, ?_, rfl, (below_loop HB.out).trans (HB2.out.mono (by omega))⟩
      rw [HBB.out]
      exact ⟨fun hh => ⟨by have := HU.out; unfold cadTo at this; rwa [List.take_length] at this, hh⟩, fun hh => hh.2⟩

def sizesOk (V : Int) (n p c : Nat) : Prop := 1 ≤ V ∧ V ≤ 8 ∧ n ≤ 200 ∧ p ≤ 400 ∧ c < 16
set_option maxRecDepth 100000 in
set_option maxHeartbeats 2000000 in
theorem sizes_any (V : Int) (o1 o2 o3 : Option Addr) (n p c k1 k2 k3 : Nat) (w : World) :
    Calls Tryz.prog 72 #[.agg #[.int .i64 V, .slice o1 n k1, .slice o2 p k2, .slice o3 c k3]] w (Says (sizesOk V n p c) w) := by
  go_enter Tryz.func72, Tryz.ntmps72
  go_wp2
  all_goals
    go_ret
    refine ⟨_, ?_, rfl, (Below.refl _ _).alloc (Nat.le_refl _) _⟩
    unfold sizesOk
    first
      | (rw [decide_eq_true_iff]; omega)
      | (refine ⟨fun hh => ?_, fun hh => ?_⟩
         · cases hh
         · omega)
end Go.Sc

namespace Go.Sc
open Go.RowKit Go.Proofs

def notesTo (V : Int) (l : List Nt) (k : Nat) : Prop := ∀ n ∈ l.take k, noteOk V n
set_option maxRecDepth 100000 in
set_option maxHeartbeats 2000000 in
theorem notes_any (V : Int) (o : Option Addr) (l : List Nt) (cap : Nat) (ps cs : Value) (w : World) (h : NotesAt w o l) (hl : l.length ≤ 140737488351232) :
    Calls Tryz.prog 73 #[.agg #[.int .i64 V, .slice o l.length cap, ps, cs]] w (Says (notesOk V l) w) := by
  have HN : Hid (NotesAt w o l) := h
  clear h
  go_enter Tryz.func73, Tryz.ntmps73
  go_wp2
  go_loopw [8] (fun i wr => ∃ k : Nat, k ≤ l.length ∧ i = .int .i64 k ∧ Hid (notesTo V l k) ∧ Hid (Below (w.heap.size + 1) (w.alloc (.cells #[.int .i64 V, .slice o l.length cap, ps, cs] 26)) wr)) (fun i _ => l.length - (intOf i).toNat)
  case atStart => exact ⟨0, by omega, rfl, (fun n hn => by simp at hn : notesTo V l 0), (Below.refl _ _ : Below _ _ _)⟩
  case round =>
    obtain ⟨k, hk, rfl, HU, HB⟩ := hrel
    have hz : w.heap.size < wr.heap.size := by have := HB.out.size; simp at this; omega
    have g0 : wr.cell? ⟨w.heap.size, 0, none⟩ = some (.int .i64 V) := (HB.out.cell (p := ⟨w.heap.size, 0, none⟩) (by simp)).trans (by simp)
    have g1 : wr.cell? ⟨w.heap.size, 1, none⟩ = some (.slice o l.length cap) := (HB.out.cell (p := ⟨w.heap.size, 1, none⟩) (by simp)).trans (by simp)
    by_cases hlt : k < l.length
    · obtain ⟨⟨v, fr, un, a0, a1, a2, a3, a4, a5, td⟩, hn⟩ := get_of_lt hlt
      obtain ⟨b, off, rfl, hb, hr⟩ := HN.out k _ hn
      have hr2 : Hid (wr.rangeAt b (off + k * 10) [.int .i64 v, .int .i64 fr, .int .i64 un, .int .i64 a0, .int .i64 a1, .int .i64 a2, .int .i64 a3, .int .i64 a4, .int .i64 a5, .bool td]) := rangeAt_below HB.out (by omega) (rangeAt_alloc _ hr)
      have HNN : Hid (l[k]? = some ⟨v, fr, un, a0, a1, a2, a3, a4, a5, td⟩) := hn
      clear hn hr
      go_wp2_with (first
        | (refine wpList_load_mid rfl 100 (.tmp 10) rfl b (off + k * 10) rfl _ _ hr2.out Tryz.underlying100 rfl (by kernel_rfl) ?_)
        | (go_at_call 93; refine (bounded_any _ _ _ _ _ _ _ _ (by omega) (by omega)).mono ?_; rintro e w' ⟨rfl, hb2⟩; have HB2 := Lib.hid hb2; clear hb2))
      case roundEnd =>
        rename_i hx
        have hx2 : okV 24 a0 a1 a2 a3 a4 a5 := by simpa using hx.2
        go_roundw
        case rel =>
          refine ⟨k + 1, by omega, by go_num, ?_, ?_⟩
          · exact (all_step HU.out HNN.out ⟨by omega, by omega, by omega, by omega, by omega, hx2⟩ : notesTo V l (k + 1))
          · exact ((HB.out.alloc (by omega) _).trans (HB2.out.mono (by simp; omega)) : Below _ _ _)
        case measure => simp [intOf]; omega
      all_goals
        go_ret
        refine Says.no (fun hh => ?_) ?_
        · have h1 := hh.1 _ (mem_of_get HNN.out)
          obtain ⟨c1, c2, c3, c4, c5, c6⟩ := h1
          dsimp only at c1 c2 c3 c4 c5 c6
          first
            | omega
            | (simp [c6] at *; omega)
        · first
            | exact (below_loop HB.out).alloc (by omega) _
            | exact ((below_loop HB.out).alloc (by omega) _).trans (HB2.out.mono (by simp; omega))
    · have hkl : k = l.length := by omega
      subst hkl
      go_wp2_with (go_at_call 94; refine (risingN_any _ _ _ _ (HN.out.below (below_loop HB.out)) hl).mono ?_; rintro e w' ⟨bb, hbb, rfl, hb2⟩; have HB2 := Lib.hid hb2; have HBB := Lib.hid hbb; clear hb2 hbb)
      go_ret
      refine ⟨bb, ?_, rfl, (below_loop HB.out).trans (HB2.out.mono (by omega))⟩
      rw [HBB.out]
      exact ⟨fun hh => ⟨by have := HU.out; unfold notesTo at this; rwa [List.take_length] at this, hh⟩, fun hh => hh.2⟩
end Go.Sc
