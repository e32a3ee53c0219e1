/- The table of the edits: a map. The closure that changes a pair. Rows of notes; the edit that sets a note. -/
import Derived.Test.YtjpbfggfoahoeaaGreatDoorSrP
import Derived.Carry
namespace Go.Sc
open Go.RowKit Go.Proofs

abbrev fnV (c : Nat) (b : Nat) : Value := .func (.func c) #[] #[.pointer (some ⟨b, 0, none⟩)]
def ent (k : Int) (v : Value) (n : Nat) : MapEntry := { key := .int .i64 k, val := v, born := n }
def tab (n b c : Nat) : List MapEntry := [ent 1 (.func (.func 49) #[] #[]) 0, ent 2 (fnV 71 b) 1, ent 3 (fnV 71 c) 2, ent 4 (.func (.func 54) #[] #[]) 3].take n
def World.setAt (w : World) (z : Nat) (o : Obj) : World := { w with heap := w.heap.setIfInBounds z o }
theorem check_int (e : Bool) (k : Int) (w : World) : (Instr.checkKey e 10000 3 (.int .i64 k)).run Tryz.prog w = .ok () w := by
  show (Instr.checkKey e (9999 + 1) 3 (.int .i64 k)).run Tryz.prog w = .ok () w
  rw [Instr.checkKey]
  simp only [Sem.run_bind, run_underlying Tryz.underlying3, Result.andThen_ok]
  rfl
theorem run_put (w : World) (z : Nat) (es : Array MapEntry) (c : Nat) (k : Int) (v : Value) (h : w.heap[z]? = some (.map es c)) (hf : (Instr.findKey 3 (.int .i64 k) es.toList).run Tryz.prog w = .ok none w) :
    (Instr.mapUpdate 91 (.map (some z)) (.int .i64 k) v).run Tryz.prog w = .ok () (World.setAt w z (.map (es.push (ent k v c)) (c + 1))) := by
  have hget : (getObj z).run Tryz.prog w = .ok (.map es c) w := by simp [getObj, Sem.run, h]
  have hset : ∀ o, (setObj z o).run Tryz.prog w = .ok () (World.setAt w z o) := by
    intro o
    simp [setObj, Sem.run, h, World.setAt]
  simp only [Instr.mapUpdate, Sem.run_bind, run_underlying Tryz.underlying91, Result.andThen_ok, hget, check_int, hf, hset]
  rfl
theorem find1 (b c : Nat) (w : World) : (Instr.findKey 3 (.int .i64 1) (tab 0 b c)).run Tryz.prog w = .ok none w := by kernel_rfl
theorem find2 (b c : Nat) (w : World) : (Instr.findKey 3 (.int .i64 2) (tab 1 b c)).run Tryz.prog w = .ok none w := by kernel_rfl
theorem find3 (b c : Nat) (w : World) : (Instr.findKey 3 (.int .i64 3) (tab 2 b c)).run Tryz.prog w = .ok none w := by kernel_rfl
theorem find4 (b c : Nat) (w : World) : (Instr.findKey 3 (.int .i64 4) (tab 3 b c)).run Tryz.prog w = .ok none w := by kernel_rfl

theorem setAt_size (w : World) (z : Nat) (o : Obj) : (World.setAt w z o).heap.size = w.heap.size := by simp [World.setAt]
theorem setAt_same {w : World} {z : Nat} (h : z < w.heap.size) (o : Obj) : (World.setAt w z o).heap[z]? = some o := by simp [World.setAt, h]
theorem setAt_other (w : World) {z k : Nat} (h : k ≠ z) (o : Obj) : (World.setAt w z o).heap[k]? = w.heap[k]? := by simp [World.setAt, Ne.symm h]
theorem below_setAt {B : Nat} {w0 w : World} (h : Below B w0 w) {z : Nat} (hz : B ≤ z) (o : Obj) : Below B w0 (World.setAt w z o) :=
  h.trans ⟨rfl, rfl, rfl, by rw [setAt_size]; exact Nat.le_refl _, fun k hk => setAt_other w (by omega) o⟩
/-- The table lies at M, the two boxes at b and c. -/
structure TabAt (w : World) (M b c : Nat) : Prop where
  map : w.heap[M]? = some (.map (tab 4 b c).toArray 4)
  b51 : w.heap[b]? = some (.cells #[.func (.func 51) #[] #[]] 115 (0, 0))
  c52 : w.heap[c]? = some (.cells #[.func (.func 52) #[] #[]] 115 (0, 0))
set_option maxRecDepth 100000 in
theorem edits_any (w : World) : Calls Tryz.prog 25 #[] w fun e w' => e = .returned (.map (some w.heap.size)) ∧ TabAt w' w.heap.size (w.heap.size + 1) (w.heap.size + 2) ∧ Below w.heap.size w w' ∧ w'.heap.size = w.heap.size + 3 := by
  obtain ⟨M, hM⟩ : ∃ M, w.heap.size = M := ⟨_, rfl⟩
  have hmm := run_makeMap (P := Tryz.prog) 91 w
  rw [hM] at hmm ⊢
  obtain ⟨W1, hW1⟩ : ∃ W1, w.alloc (.map #[] 0) = W1 := ⟨_, rfl⟩
  rw [hW1] at hmm
  have m1 : W1.heap[M]? = some (.map #[] 0) := by rw [← hW1, ← hM]; exact heap_alloc_new _ _
  have s1 : W1.heap.size = M + 1 := by rw [← hW1]; simp [hM]
  have b1 : Below M w W1 := by rw [← hW1]; exact (Below.refl _ _).alloc (by omega) _
  have u2 := run_put W1 M #[] (0) 1 (.func (.func 49) #[] #[]) m1 (find1 (M + 1) (M + 2) W1)
  obtain ⟨W2, hW2⟩ : ∃ W, World.setAt W1 M (.map (#[].push (ent 1 (.func (.func 49) #[] #[]) (0))) (0 + 1)) = W := ⟨_, rfl⟩
  rw [hW2] at u2
  have m2 : W2.heap[M]? = some (.map (#[].push (ent 1 (.func (.func 49) #[] #[]) (0))) (0 + 1)) := by rw [← hW2]; exact setAt_same (by omega) _
  have s2 : W2.heap.size = M + 1 := by rw [← hW2, setAt_size, s1]
  have b2 : Below M w W2 := by rw [← hW2]; exact below_setAt b1 (Nat.le_refl _) _
  obtain ⟨W3, hW3⟩ : ∃ W, W2.alloc (.cells #[.func (.func 51) #[] #[]] 115) = W := ⟨_, rfl⟩
  have c3 := pair_any 51 W2
  rw [hW3, s2] at c3
  have m3 : W3.heap[M]? = some (.map (#[].push (ent 1 (.func (.func 49) #[] #[]) (0))) (0 + 1)) := by rw [← hW3, heap_alloc_old _ _ (by omega)]; exact m2
  have s3 : W3.heap.size = M + 2 := by rw [← hW3]; simp [s2]
  have b3 : Below M w W3 := by rw [← hW3]; exact b2.alloc (by omega) _
  have x3 : W3.heap[M + 1]? = some (.cells #[.func (.func 51) #[] #[]] 115 (0, 0)) := by rw [← hW3, ← s2]; exact heap_alloc_new _ _
  have u4 := run_put W3 M (#[].push (ent 1 (.func (.func 49) #[] #[]) (0))) (0 + 1) 2 (fnV 71 (M + 1)) m3 (find2 (M + 1) (M + 2) W3)
  obtain ⟨W4, hW4⟩ : ∃ W, World.setAt W3 M (.map ((#[].push (ent 1 (.func (.func 49) #[] #[]) (0))).push (ent 2 (fnV 71 (M + 1)) (0 + 1))) (0 + 1 + 1)) = W := ⟨_, rfl⟩
  rw [hW4] at u4
  have m4 : W4.heap[M]? = some (.map ((#[].push (ent 1 (.func (.func 49) #[] #[]) (0))).push (ent 2 (fnV 71 (M + 1)) (0 + 1))) (0 + 1 + 1)) := by rw [← hW4]; exact setAt_same (by omega) _
  have s4 : W4.heap.size = M + 2 := by rw [← hW4, setAt_size, s3]
  have b4 : Below M w W4 := by rw [← hW4]; exact below_setAt b3 (Nat.le_refl _) _
  have x4 : W4.heap[M + 1]? = some (.cells #[.func (.func 51) #[] #[]] 115 (0, 0)) := by rw [← hW4, setAt_other _ (by omega)]; exact x3
  obtain ⟨W5, hW5⟩ : ∃ W, W4.alloc (.cells #[.func (.func 52) #[] #[]] 115) = W := ⟨_, rfl⟩
  have c5 := pair_any 52 W4
  rw [hW5, s4] at c5
  have m5 : W5.heap[M]? = some (.map ((#[].push (ent 1 (.func (.func 49) #[] #[]) (0))).push (ent 2 (fnV 71 (M + 1)) (0 + 1))) (0 + 1 + 1)) := by rw [← hW5, heap_alloc_old _ _ (by omega)]; exact m4
  have s5 : W5.heap.size = M + 3 := by rw [← hW5]; simp [s4]
  have b5 : Below M w W5 := by rw [← hW5]; exact b4.alloc (by omega) _
  have x5 : W5.heap[M + 1]? = some (.cells #[.func (.func 51) #[] #[]] 115 (0, 0)) := by rw [← hW5, heap_alloc_old _ _ (by omega)]; exact x4
  have y5 : W5.heap[M + 2]? = some (.cells #[.func (.func 52) #[] #[]] 115 (0, 0)) := by rw [← hW5, ← s4]; exact heap_alloc_new _ _
  have u6 := run_put W5 M ((#[].push (ent 1 (.func (.func 49) #[] #[]) (0))).push (ent 2 (fnV 71 (M + 1)) (0 + 1))) (0 + 1 + 1) 3 (fnV 71 (M + 2)) m5 (find3 (M + 1) (M + 2) W5)
  obtain ⟨W6, hW6⟩ : ∃ W, World.setAt W5 M (.map (((#[].push (ent 1 (.func (.func 49) #[] #[]) (0))).push (ent 2 (fnV 71 (M + 1)) (0 + 1))).push (ent 3 (fnV 71 (M + 2)) (0 + 1 + 1))) (0 + 1 + 1 + 1)) = W := ⟨_, rfl⟩
  rw [hW6] at u6
  have m6 : W6.heap[M]? = some (.map (((#[].push (ent 1 (.func (.func 49) #[] #[]) (0))).push (ent 2 (fnV 71 (M + 1)) (0 + 1))).push (ent 3 (fnV 71 (M + 2)) (0 + 1 + 1))) (0 + 1 + 1 + 1)) := by rw [← hW6]; exact setAt_same (by omega) _
  have s6 : W6.heap.size = M + 3 := by rw [← hW6, setAt_size, s5]
  have b6 : Below M w W6 := by rw [← hW6]; exact below_setAt b5 (Nat.le_refl _) _
  have x6 : W6.heap[M + 1]? = some (.cells #[.func (.func 51) #[] #[]] 115 (0, 0)) := by rw [← hW6, setAt_other _ (by omega)]; exact x5
  have y6 : W6.heap[M + 2]? = some (.cells #[.func (.func 52) #[] #[]] 115 (0, 0)) := by rw [← hW6, setAt_other _ (by omega)]; exact y5
  have u7 := run_put W6 M (((#[].push (ent 1 (.func (.func 49) #[] #[]) (0))).push (ent 2 (fnV 71 (M + 1)) (0 + 1))).push (ent 3 (fnV 71 (M + 2)) (0 + 1 + 1))) (0 + 1 + 1 + 1) 4 (.func (.func 54) #[] #[]) m6 (find4 (M + 1) (M + 2) W6)
  obtain ⟨W7, hW7⟩ : ∃ W, World.setAt W6 M (.map ((((#[].push (ent 1 (.func (.func 49) #[] #[]) (0))).push (ent 2 (fnV 71 (M + 1)) (0 + 1))).push (ent 3 (fnV 71 (M + 2)) (0 + 1 + 1))).push (ent 4 (.func (.func 54) #[] #[]) (0 + 1 + 1 + 1))) (0 + 1 + 1 + 1 + 1)) = W := ⟨_, rfl⟩
  rw [hW7] at u7
  have m7 : W7.heap[M]? = some (.map ((((#[].push (ent 1 (.func (.func 49) #[] #[]) (0))).push (ent 2 (fnV 71 (M + 1)) (0 + 1))).push (ent 3 (fnV 71 (M + 2)) (0 + 1 + 1))).push (ent 4 (.func (.func 54) #[] #[]) (0 + 1 + 1 + 1))) (0 + 1 + 1 + 1 + 1)) := by rw [← hW7]; exact setAt_same (by omega) _
  have s7 : W7.heap.size = M + 3 := by rw [← hW7, setAt_size, s6]
  have b7 : Below M w W7 := by rw [← hW7]; exact below_setAt b6 (Nat.le_refl _) _
  have x7 : W7.heap[M + 1]? = some (.cells #[.func (.func 51) #[] #[]] 115 (0, 0)) := by rw [← hW7, setAt_other _ (by omega)]; exact x6
  have y7 : W7.heap[M + 2]? = some (.cells #[.func (.func 52) #[] #[]] 115 (0, 0)) := by rw [← hW7, setAt_other _ (by omega)]; exact y6
  have HT := Lib.hid (show TabAt W7 M (M + 1) (M + 2) from ⟨m7, x7, y7⟩)
  have HB := Lib.hid b7
  have HS := Lib.hid s7
  have HC3 := Lib.hid c3
  have HC5 := Lib.hid c5
  clear m1 s1 b1 hW1 m2 s2 b2 hW2 m3 s3 b3 hW3 m4 s4 b4 hW4 m5 s5 b5 hW5 m6 s6 b6 hW6 m7 s7 b7 hW7 x3 x4 x5 x6 x7 y5 y6 y7 c3 c5
  go_enter Tryz.func25, Tryz.ntmps25
  go_wp2_with (go_at_call 50; first | (refine HC3.out.mono ?_; rintro e w' ⟨rfl, rfl⟩) | (refine HC5.out.mono ?_; rintro e w' ⟨rfl, rfl⟩))
  go_ret
  exact ⟨rfl, HT.out, HB.out, HS.out⟩
end Go.Sc

/-! The closure that changes a pair. -/
namespace Go.Sc
open Go.RowKit Go.Proofs

theorem wpStill_skip {P : Program} {ops : Array Oper} {w : World} {Q : Act → Prop} {a : Act} {op : Oper} {rest : List Oper} (hgd : Region.wanted op (yielded ops a.tmps) = false) (h : wpStill P ops w Q rest (a.put op.dst undef)) : wpStill P ops w Q (op :: rest) a := by
  unfold wpStill
  rw [if_neg (by rw [hgd]; exact Bool.false_ne_true)]
  exact h
set_option maxRecDepth 100000 in
set_option maxHeartbeats 8000000 in
theorem pairE_any (K : Nat → Prop) (w : World) (d b f : Nat) (s s' : Sc) (vn vp vc : Value) (x : Ed) (h : Draft K w d s vn vp vc) (hb : w.heap[b]? = some (.cells #[.func (.func f) #[] #[]] 115 (0, 0))) (hf : f = 51 ∨ f = 52)
    (hch : 0 ≤ x.i → x.i < s.p.length → ∀ w', Draft K w' d s vn vp vc → Calls Tryz.prog f #[.pointer (some ⟨d, 0, none⟩), .int .i64 x.i, .agg x.p.cells.toArray] w' (Changed K w' d s' vn vc)) :
    Calls Tryz.prog 71 #[.pointer (some ⟨d, 0, none⟩), .agg x.cells.toArray, .pointer (some ⟨b, 0, none⟩)] w (Edited K w d s vn vc (if 0 ≤ x.i ∧ x.i < s.p.length then some s' else none)) := by
  obtain ⟨k, i, ⟨v, fr, un, a0, a1, a2, a3, a4, a5, td⟩, ⟨pa, pb, w0, w1, w2, w3, w4, w5, bd⟩⟩ := x
  show Calls Tryz.prog 71 #[.pointer (some ⟨d, 0, none⟩), .agg #[.int .i64 k, .int .i64 i, .int .i64 v, .int .i64 fr, .int .i64 un, .int .i64 a0, .int .i64 a1, .int .i64 a2, .int .i64 a3, .int .i64 a4, .int .i64 a5, .bool td,
    .int .i64 pa, .int .i64 pb, .int .i64 w0, .int .i64 w1, .int .i64 w2, .int .i64 w3, .int .i64 w4, .int .i64 w5, .int .i64 bd], .pointer (some ⟨b, 0, none⟩)] w _
  dsimp only at hch ⊢
  have HD : Hid (Draft K w d s vn vp vc) := h
  have HCH : Aside _ := hch
  have HF := Lib.hid hf
  obtain ⟨r, hr⟩ : ∃ r, (if 0 ≤ i ∧ i < (s.p.length : Int) then some s' else none) = r := ⟨_, rfl⟩
  rw [hr]
  have HR := Lib.hid hr
  clear hr
  obtain ⟨o, cap, hvp, _⟩ := RowAt.own (size := 9) Pr.len h.pairs
  have HVP := Lib.hid hvp
  have HBB := Lib.hid hb
  clear h hch hf hvp hb
  go_enter Tryz.func71, Tryz.ntmps71
  go_wp2
  obtain ⟨W0, hW⟩ : ∃ W0, W0 = w.alloc (.cells #[.int .i64 k, .int .i64 i, .int .i64 v, .int .i64 fr, .int .i64 un, .int .i64 a0, .int .i64 a1, .int .i64 a2, .int .i64 a3, .int .i64 a4, .int .i64 a5, .bool td,
    .int .i64 pa, .int .i64 pb, .int .i64 w0, .int .i64 w1, .int .i64 w2, .int .i64 w3, .int .i64 w4, .int .i64 w5, .int .i64 bd] 45) := ⟨_, rfl⟩
  have hB : Below w.heap.size w W0 := by rw [hW]; exact (Below.refl _ _).alloc (Nat.le_refl _) _
  rw [← hW]
  have hcb := fun o => cell_of_row W0 w.heap.size o _ 45 (0, 0) (by rw [hW]; exact heap_alloc_at _ _)
  have e1 := hcb 1
  have e12 := hcb 12
  have e13 := hcb 13
  have e14 := hcb 14
  have e15 := hcb 15
  have e16 := hcb 16
  have e17 := hcb 17
  have e18 := hcb 18
  have e19 := hcb 19
  have e20 := hcb 20
  simp only [List.getElem?_toArray, List.getElem?_cons_succ, List.getElem?_cons_zero] at e1 e12 e13 e14 e15 e16 e17 e18 e19 e20
  have HD0 := Lib.hid (HD.out.keep hB)
  have d2 := HD0.out.cell.2.2.1
  rw [HVP.out] at d2
  have hb0 : W0.cell? ⟨b, 0, none⟩ = some (.func (.func f) #[] #[]) := by
    rw [cell_of_row W0 b 0 _ 115 (0, 0) ((hB.block b (Array.getElem?_eq_some_iff.1 HBB.out).1).trans HBB.out)]
    rfl
  have HB := Lib.hid hB
  clear hB hW hcb
  by_cases hneg : i < 0
  · have hd : decide (i < 0) = true := decide_eq_true hneg
    have hr := HR.out
    rw [if_neg (by omega)] at hr
    subst hr
    go_region
    go_wp2
    go_ret
    exact ⟨rfl, (Keeps.of_below HD.out.klt HB.out.drew)⟩
  · have hd : decide (i < 0) = false := decide_eq_false hneg
    by_cases hlt : i < (s.p.length : Int)
    · have hr := HR.out
      rw [if_pos ⟨by omega, hlt⟩] at hr
      subst hr
      have hge : decide (i ≥ (s.p.length : Int)) = false := decide_eq_false (by omega)
      have hge2 : ¬ (s.p.length : Int) ≤ i := by omega
      have HDD := Lib.hid (HD0.out.keep (Below.refl _ _).drew)
      have HKK := Lib.hid (Keeps.of_below HD.out.klt HB.out.drew)
      have hcall := HCH.out (by omega) hlt W0.drew HDD.out
      have HCALL := Lib.hid hcall
      clear hcall
      go_region
      rcases HF.out with rfl | rfl
      · go_wp2_with (go_at_call 51; refine HCALL.out.mono ?_; rintro e w' ⟨rfl, hd3, hk3⟩; have HD3 := Lib.hid hd3; have HK3 := Lib.hid hk3; clear hd3 hk3)
        go_ret
        exact ⟨rfl, HD3.out, HKK.out.trans HK3.out⟩
      · go_wp2_with (go_at_call 52; refine HCALL.out.mono ?_; rintro e w' ⟨rfl, hd3, hk3⟩; have HD3 := Lib.hid hd3; have HK3 := Lib.hid hk3; clear hd3 hk3)
        go_ret
        exact ⟨rfl, HD3.out, HKK.out.trans HK3.out⟩
    · have hr := HR.out
      rw [if_neg (by omega)] at hr
      subst hr
      have hge : decide (i ≥ (s.p.length : Int)) = true := decide_eq_true (by omega)
      have hge2 : (s.p.length : Int) ≤ i := by omega
      go_region
      go_wp2
      go_ret
      exact ⟨rfl, (Keeps.of_below HD.out.klt HB.out.drew)⟩
end Go.Sc

/-! Rows of notes; the edit that sets a note. -/
namespace Go.Sc
open Go.RowKit Go.Proofs

/-- Block g, of room for cap pairs, holds the notes l. -/
structure NRow (w : World) (g cap : Nat) (l : List Nt) : Prop where
  len : l.length ≤ cap
  max : cap ≤ maxLen
  blk : ∃ cur, w.heap[g]? = some (.cells cur 41 (0, 0)) ∧ cur.size = cap * 10 ∧ ∀ i p, l[i]? = some p → ∀ j u, p.cells[j]? = some u → cur[i * 10 + j]? = some u
theorem NRow.range {w : World} {g cap : Nat} {l : List Nt} (h : NRow w g cap l) {i : Nat} {p : Nt} (hp : l[i]? = some p) : w.rangeAt g (i * 10) p.cells := fun j u hu => by
  obtain ⟨cur, h1, _, h3⟩ := h.blk
  rw [cell_of_row w g (i * 10 + j) cur 41 (0, 0) h1]
  exact h3 i p hp j u hu
theorem NRow.there {w : World} {g cap : Nat} {l : List Nt} (h : NRow w g cap l) {i : Nat} (hi : i < l.length) : w.there g (i * 10) 10 := fun j hj => by
  obtain ⟨cur, h1, h2, _⟩ := h.blk
  have hl := h.len
  rw [cell_of_row w g (i * 10 + j) cur 41 (0, 0) h1]
  refine ⟨by rw [Array.getElem?_eq_getElem (by omega)]; rfl, ?_⟩
  unfold World.frozen?
  simp [h1]
theorem NRow.lt {w : World} {g cap : Nat} {l : List Nt} (h : NRow w g cap l) : g < w.heap.size := by
  obtain ⟨cur, h1, _⟩ := h.blk
  exact (Array.getElem?_eq_some_iff.1 h1).1
theorem NRow.keep {w w' : World} {g cap : Nat} {l : List Nt} (h : NRow w g cap l) (hb : Below w.heap.size w w') : NRow w' g cap l := by
  obtain ⟨cur, h1, h2⟩ := h.blk
  exact ⟨h.len, h.max, cur, (hb.block g h.lt).trans h1, h2⟩
theorem NRow.store {w : World} {g cap : Nat} {l : List Nt} (h : NRow w g cap l) {i : Nat} (hi : i < l.length) (p : Nt) : NRow (w.setCells g (i * 10) p.cells) g cap (l.set i p) := by
  obtain ⟨cur, h1, h2, h3⟩ := h.blk
  obtain ⟨cur', a, b, c, d⟩ := heap_setCells g 41 (0, 0) p.cells (i * 10) w cur h1
  have hl : l.length * 10 ≤ cur.size := by rw [h2]; exact Nat.mul_le_mul_right 10 h.len
  exact { len := by rw [List.length_set]; exact h.len, max := h.max, blk := ⟨cur', a, b.trans h2, cells_set Nt.cells 10 Nt.len hi hl p h3 c d⟩ }
theorem flat_lenN (l : List Nt) : (l.flatMap Nt.cells).length = l.length * 10 := by
  induction l with
  | nil => rfl
  | cons p l ih => rw [List.flatMap_cons, List.length_append, ih, List.length_cons, Nt.len]; omega
theorem NRow.own {w : World} {g cap base : Nat} {l : List Nt} (h : NRow w g cap l) (hb : base ≤ g) : OwnN w base (.slice (some ⟨g, 0, none⟩) l.length cap) l := by
  obtain ⟨cur, h1, h2, h3⟩ := h.blk
  have hl := h.len
  refine ⟨flat_lenN l, .inr ⟨g, cap, cur, rfl, hb, h1, h.len, h.max, h2, ?_⟩⟩
  refine List.ext_getElem? fun k => ?_
  rw [List.getElem?_take]
  by_cases hk : k < l.length * 10
  · rw [if_pos hk]
    obtain ⟨p, hp⟩ := get_of_lt (show k / 10 < l.length by omega)
    obtain ⟨u, hu⟩ : ∃ u, p.cells[k % 10]? = some u := ⟨_, List.getElem?_eq_getElem (by rw [Nt.len]; omega)⟩
    have e1 := h3 _ p hp _ u hu
    have e2 := flat_at (size := 10) Nt.len l (k / 10) (k % 10) p u hp hu
    rw [show k / 10 * 10 + k % 10 = k by omega] at e1 e2
    rw [e2, ← e1, Array.getElem?_toList]
  · rw [if_neg hk, List.getElem?_eq_none (by rw [flat_lenN]; omega)]
theorem OwnN.cases {w : World} {base : Nat} {v : Value} {l : List Nt} (h : OwnN w base v l) : (v = .slice none 0 0 ∧ l = []) ∨ ∃ g cap, v = .slice (some ⟨g, 0, none⟩) l.length cap ∧ base ≤ g ∧ NRow w g cap l := by
  rcases h.2 with ⟨hv, h0⟩ | ⟨g, cap, cur, hv, hb, hg, h1, h2, h3, h4⟩
  · exact .inl ⟨hv, List.length_eq_zero_iff.1 h0⟩
  · refine .inr ⟨g, cap, hv, hb, h1, h2, cur, hg, h3, fun i p hp j u hu => ?_⟩
    have e2 := flat_at (size := 10) Nt.len l i j p u hp hu
    have hi : i < l.length := (List.getElem?_eq_some_iff.1 hp).1
    have hj : j < 10 := by rw [← Nt.len p]; exact (List.getElem?_eq_some_iff.1 hu).1
    rw [← h4, List.getElem?_take, if_pos (by omega), Array.getElem?_toList] at e2
    exact e2

theorem Draft.rowN {K : Nat → Prop} {w : World} {d : Nat} {s : Sc} {vn vp vc : Value} (h : Draft K w d s vn vp vc) (hp : 0 < s.n.length) : ∃ g cap, vn = .slice (some ⟨g, 0, none⟩) s.n.length cap ∧ NRow w g cap s.n ∧ g ≠ d ∧ ¬ K g := by
  rcases h.notes.cases with ⟨_, h0⟩ | ⟨g, cap, hv, _, hr⟩
  · rw [h0] at hp
    simp at hp
  · exact ⟨g, cap, hv, hr, fun e => h.dn (by rw [hv, e]; rfl), fun hk => h.kn g (by rw [hv]; rfl) hk⟩
/-- What a store of a note into a row reads and writes, at a program of which this alone is known. -/
structure PutsN (P : Program) (k : Nat) (w : World) (b g x : Nat) (cx : List Value) : Prop where
  t3 : P.underlying 3 = some (TypeDesc.int IntKind.i64)
  a3 : ∀ w, (isAgg 3).run P w = .ok false w
  z3 : ∀ w, (Go.sizeOf 3).run P w = .ok 1 w
  t22 : P.underlying 22 = some (TypeDesc.slice 41)
  a22 : ∀ w, (isAgg 22).run P w = .ok false w
  z22 : ∀ w, (Go.sizeOf 22).run P w = .ok 1 w
  a41 : ∀ w, (isAgg 41).run P w = .ok true w
  z41 : ∀ w, (Go.sizeOf 41).run P w = .ok k w
  z26 : ∀ w, (Go.sizeOf 26).run P w = .ok 4 w
  kx : cx.length = k
  l1 : Sem.run P (loadCellsFrom ⟨b, 2, none⟩ 0 k #[]) w = .ok cx.toArray w
  s1 : Sem.run P (storeCells ⟨g, x * k, none⟩ cx 0) w = .ok () (w.setCells g (x * k) cx)
theorem NRow.stores {w : World} {g cap : Nat} {l : List Nt} (h : NRow w g cap l) {i : Nat} (hi : i < l.length) (p : Nt) :
    Sem.run Tryz.prog (storeCells ⟨g, i * 10, none⟩ p.cells 0) w = .ok () (w.setCells g (i * 10) p.cells) := by
  have := run_storeCells_cells (P := Tryz.prog) g (i * 10) p.cells 0 w (fun j hj => by simpa using (h.there hi j hj).1) (fun j hj => by simpa using (h.there hi j hj).2) (one_nt p)
  rwa [Nat.add_zero] at this
theorem NRow.putsN {w : World} {g cap : Nat} {l : List Nt} (h : NRow w g cap l) {i : Nat} (hi : i < l.length) {b : Nat} {x : Ed} (hb : w.heap[b]? = some (.cells x.cells.toArray 45 (0, 0))) {k : Nat} (hk : k = 10) :
    PutsN Tryz.prog k w b g i x.n.cells ∧ NRow (w.setCells g (i * k) x.n.cells) g cap (l.set i x.n) := by
  subst hk
  refine ⟨⟨Tryz.underlying3, Tryz.isAgg3, Tryz.sizeOf3, Tryz.underlying22, Tryz.isAgg22, Tryz.sizeOf22, Tryz.isAgg41, Tryz.sizeOf41, Tryz.sizeOf26, rfl, ?_, h.stores hi x.n⟩, h.store hi x.n⟩
  refine run_loadCells_list (P := Tryz.prog) (w := w) ⟨b, 2, none⟩ x.n.cells fun j v hv => ?_
  rw [Addr.add_mid, cell_of_row w b (2 + j) _ 45 (0, 0) hb]
  have hj : j < 10 := by rw [← Nt.len x.n]; exact (List.getElem?_eq_some_iff.1 hv).1
  rw [List.getElem?_toArray, ← hv]
  rcases x with ⟨k, i, n, p⟩
  match j, hj with
  | 0, _ | 1, _ | 2, _ | 3, _ | 4, _ | 5, _ | 6, _ | 7, _ | 8, _ | 9, _ => rfl

set_option maxRecDepth 100000 in
set_option maxHeartbeats 8000000 in
theorem noteE_any (K : Nat → Prop) (w : World) (d : Nat) (s : Sc) (vn vp vc : Value) (x : Ed) (h : Draft K w d s vn vp vc) (hp : s.n.length ≤ 100000) :
    Calls Tryz.prog 49 #[.pointer (some ⟨d, 0, none⟩), .agg x.cells.toArray] w (Edited K w d s vn vc (if 0 ≤ x.i ∧ x.i < s.n.length then some ⟨s.v, s.n.set x.i.toNat x.n, s.p, s.c⟩ else none)) := by
  have HX0 := x
  obtain ⟨i, hxi⟩ : ∃ i, x.i = i := ⟨_, rfl⟩
  obtain ⟨c, hxc⟩ : ∃ c, x.cells.toArray = c := ⟨_, rfl⟩
  rw [hxi, hxc]
  have HD : Hid (Draft K w d s vn vp vc) := h
  obtain ⟨r, hr⟩ : ∃ r, (if 0 ≤ i ∧ i < (s.n.length : Int) then some (⟨s.v, s.n.set i.toNat x.n, s.p, s.c⟩ : Sc) else none) = r := ⟨_, rfl⟩
  rw [hr]
  have HR := Lib.hid hr
  have HC := Lib.hid hxc
  have HXI := Lib.hid hxi
  have hvn : ∃ o cap, vn = .slice o s.n.length cap := by
    rcases h.notes.cases with ⟨h1, h2⟩ | ⟨g, cap, h1, _, _⟩
    · exact ⟨none, 0, by rw [h1, h2]; rfl⟩
    · exact ⟨_, cap, h1⟩
  obtain ⟨o, cap, hvn⟩ := hvn
  have HVN := Lib.hid hvn
  clear h hr hxc hxi hvn
  go_enter Tryz.func49, Tryz.ntmps49
  go_wp2
  obtain ⟨W0, hW⟩ : ∃ W0, W0 = w.alloc (.cells c 45) := ⟨_, rfl⟩
  have hB : Below w.heap.size w W0 := by rw [hW]; exact (Below.refl _ _).alloc (Nat.le_refl _) _
  rw [← hW]
  have hblk : W0.heap[w.heap.size]? = some (.cells x.cells.toArray 45 (0, 0)) := by rw [HC.out, hW]; exact heap_alloc_at _ _
  have e1 : W0.cell? ⟨w.heap.size, 1, none⟩ = some (.int .i64 i) := by rw [cell_of_row W0 w.heap.size 1 _ 45 (0, 0) hblk, ← HXI.out]; rfl
  have HD0 := Lib.hid (HD.out.keep hB)
  have d1 := HD0.out.cell.2.1
  rw [HVN.out] at d1
  have HB := Lib.hid hB
  have HBK := Lib.hid hblk
  clear hB hW hblk
  by_cases hneg : i < 0
  · have hd : decide (i < 0) = true := decide_eq_true hneg
    have hr := HR.out
    rw [if_neg (by omega)] at hr
    subst hr
    go_region
    go_wp2
    go_ret
    exact ⟨rfl, (Keeps.of_below HD.out.klt HB.out.drew)⟩
  · have hd : decide (i < 0) = false := decide_eq_false hneg
    by_cases hlt : i < (s.n.length : Int)
    · have hr := HR.out
      rw [if_pos ⟨by omega, hlt⟩] at hr
      subst hr
      have hge : decide (i ≥ (s.n.length : Int)) = false := decide_eq_false (by omega)
      have hge2 : ¬ (s.n.length : Int) ≤ i := by omega
      obtain ⟨j, rfl⟩ : ∃ j : Nat, i = (j : Int) := ⟨i.toNat, by omega⟩
      obtain ⟨g, cap', hvg, hrow0, hgd, hgk⟩ := (HD0.out.keep ((Below.refl _ _).drew.drew)).rowN (by omega)
      have ho : o = some ⟨g, 0, none⟩ ∧ cap = cap' := by
        have := HVN.out.symm.trans hvg
        simp at this
        exact ⟨this.1, this.2⟩
      obtain ⟨rfl, rfl⟩ := ho
      go_region
      go_wp2
      have hD2 := HD0.out.keep ((Below.refl _ _).drew.drew)
      obtain ⟨k, hk⟩ : ∃ k, k = 10 := ⟨_, rfl⟩
      obtain ⟨hput, hr2⟩ := hrow0.putsN (show j < s.n.length by omega) (b := w.heap.size) (x := x) HBK.out hk
      have hj : Just g W0.drew.drew (W0.drew.drew.setCells g (j * k) x.n.cells) := (Just.refl _ _).setCells _ _
      have d1' : W0.drew.drew.cell? ⟨d, 1, none⟩ = _ := d1
      have e1' : W0.drew.drew.cell? ⟨w.heap.size, 1, none⟩ = _ := e1
      have hfin := hD2.inNotes (l := s.n.set j x.n) hj.size (fun q hq hne => hj.block q hq (fun e => hne (by rw [hvg, e]; rfl))) (by have := hr2.own (Nat.zero_le g); rw [List.length_set] at this; rw [hvg]; unfold OwnN; rw [List.length_set]; unfold OwnN at this; rw [List.length_set] at this; exact this)
      have hkeep : Keeps K w (W0.drew.drew.setCells g (j * k) x.n.cells) := (Keeps.of_below HD.out.klt HB.out.drew.drew).trans ⟨hj.os, hj.tape, hj.output, hj.size, fun q hq => hj.block q (hD2.klt q hq) (fun e => hgk (e ▸ hq))⟩
      have HFIN := Lib.hid hfin
      have HKEEP := Lib.hid hkeep
      have HK := Lib.hid hk
      have hk0 : ¬ k = 0 := by omega
      clear hfin hkeep hj hr2 hrow0 hk hD2 hgk hgd
      have z0 : (0 : Int) ≤ (j : Int) := by omega
      have t26 := Tryz.underlying26
      have t90 := Tryz.underlying90
      have t45 := Tryz.underlying45
      have HX := x
      generalize x.n.cells = cx at *
      generalize hP : Tryz.prog = P at *
      obtain ⟨t3, a3, z3, t22, a22, z22, a41, z41, z26, kx, l1, s1⟩ := hput
      have u26 := run_underlying t26
      have u90 := run_underlying t90
      have u45 := run_underlying t45
      go_region
      subst hP
      clear t3 a3 z3 t22 a22 z22 a41 z41 z26 kx l1 s1 t26 t90 t45 u26 u90 u45
      generalize World.setCells _ _ _ _ = W at *
      go_wp2
      go_ret
      exact ⟨rfl, ⟨_, HFIN.out⟩, HKEEP.out⟩
    · have hr := HR.out
      rw [if_neg (by omega)] at hr
      subst hr
      have hge : decide (i ≥ (s.n.length : Int)) = true := decide_eq_true (by omega)
      have hge2 : (s.n.length : Int) ≤ i := by omega
      go_region
      go_wp2
      go_ret
      exact ⟨rfl, (Keeps.of_below HD.out.klt HB.out.drew)⟩
end Go.Sc
