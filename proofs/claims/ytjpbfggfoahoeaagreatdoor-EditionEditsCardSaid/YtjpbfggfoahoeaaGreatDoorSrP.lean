/- The edit that adds a pair. The edits that drop and that set a pair. -/
import Derived.Test.YtjpbfggfoahoeaaGreatDoorSrN
import Derived.Deep.RegionLaw
namespace Go.Sc
open Go.RowKit Go.Proofs

/-- What a closure of the table answers: the draft has turned as the edit says, or is as it was. -/
def Edited (K : Nat → Prop) (w : World) (d : Nat) (s : Sc) (vn vc : Value) (r : Option Sc) (e : Ending) (w' : World) : Prop :=
  match r with
  | some s' => e = .returned (.bool true) ∧ (∃ vp', Draft K w' d s' vn vp' vc) ∧ Keeps K w w'
  | none => e = .returned (.bool false) ∧ Keeps K w w'
theorem heap_alloc_at (w : World) (o : Obj) : (w.alloc o).heap[w.heap.size]? = some o := heap_alloc_new w o
theorem info43' : ∃ i, Tryz.prog.info? 43 = some i ∧ i.zero = some (.agg Pr.zero.cells.toArray) ∧ i.size = 9 ∧ i.bytes = 72 := by
  cases hq : Tryz.prog.info? 43 with
  | none => have := info43; rw [hq] at this; cases this
  | some i =>
    have hi := info43
    rw [hq] at hi
    simp only [Option.map_some, Option.some.injEq, Prod.mk.injEq] at hi
    exact ⟨i, rfl, hi.1, hi.2.1, hi.2.2⟩

theorem step_append_own {P : Program} (w : World) {ops : Array Oper} {o : Oper} {a : Act} {K : Act → World → Prop} {Q : Exit → Act → World → Prop} {E : Prop} (hgd : o.guard = none) (s x : Operand) (t : TypeId)
    (ho : o.op = .call { callee := .builtin .append, args := #[s, x], argTypes := #[t, t] })
    (base : Nat) (e : TypeId) (i : TypeInfo) (z : Value) (size bytes : Nat) (ht : P.underlying t = some (.slice e)) (hi : P.info? e = some i) (hz : i.zero = some z)
    (hsize : i.size = size) (hby : i.bytes = bytes) (hzs : z.cells.size = size) (hsz : 0 < size)
    (v : Value) (n : Nat) (xs : List Value) (hs : a.eval s = v) (hown : w.ownsRow base e size v n xs)
    (ad : Addr) (m c : Nat) (news : List Value) (hx : a.eval x = .slice (some ad) m c) (hl : news.length = m * size) (hnews : ∀ j u, news[j]? = some u → w.cell? (ad.add j) = some u) (h1 : ∀ u ∈ news, u.oneCell' = true)
    (h63 : n + m ≤ maxLen) (hbytes : (n + m) * bytes ≤ 140737488355328) (hbase : base ≤ w.heap.size)
    (h : ∀ v' w', w'.ownsRow base e size v' (n + m) (xs ++ news) → w.grownBy w' v.ownBlock → (v'.ownBlock = v.ownBlock ∨ v'.ownBlock = some w.heap.size) → K (a.put o.dst v') w') :
    if Region.wanted o (yielded ops a.tmps) = true then Oper.wp P o a w K Q else E := by
  have hw : Region.wanted o (yielded ops a.tmps) = true := by simp [Region.wanted, hgd]
  rw [if_pos hw]
  obtain ⟨v', w', hr, h2, h3, _, h5⟩ := run_append_own_at (P := P) w base t o.type e i z size bytes ht hi hz hsize hby hzs hsz v n xs hown ad m c news hl hnews h1 h63 hbytes hbase
  unfold Oper.wp execOp
  simp only [ho, resolve, invoke, builtin, Sem.run_bind, Sem.run_pure, Result.andThen_ok, List.map_toArray, List.map_cons, List.map_nil, hs, hx, hr]
  exact h v' w' h2 h3 h5

theorem Draft.keeps_grown {K : Nat → Prop} {w w' : World} {d : Nat} {s : Sc} {vn vp vc : Value} (h : Draft K w d s vn vp vc) (o : Obj) (hg : (w.alloc o).drew.grownBy w' vp.ownBlock) (u : Value) : Keeps K w (w'.setCell ⟨d, 2, none⟩ u) := by
  have hs := hg.size
  simp at hs
  refine ⟨hg.os, hg.tape, hg.output, by simp [World.setCell]; omega, fun k hk => ?_⟩
  have hk2 := h.klt k hk
  rw [Below.heap_setCell w' ⟨d, 2, none⟩ u k (fun e => by have e' : k = d := e; subst e'; exact h.kd hk), hg.block k (by simp; omega) (fun e => h.kp k e.symm hk)]
  exact heap_alloc_old _ _ hk2
theorem Draft.set_grown {K : Nat → Prop} {w w' : World} {d : Nat} {s : Sc} {vn vp vc v' : Value} {l : List Pr} (h : Draft K w d s vn vp vc) (o : Obj) (hg : (w.alloc o).drew.grownBy w' vp.ownBlock) (ht : v'.ownBlock = vp.ownBlock ∨ v'.ownBlock = some (w.alloc o).drew.heap.size) (hown : OwnP w' 0 v' l) :
    Draft K (w'.setCell ⟨d, 2, none⟩ v') d ⟨s.v, s.n, l, s.c⟩ vn v' vc := by
  have hs := hg.size
  simp at hs
  refine h.setPairs (by omega) (fun k hk hne => (hg.block k (by simp; omega) (fun e => hne e.symm)).trans (heap_alloc_old _ _ hk)) (fun g hv => ?_) hown
  rcases ht with ht | ht
  · exact .inl (ht ▸ hv)
  · rw [hv] at ht
    have := Option.some.inj ht
    simp at this
    exact .inr (by omega)

set_option maxRecDepth 100000 in
set_option maxHeartbeats 8000000 in
theorem add_any (K : Nat → Prop) (w : World) (d : Nat) (s : Sc) (vn vp vc : Value) (x : Ed) (h : Draft K w d s vn vp vc) (hp : s.p.length ≤ 100000) :
    Calls Tryz.prog 54 #[.pointer (some ⟨d, 0, none⟩), .agg x.cells.toArray] w (Edited K w d s vn vc (some ⟨s.v, s.n, s.p ++ [x.p], s.c⟩)) := by
  obtain ⟨k, i, ⟨v, fr, un, a0, a1, a2, a3, a4, a5, td⟩, ⟨pa, pb, w0, w1, w2, w3, w4, w5, bd⟩⟩ := x
  show Calls Tryz.prog 54 #[.pointer (some ⟨d, 0, none⟩), .agg #[.int .i64 k, .int .i64 i, .int .i64 v, .int .i64 fr, .int .i64 un, .int .i64 a0, .int .i64 a1, .int .i64 a2, .int .i64 a3, .int .i64 a4, .int .i64 a5, .bool td,
    .int .i64 pa, .int .i64 pb, .int .i64 w0, .int .i64 w1, .int .i64 w2, .int .i64 w3, .int .i64 w4, .int .i64 w5, .int .i64 bd]] w _
  dsimp only
  have HD : Hid (Draft K w d s vn vp vc) := h
  clear h
  obtain ⟨i0, hi0, hz0, hz1, hz2⟩ := info43'
  have HI := Lib.hid hi0
  have HI0 := Lib.hid hz0
  have HI1 := Lib.hid hz1
  have HI2 := Lib.hid hz2
  clear hi0 hz0 hz1 hz2
  go_enter Tryz.func54, Tryz.ntmps54
  go_wp2
  obtain ⟨W0, hW⟩ : ∃ W0, W0 = w.alloc (.cells #[.int .i64 k, .int .i64 i, .int .i64 v, .int .i64 fr, .int .i64 un, .int .i64 a0, .int .i64 a1, .int .i64 a2, .int .i64 a3, .int .i64 a4, .int .i64 a5, .bool td,
    .int .i64 pa, .int .i64 pb, .int .i64 w0, .int .i64 w1, .int .i64 w2, .int .i64 w3, .int .i64 w4, .int .i64 w5, .int .i64 bd] 45) := ⟨_, rfl⟩
  have hB : Below w.heap.size w W0 := by rw [hW]; exact (Below.refl _ _).alloc (Nat.le_refl _) _
  have HD0 := Lib.hid (HD.out.keep hB)
  have hsz : W0.heap.size = w.heap.size + 1 := by rw [hW]; simp
  have hcb := fun o => cell_of_row W0 w.heap.size o _ 45 (0, 0) (by rw [hW]; exact heap_alloc_at _ _)
  rw [← hW]
  have e12 := hcb 12
  have e13 := hcb 13
  have e14 := hcb 14
  have e15 := hcb 15
  have e16 := hcb 16
  have e17 := hcb 17
  have e18 := hcb 18
  have e19 := hcb 19
  have e20 := hcb 20
  simp only [List.getElem?_toArray, List.getElem?_cons_succ, List.getElem?_cons_zero] at e12 e13 e14 e15 e16 e17 e18 e19 e20
  have d2 := HD0.out.cell.2.2.1
  have f2 := HD0.out.cell.2.2.2.2.2.1
  have dl := HD0.out.d_lt
  have HWW := Lib.hid hW
  have HB := Lib.hid hB
  have HSZ := Lib.hid hsz
  clear hcb hW hB hsz
  go_region_law (refine step_append_own _ rfl (.tmp 10) (.tmp 13) 23 rfl 0 43 i0 (.agg Pr.zero.cells.toArray) 9 72 Tryz.underlying23 HI.out HI0.out HI1.out HI2.out rfl (by decide) vp s.p.length (s.p.flatMap Pr.cells) rfl (own_keep HD0.out.pairs fun g hg => heap_alloc_old _ _ (own_lt HD0.out.pairs hg)) ⟨W0.heap.size, 0, none⟩ 1 1 [.int .i64 pa, .int .i64 pb, .int .i64 w0, .int .i64 w1, .int .i64 w2, .int .i64 w3, .int .i64 w4, .int .i64 w5, .int .i64 bd] rfl rfl (World.news_of_block (heap_alloc_new _ _)) (by simp [Value.oneCell']) (by unfold maxLen; omega) (by omega) (Nat.zero_le _) ?_; intro v' W9 hown hgrow hat; obtain ⟨g9, c9, rfl, _, _⟩ := hown.form (by omega); have hbd : W9.heap[d]? = W0.heap[d]? := (hgrow.block d (by have := HD0.out.d_lt; simp; omega) (fun e => HD0.out.dp e.symm)).trans (heap_alloc_old _ _ HD0.out.d_lt); have D2 : W9.cell? ⟨d, 2, none⟩ = some vp := (World.cell?_of_block hbd).trans d2; have F2 : W9.frozen? ⟨d, 2, none⟩ = false := (World.frozen?_of_block hbd).trans f2; have HO := Lib.hid hown; have HG := Lib.hid hgrow; have HT := Lib.hid hat; clear hown hgrow hat hbd)
  all_goals (
    have hfin := HD0.out.set_grown _ HG.out HT.out (l := s.p ++ [⟨pa, pb, w0, w1, w2, w3, w4, w5, bd⟩]) (by unfold OwnP; rw [List.length_append, List.flatMap_append]; exact HO.out)
    have hkeep := (Keeps.of_below HD.out.klt HB.out).trans (HD0.out.keeps_grown _ HG.out (.slice (some ⟨g9, 0, none⟩) (s.p.length + 1) c9))
    have HFIN := Lib.hid hfin
    have HKEEP := Lib.hid hkeep
    clear hfin hkeep
    go_wp2
    go_ret
    exact ⟨rfl, ⟨_, HFIN.out⟩, HKEEP.out⟩)
end Go.Sc

/-! The edits that drop and that set a pair. -/
namespace Go.Sc
open Go.RowKit Go.Proofs

/-- What a change of a pair leaves. -/
def Changed (K : Nat → Prop) (w : World) (d : Nat) (s : Sc) (vn vc : Value) (e : Ending) (w' : World) : Prop :=
  e = .returned (.tuple #[]) ∧ (∃ vp', Draft K w' d s vn vp' vc) ∧ Keeps K w w'
theorem Draft.row {K : Nat → Prop} {w : World} {d : Nat} {s : Sc} {vn vp vc : Value} (h : Draft K w d s vn vp vc) (hp : 0 < s.p.length) : ∃ g cap, vp = .slice (some ⟨g, 0, none⟩) s.p.length cap ∧ PRow w g cap s.p ∧ g ≠ d ∧ ¬ K g := by
  rcases h.pairs.cases with ⟨_, h0⟩ | ⟨g, cap, hv, _, hr⟩
  · rw [h0] at hp
    simp at hp
  · exact ⟨g, cap, hv, hr, fun e => h.dp (by rw [hv, e]; rfl), fun hk => h.kp g (by rw [hv]; rfl) hk⟩
theorem Draft.keeps_just {K : Nat → Prop} {w w' : World} {d g : Nat} {s : Sc} {vn vp vc : Value} (h : Draft K w d s vn vp vc) (hg : ¬ K g) (hj : Just g w w') : Keeps K w w' :=
  ⟨hj.os, hj.tape, hj.output, hj.size, fun k hk => hj.block k (h.klt k hk) (fun e => hg (e ▸ hk))⟩
theorem Keeps.set {K : Nat → Prop} {w w' : World} {d : Nat} (h : Keeps K w w') (hd : ¬ K d) (o : Nat) (u : Value) : Keeps K w (w'.setCell ⟨d, o, none⟩ u) :=
  ⟨h.os, h.tape, h.output, by have := h.size; simpa [World.setCell] using this, fun k hk => (Below.heap_setCell w' ⟨d, o, none⟩ u k (fun e => by have e' : k = d := e; subst e'; exact hd hk)).trans (h.block k hk)⟩

set_option maxRecDepth 100000 in
set_option maxHeartbeats 8000000 in
theorem drop_any (K : Nat → Prop) (w : World) (d : Nat) (s : Sc) (vn vp vc : Value) (i : Nat) (p : Pr) (h : Draft K w d s vn vp vc) (hi : i < s.p.length) (hp : s.p.length ≤ 100000) :
    Calls Tryz.prog 52 #[.pointer (some ⟨d, 0, none⟩), .int .i64 i, .agg p.cells.toArray] w (Changed K w d ⟨s.v, s.n, s.p.eraseIdx i, s.c⟩ vn vc) := by
  obtain ⟨pa, pb, w0, w1, w2, w3, w4, w5, bd⟩ := p
  show Calls Tryz.prog 52 #[.pointer (some ⟨d, 0, none⟩), .int .i64 i, .agg #[.int .i64 pa, .int .i64 pb, .int .i64 w0, .int .i64 w1, .int .i64 w2, .int .i64 w3, .int .i64 w4, .int .i64 w5, .int .i64 bd]] w _
  (try dsimp only)
  obtain ⟨g, cap, rfl, hrow, hgd, hgk⟩ := h.row (by omega)
  have HD : Hid (Draft K w d s vn (.slice (some ⟨g, 0, none⟩) s.p.length cap) vc) := h
  have HGD := Lib.hid hgd
  have HGK := Lib.hid hgk
  clear h hrow hgd hgk
  have z1 : IntKind.i64.wrap ((i : Int) + 1) = (i : Int) + 1 := IntWalk.i64_in _ (by omega)
  go_enter Tryz.func52, Tryz.ntmps52
  obtain ⟨W0, hW⟩ : ∃ W0, W0 = w.alloc (.cells #[.int .i64 pa, .int .i64 pb, .int .i64 w0, .int .i64 w1, .int .i64 w2, .int .i64 w3, .int .i64 w4, .int .i64 w5, .int .i64 bd] 43) := ⟨_, rfl⟩
  have hB : Below w.heap.size w W0 := by rw [hW]; exact (Below.refl _ _).alloc (Nat.le_refl _) _
  have HD0 := Lib.hid (HD.out.keep hB)
  have HB := Lib.hid hB
  have d2 := HD0.out.cell.2.2.1
  have hdel := del_any g cap s.p i W0 (by obtain ⟨g', cap', h1, h2, _⟩ := HD0.out.row (by omega); cases h1; exact h2) hi (by omega)
  have HDEL := Lib.hid hdel
  have dw := (HD.out.cell).2.2.1
  have dl := HD.out.d_lt
  clear hB hdel
  have HW := Lib.hid hW
  clear hW
  go_wp2_with (go_at_call 53; rw [← HW.out]; refine HDEL.out.mono ?_; rintro e w' ⟨rfl, hr, hj⟩; have hbd : w'.heap[d]? = W0.heap[d]? := hj.block d HD0.out.d_lt (fun e => HGD.out e.symm); have D2 : w'.cell? ⟨d, 2, none⟩ = some (.slice (some ⟨g, 0, none⟩) s.p.length cap) := (World.cell?_of_block hbd).trans d2; have F2 : w'.frozen? ⟨d, 2, none⟩ = false := (World.frozen?_of_block hbd).trans HD0.out.cell.2.2.2.2.2.1; have HR := Lib.hid hr; have HJ := Lib.hid hj; clear hr hj hbd)
  have hlen : (s.p.eraseIdx i).length = s.p.length - 1 := by rw [List.length_eraseIdx, if_pos hi]
  have hfin := HD0.out.setPairs (vp' := .slice (some ⟨g, 0, none⟩) (s.p.length - 1) cap) (l := s.p.eraseIdx i) HJ.out.size (fun k hk hne => HJ.out.block k hk (fun e => hne (by rw [e]; rfl))) (fun g' hv => .inl hv) (by have := HR.out.own (Nat.zero_le g); rw [hlen] at this; exact this)
  have hkeep := ((Keeps.of_below HD.out.klt HB.out).trans (HD0.out.keeps_just HGK.out HJ.out)).set HD0.out.kd 2 (.slice (some ⟨g, 0, none⟩) (s.p.length - 1) cap)
  have HFIN := Lib.hid hfin
  have HKEEP := Lib.hid hkeep
  clear hfin hkeep
  go_end0
  exact ⟨rfl, ⟨_, HFIN.out⟩, HKEEP.out⟩

/-- What a store of a pair into a row reads and writes, at a program of which this alone is known. -/
structure Puts (P : Program) (k : Nat) (w : World) (b g x : Nat) (cx : List Value) : Prop where
  t3 : P.underlying 3 = some (TypeDesc.int IntKind.i64)
  a3 : ∀ w, (isAgg 3).run P w = .ok false w
  z3 : ∀ w, (Go.sizeOf 3).run P w = .ok 1 w
  t23 : P.underlying 23 = some (TypeDesc.slice 43)
  a23 : ∀ w, (isAgg 23).run P w = .ok false w
  z23 : ∀ w, (Go.sizeOf 23).run P w = .ok 1 w
  a43 : ∀ w, (isAgg 43).run P w = .ok true w
  z43 : ∀ w, (Go.sizeOf 43).run P w = .ok k w
  z26 : ∀ w, (Go.sizeOf 26).run P w = .ok 4 w
  kx : cx.length = k
  l1 : Sem.run P (loadCellsFrom ⟨b, 0, none⟩ 0 k #[]) w = .ok cx.toArray w
  s1 : Sem.run P (storeCells ⟨g, x * k, none⟩ cx 0) w = .ok () (w.setCells g (x * k) cx)
theorem PRow.putsP {w : World} {g cap : Nat} {l : List Pr} (h : PRow w g cap l) {i : Nat} (hi : i < l.length) {b : Nat} {p : Pr} (hb : w.heap[b]? = some (.cells p.cells.toArray 43 (0, 0))) {k : Nat} (hk : k = 9) :
    Puts Tryz.prog k w b g i p.cells ∧ PRow (w.setCells g (i * k) p.cells) g cap (l.set i p) := by
  subst hk
  refine ⟨⟨Tryz.underlying3, Tryz.isAgg3, Tryz.sizeOf3, Tryz.underlying23, Tryz.isAgg23, Tryz.sizeOf23, Tryz.isAgg43, Tryz.sizeOf43, Tryz.sizeOf26, rfl, ?_, h.stores hi p⟩, h.store hi p⟩
  refine run_loadCells_list (P := Tryz.prog) (w := w) ⟨b, 0, none⟩ p.cells fun j v hv => ?_
  rw [Addr.add_mid, Nat.zero_add, cell_of_row w b j _ 43 (0, 0) hb]
  simpa using hv

set_option maxRecDepth 100000 in
set_option maxHeartbeats 8000000 in
theorem setP_any (K : Nat → Prop) (w : World) (d : Nat) (s : Sc) (vn vp vc : Value) (i : Nat) (p : Pr) (h : Draft K w d s vn vp vc) (hi : i < s.p.length) (hp : s.p.length ≤ 100000) :
    Calls Tryz.prog 51 #[.pointer (some ⟨d, 0, none⟩), .int .i64 i, .agg p.cells.toArray] w (Changed K w d ⟨s.v, s.n, s.p.set i p, s.c⟩ vn vc) := by
  obtain ⟨g, cap, rfl, hrow, hgd, hgk⟩ := h.row (by omega)
  have HD : Hid (Draft K w d s vn (.slice (some ⟨g, 0, none⟩) s.p.length cap) vc) := h
  have HGD := Lib.hid hgd
  have HGK := Lib.hid hgk
  clear h hrow hgd hgk
  have z0 : (0 : Int) ≤ (i : Int) := by omega
  have z1 : (i : Int) < (s.p.length : Int) := by omega
  have z2 : ((i : Int)).toNat = i := by omega
  obtain ⟨c, hc⟩ : ∃ c, p.cells.toArray = c := ⟨_, rfl⟩
  have HC := Lib.hid hc
  rw [hc]
  clear hc
  have hcs : c.size = 9 := by rw [← HC.out]; rfl
  go_enter Tryz.func51, Tryz.ntmps51
  go_wp2
  obtain ⟨W0, hW⟩ : ∃ W0, W0 = w.alloc (.cells c 43) := ⟨_, rfl⟩
  rw [← hW]
  have hB : Below w.heap.size w W0 := by rw [hW]; exact (Below.refl _ _).alloc (Nat.le_refl _) _
  have hD0 := (HD.out.keep hB).keep (Below.refl _ _).drew
  obtain ⟨k, hk⟩ : ∃ k, k = 9 := ⟨_, rfl⟩
  have hr0 : PRow W0.drew g cap s.p := by obtain ⟨g', cap', h1, h2, _⟩ := hD0.row (by omega); cases h1; exact h2
  obtain ⟨hput, hr2⟩ := hr0.putsP hi (b := w.heap.size) (p := p) (by rw [HC.out]; show W0.heap[w.heap.size]? = _; rw [hW]; exact heap_alloc_at _ _) hk
  have hj : Just g W0.drew (W0.drew.setCells g (i * k) p.cells) := (Just.refl _ _).setCells _ _
  have d2 := hD0.cell.2.2.1
  have hfin := hD0.inPlace (l := s.p.set i p) hj.size (fun q hq hne => hj.block q hq (fun e => hne (by rw [e]; rfl))) (by have := hr2.own (Nat.zero_le g); rw [List.length_set] at this; unfold OwnP; rw [List.length_set]; unfold OwnP at this; rw [List.length_set] at this; exact this)
  have hkeep := (Keeps.of_below HD.out.klt hB.drew).trans (hD0.keeps_just HGK.out hj)
  have HFIN := Lib.hid hfin
  have HKEEP := Lib.hid hkeep
  have HK := Lib.hid hk
  clear hfin hkeep hj hr2 hr0 hk hB hW hcs hD0
  have hcc : p.cells.toArray = c := HC.out
  have t26 := Tryz.underlying26
  have t90 := Tryz.underlying90
  generalize p.cells = cx at *
  generalize hP : Tryz.prog = P at *
  obtain ⟨t3, a3, z3, t23, a23, z23, a43, z43, z26, kx, l1, s1⟩ := hput
  subst hcc
  have u26 := run_underlying t26
  have u90 := run_underlying t90
  go_region
  subst hP
  clear t3 a3 z3 t23 a23 z23 a43 z43 z26 kx l1 s1 t26 t90 u26 u90
  generalize World.setCells _ _ _ _ = W at *
  go_wp2
  go_end0
  exact ⟨rfl, ⟨_, HFIN.out⟩, HKEEP.out⟩

/-- edition.pair: the closure of the table, its function in a block of its own. -/
theorem pair_any (c : Nat) (w : World) : Calls Tryz.prog 50 #[.func (.func c) #[] #[]] w fun e w' => e = .returned (.func (.func 71) #[] #[.pointer (some ⟨w.heap.size, 0, none⟩)]) ∧ w' = w.alloc (.cells #[.func (.func c) #[] #[]] 115) := by
  go_enter Tryz.func50, Tryz.ntmps50
  go_wp2
  go_ret
  exact ⟨rfl, rfl⟩
end Go.Sc
