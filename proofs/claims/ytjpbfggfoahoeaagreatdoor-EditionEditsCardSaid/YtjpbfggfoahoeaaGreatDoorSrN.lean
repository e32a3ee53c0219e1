/- slices.Clone at notes, pairs and ints. slices.Delete of one pair. The edits of a draft: data, what lies in memory, and what each edit does. -/
import Derived.Test.YtjpbfggfoahoeaaGreatDoorSrJ
import Derived.Deep.AppendLies
import Derived.Lib.SliceRun
import Derived.Laws.OwnMore
import Derived.Test.YtjpbfggfoahoeaaGreatDoorScW
namespace Go.Sc
open Go.RowKit Go.Proofs

/-- An append to what the call owns, of any number of elements. -/
theorem wpList_append_own {P : Program} (w : World) {ops : Array Oper} {rest : List Oper} {o : Oper} {a : Act} {Q : Exit → Act → World → Prop} (hgd : o.guard = none) (s x : Operand) (t : TypeId)
    (ho : o.op = .call { callee := .builtin .append, args := #[s, x], argTypes := #[t, t] })
    (base : Nat) (e : TypeId) (i : TypeInfo) (z : Value) (size bytes : Nat) (ht : P.underlying t = some (.slice e)) (hi : P.info? e = some i) (hz : i.zero = some z)
    (hsize : i.size = size) (hby : i.bytes = bytes) (hzs : z.cells.size = size) (hsz : 0 < size)
    (v : Value) (n : Nat) (xs : List Value) (hs : a.eval s = v) (hown : w.ownsRow base e size v n xs)
    (ad : Addr) (m c : Nat) (news : List Value) (hx : a.eval x = .slice (some ad) m c) (hl : news.length = m * size) (hnews : ∀ j u, news[j]? = some u → w.cell? (ad.add j) = some u) (h1 : ∀ u ∈ news, u.oneCell' = true)
    (h63 : n + m ≤ maxLen) (hbytes : (n + m) * bytes ≤ 140737488355328) (hbase : base ≤ w.heap.size)
    (h : ∀ v' w', w'.ownsRow base e size v' (n + m) (xs ++ news) → w.grownBy w' v.ownBlock → wpList P ops Q rest (a.put o.dst v') w') : wpList P ops Q (o :: rest) a w :=
  wpList_plain hgd fun _ hK => by
    obtain ⟨v', w', hr, h2, h3, _, _⟩ := run_append_own_at (P := P) w base t o.type e i z size bytes ht hi hz hsize hby hzs hsz v n xs hown ad m c news hl hnews h1 h63 hbytes hbase
    unfold Oper.wp execOp
    simp only [ho, resolve, invoke, builtin, Sem.run_bind, Sem.run_pure, Result.andThen_ok, List.map_toArray, List.map_cons, List.map_nil, hs, hx, hr]
    exact hK _ _ (h v' w' h2 h3)

/-- Elements that lie in memory, one behind the other. -/
theorem RowAt.news {α : Type} {size : Nat} {cells : α → List Value} (hc : ∀ x, (cells x).length = size) (h0 : 0 < size) {w : World} {ad : Addr} {l : List α} (h : RowAt size cells w (some ad) l) :
    ∀ j u, (l.flatMap cells)[j]? = some u → w.cell? (ad.add j) = some u := fun j u hu => by
  have hlen : ∀ l : List α, (l.flatMap cells).length = l.length * size := fun l => by
    induction l with
    | nil => simp
    | cons p l ih => rw [List.flatMap_cons, List.length_append, ih, List.length_cons, hc, Nat.add_mul]; omega
  have hj : j < l.length * size := by rw [← hlen]; exact (List.getElem?_eq_some_iff.1 hu).1
  obtain ⟨p, hp⟩ := get_of_lt (show j / size < l.length from Nat.div_lt_of_lt_mul (by rwa [Nat.mul_comm]))
  have hm : j % size < (cells p).length := by rw [hc]; exact Nat.mod_lt _ h0
  have e2 := flat_at hc l (j / size) (j % size) p _ hp (List.getElem?_eq_getElem hm)
  have e3 : j / size * size + j % size = j := by rw [Nat.mul_comm]; exact Nat.div_add_mod j size
  rw [e3, hu] at e2
  obtain ⟨b, off, ho, hb, hr⟩ := h _ _ hp
  cases ho
  have := hr (j % size) _ (List.getElem?_eq_getElem hm)
  rw [Addr.add_mid, show off + j = off + j / size * size + j % size by omega, this, ← e2]
theorem flat_one {α : Type} {cells : α → List Value} (h1 : ∀ x, ∀ v ∈ cells x, v.oneCell' = true) (l : List α) : ∀ u ∈ l.flatMap cells, u.oneCell' = true := fun u hu => by
  obtain ⟨x, _, hx⟩ := List.mem_flatMap.1 hu
  exact h1 x u hx
theorem flat_length {α : Type} {size : Nat} {cells : α → List Value} (hc : ∀ x, (cells x).length = size) (l : List α) : (l.flatMap cells).length = l.length * size := by
  induction l with
  | nil => simp
  | cons p l ih => rw [List.flatMap_cons, List.length_append, ih, List.length_cons, hc, Nat.add_mul]; omega
theorem one_nt (p : Nt) : ∀ v ∈ p.cells, v.oneCell' = true := by intro v hv; simp [Nt.cells] at hv; rcases hv with h | h | h | h | h | h | h | h | h | h <;> rw [h] <;> rfl
def int1 (n : Int) : List Value := [.int .i64 n]
theorem one_int (n : Int) : ∀ v ∈ int1 n, v.oneCell' = true := by intro v hv; simp [int1] at hv; rw [hv]; rfl
theorem Nt.len (n : Nt) : n.cells.length = 10 := rfl
theorem int1_len (n : Int) : (int1 n).length = 1 := rfl
/-- The notes, the ticks that the call owns. -/
def OwnN (w : World) (base : Nat) (v : Value) (l : List Nt) : Prop := w.ownsRow base 41 10 v l.length (l.flatMap Nt.cells)
def OwnI (w : World) (base : Nat) (v : Value) (l : List Int) : Prop := w.ownsRow base 3 1 v l.length (l.flatMap int1)
theorem info43x : (Tryz.prog.info? 43).map (fun i => (i.zero, i.size, i.bytes)) = some (some (.agg #[.int .i64 0, .int .i64 0, .int .i64 0, .int .i64 0, .int .i64 0, .int .i64 0, .int .i64 0, .int .i64 0, .int .i64 0]), 9, 72) := by kernel_rfl
set_option maxRecDepth 100000 in
set_option maxHeartbeats 4000000 in
theorem cloneP_any (o : Option Addr) (l : List Pr) (cap : Nat) (w : World) (h : PairsAt w o l) (hn : o = none → l.length = 0 ∧ cap = 0) (hl : l.length ≤ 1000000) :
    Calls Tryz.prog 27 #[.slice o l.length cap] w fun e w' => ∃ v, e = .returned v ∧ OwnP w' w.heap.size v l ∧ Below w.heap.size w w' := by
  cases o with
  | none =>
    obtain ⟨h1, h2⟩ := hn rfl
    have h3 : l = [] := List.length_eq_zero_iff.1 h1
    subst h3 h2
    clear h h1 hn
    show Calls Tryz.prog 27 #[.slice none 0 0] w _
    have hq := fun w => Lib.run_eql_slice_nil (P := Tryz.prog) w 23 43 none 0 0 0 0 Tryz.underlying23
    go_enter Tryz.func27, Tryz.ntmps27
    go_wp2
    go_ret
    exact ⟨_, rfl, World.ownsRow_nil _ _ _ _, Below.refl _ _⟩
  | some ad =>
    have HN : Hid (PairsAt w (some ad) l) := h
    clear h hn
    have hq := fun w => Lib.run_eql_slice_nil (P := Tryz.prog) w 23 43 (some ad) l.length cap 0 0 Tryz.underlying23
    obtain ⟨i0, hi0⟩ : ∃ i, Tryz.prog.info? 43 = some i := by
      cases hq : Tryz.prog.info? 43 with
      | none => have := info43x; rw [hq] at this; cases this
      | some i => exact ⟨i, rfl⟩
    have hi := info43x
    rw [hi0] at hi
    simp only [Option.map_some, Option.some.injEq, Prod.mk.injEq] at hi
    obtain ⟨hz0, hz1, hz2⟩ := hi
    have HI := Lib.hid hi0
    have HI0 := Lib.hid hz0
    have HI1 := Lib.hid hz1
    have HI2 := Lib.hid hz2
    clear hi0 hz0 hz1 hz2
    have HNW := Lib.hid (fun (j : Nat) (u : Value) (hu : (l.flatMap Pr.cells)[j]? = some u) => ((Below.refl w.heap.size w).alloc (Nat.le_refl _) (.cells #[] 43)).cell (p := ad.add j) (World.block_lt_of_cell? w _ (RowAt.news Pr.len (by decide) HN.out j u hu)) |>.trans (RowAt.news Pr.len (by decide) HN.out j u hu))
    go_enter Tryz.func27, Tryz.ntmps27
    go_wp2_with (refine wpList_append_own _ rfl (.tmp 5) (.tmp 6) 23 rfl w.heap.size 43 i0 (.agg #[.int .i64 0, .int .i64 0, .int .i64 0, .int .i64 0, .int .i64 0, .int .i64 0, .int .i64 0, .int .i64 0, .int .i64 0]) 9 72 Tryz.underlying23 HI.out HI0.out HI1.out HI2.out rfl (by decide) (.slice (some ⟨w.heap.size, 0, none⟩) 0 0) 0 [] rfl (World.ownsRow_made w #[] 0 (Nat.le_refl _) (by decide) rfl) ad l.length cap (l.flatMap Pr.cells) rfl (flat_length Pr.len l) HNW.out (flat_one one_pr l) (by unfold maxLen; omega) (by omega) (by simp) ?_; intro v' w' hown hgrow; have HO := Lib.hid hown; have HG := Lib.hid hgrow; clear hown hgrow)
    go_ret
    refine ⟨_, rfl, ?_, ?_⟩
    · have h0 := HO.out
      rw [Nat.zero_add, List.nil_append] at h0
      exact h0
    · exact ((Below.refl w.heap.size w).alloc (Nat.le_refl _) _).grown HG.out (by simp) (fun b e => by cases e; exact Nat.le_refl _)
theorem info41x : (Tryz.prog.info? 41).map (fun i => (i.zero, i.size, i.bytes)) = some (some (.agg #[.int .i64 0, .int .i64 0, .int .i64 0, .int .i64 0, .int .i64 0, .int .i64 0, .int .i64 0, .int .i64 0, .int .i64 0, .bool false]), 10, 80) := by kernel_rfl
set_option maxRecDepth 100000 in
set_option maxHeartbeats 4000000 in
theorem cloneN_any (o : Option Addr) (l : List Nt) (cap : Nat) (w : World) (h : NotesAt w o l) (hn : o = none → l.length = 0 ∧ cap = 0) (hl : l.length ≤ 1000000) :
    Calls Tryz.prog 26 #[.slice o l.length cap] w fun e w' => ∃ v, e = .returned v ∧ OwnN w' w.heap.size v l ∧ Below w.heap.size w w' := by
  cases o with
  | none =>
    obtain ⟨h1, h2⟩ := hn rfl
    have h3 : l = [] := List.length_eq_zero_iff.1 h1
    subst h3 h2
    clear h h1 hn
    show Calls Tryz.prog 26 #[.slice none 0 0] w _
    have hq := fun w => Lib.run_eql_slice_nil (P := Tryz.prog) w 22 41 none 0 0 0 0 Tryz.underlying22
    go_enter Tryz.func26, Tryz.ntmps26
    go_wp2
    go_ret
    exact ⟨_, rfl, World.ownsRow_nil _ _ _ _, Below.refl _ _⟩
  | some ad =>
    have HN : Hid (NotesAt w (some ad) l) := h
    clear h hn
    have hq := fun w => Lib.run_eql_slice_nil (P := Tryz.prog) w 22 41 (some ad) l.length cap 0 0 Tryz.underlying22
    obtain ⟨i0, hi0⟩ : ∃ i, Tryz.prog.info? 41 = some i := by
      cases hq : Tryz.prog.info? 41 with
      | none => have := info41x; rw [hq] at this; cases this
      | some i => exact ⟨i, rfl⟩
    have hi := info41x
    rw [hi0] at hi
    simp only [Option.map_some, Option.some.injEq, Prod.mk.injEq] at hi
    obtain ⟨hz0, hz1, hz2⟩ := hi
    have HI := Lib.hid hi0
    have HI0 := Lib.hid hz0
    have HI1 := Lib.hid hz1
    have HI2 := Lib.hid hz2
    clear hi0 hz0 hz1 hz2
    have HNW := Lib.hid (fun (j : Nat) (u : Value) (hu : (l.flatMap Nt.cells)[j]? = some u) => ((Below.refl w.heap.size w).alloc (Nat.le_refl _) (.cells #[] 41)).cell (p := ad.add j) (World.block_lt_of_cell? w _ (RowAt.news Nt.len (by decide) HN.out j u hu)) |>.trans (RowAt.news Nt.len (by decide) HN.out j u hu))
    go_enter Tryz.func26, Tryz.ntmps26
    go_wp2_with (refine wpList_append_own _ rfl (.tmp 5) (.tmp 6) 22 rfl w.heap.size 41 i0 (.agg #[.int .i64 0, .int .i64 0, .int .i64 0, .int .i64 0, .int .i64 0, .int .i64 0, .int .i64 0, .int .i64 0, .int .i64 0, .bool false]) 10 80 Tryz.underlying22 HI.out HI0.out HI1.out HI2.out rfl (by decide) (.slice (some ⟨w.heap.size, 0, none⟩) 0 0) 0 [] rfl (World.ownsRow_made w #[] 0 (Nat.le_refl _) (by decide) rfl) ad l.length cap (l.flatMap Nt.cells) rfl (flat_length Nt.len l) HNW.out (flat_one one_nt l) (by unfold maxLen; omega) (by omega) (by simp) ?_; intro v' w' hown hgrow; have HO := Lib.hid hown; have HG := Lib.hid hgrow; clear hown hgrow)
    go_ret
    refine ⟨_, rfl, ?_, ?_⟩
    · have h0 := HO.out
      rw [Nat.zero_add, List.nil_append] at h0
      exact h0
    · exact ((Below.refl w.heap.size w).alloc (Nat.le_refl _) _).grown HG.out (by simp) (fun b e => by cases e; exact Nat.le_refl _)
theorem info3x : (Tryz.prog.info? 3).map (fun i => (i.zero, i.size, i.bytes)) = some (some (.int .i64 0), 1, 8) := by kernel_rfl
set_option maxRecDepth 100000 in
set_option maxHeartbeats 4000000 in
theorem cloneI_any (o : Option Addr) (l : List Int) (cap : Nat) (w : World) (h : (RowAt 1 int1) w o l) (hn : o = none → l.length = 0 ∧ cap = 0) (hl : l.length ≤ 1000000) :
    Calls Tryz.prog 28 #[.slice o l.length cap] w fun e w' => ∃ v, e = .returned v ∧ OwnI w' w.heap.size v l ∧ Below w.heap.size w w' := by
  cases o with
  | none =>
    obtain ⟨h1, h2⟩ := hn rfl
    have h3 : l = [] := List.length_eq_zero_iff.1 h1
    subst h3 h2
    clear h h1 hn
    show Calls Tryz.prog 28 #[.slice none 0 0] w _
    have hq := fun w => Lib.run_eql_slice_nil (P := Tryz.prog) w 24 3 none 0 0 0 0 Tryz.underlying24
    go_enter Tryz.func28, Tryz.ntmps28
    go_wp2
    go_ret
    exact ⟨_, rfl, World.ownsRow_nil _ _ _ _, Below.refl _ _⟩
  | some ad =>
    have HN : Hid ((RowAt 1 int1) w (some ad) l) := h
    clear h hn
    have hq := fun w => Lib.run_eql_slice_nil (P := Tryz.prog) w 24 3 (some ad) l.length cap 0 0 Tryz.underlying24
    obtain ⟨i0, hi0⟩ : ∃ i, Tryz.prog.info? 3 = some i := by
      cases hq : Tryz.prog.info? 3 with
      | none => have := info3x; rw [hq] at this; cases this
      | some i => exact ⟨i, rfl⟩
    have hi := info3x
    rw [hi0] at hi
    simp only [Option.map_some, Option.some.injEq, Prod.mk.injEq] at hi
    obtain ⟨hz0, hz1, hz2⟩ := hi
    have HI := Lib.hid hi0
    have HI0 := Lib.hid hz0
    have HI1 := Lib.hid hz1
    have HI2 := Lib.hid hz2
    clear hi0 hz0 hz1 hz2
    have HNW := Lib.hid (fun (j : Nat) (u : Value) (hu : (l.flatMap int1)[j]? = some u) => ((Below.refl w.heap.size w).alloc (Nat.le_refl _) (.cells #[] 3)).cell (p := ad.add j) (World.block_lt_of_cell? w _ (RowAt.news int1_len (by decide) HN.out j u hu)) |>.trans (RowAt.news int1_len (by decide) HN.out j u hu))
    go_enter Tryz.func28, Tryz.ntmps28
    go_wp2_with (refine wpList_append_own _ rfl (.tmp 5) (.tmp 6) 24 rfl w.heap.size 3 i0 (.int .i64 0) 1 8 Tryz.underlying24 HI.out HI0.out HI1.out HI2.out rfl (by decide) (.slice (some ⟨w.heap.size, 0, none⟩) 0 0) 0 [] rfl (World.ownsRow_made w #[] 0 (Nat.le_refl _) (by decide) rfl) ad l.length cap (l.flatMap int1) rfl (flat_length int1_len l) HNW.out (flat_one one_int l) (by unfold maxLen; omega) (by omega) (by simp) ?_; intro v' w' hown hgrow; have HO := Lib.hid hown; have HG := Lib.hid hgrow; clear hown hgrow)
    go_ret
    refine ⟨_, rfl, ?_, ?_⟩
    · have h0 := HO.out
      rw [Nat.zero_add, List.nil_append] at h0
      exact h0
    · exact ((Below.refl w.heap.size w).alloc (Nat.le_refl _) _).grown HG.out (by simp) (fun b e => by cases e; exact Nat.le_refl _)
end Go.Sc

/-! slices.Delete of one pair. -/
namespace Go.Sc
open Go.RowKit Go.Proofs

def Pr.zero : Pr := ⟨0, 0, 0, 0, 0, 0, 0, 0, 0⟩
theorem PRow.take {w : World} {g cap : Nat} {l : List Pr} (h : PRow w g cap l) (n : Nat) : PRow w g cap (l.take n) := by
  obtain ⟨cur, h1, h2, h3⟩ := h.blk
  refine ⟨Nat.le_trans (by rw [List.length_take]; omega) h.len, h.max, cur, h1, h2, fun i p hp => h3 i p ?_⟩
  rw [List.getElem?_take] at hp
  split at hp
  · exact hp
  · cases hp
/-- A store behind the elements. -/
theorem PRow.beyond {w : World} {g cap : Nat} {l : List Pr} (h : PRow w g cap l) {o : Nat} (ho : l.length * 9 ≤ o) (vs : List Value) : PRow (w.setCells g o vs) g cap l := by
  obtain ⟨cur, h1, h2, h3⟩ := h.blk
  obtain ⟨cur', a, b, c, _⟩ := heap_setCells g 43 (0, 0) vs o w cur h1
  refine ⟨h.len, h.max, cur', a, b.trans h2, fun i p hp j u hu => ?_⟩
  have hi : i < l.length := (List.getElem?_eq_some_iff.1 hp).1
  have hj : j < 9 := by rw [← Pr.len p]; exact (List.getElem?_eq_some_iff.1 hu).1
  rw [c (i * 9 + j) (Or.inl (by omega))]
  exact h3 i p hp j u hu
theorem PRow.room {w : World} {g cap : Nat} {l : List Pr} (h : PRow w g cap l) {i : Nat} (hi : i < cap) : ∀ j, j < 9 → (w.cell? ⟨g, i * 9 + j, none⟩).isSome = true ∧ w.frozen? ⟨g, i * 9 + j, none⟩ = false := fun j hj => by
  obtain ⟨cur, h1, h2, _⟩ := h.blk
  rw [cell_of_row w g (i * 9 + j) cur 43 (0, 0) h1]
  refine ⟨by rw [Array.getElem?_eq_getElem (by omega)]; rfl, ?_⟩
  unfold World.frozen?
  simp [h1]
theorem run_clear_one {w : World} {g cap : Nat} {l : List Pr} (h : PRow w g cap l) {i : Nat} (hi : i < cap) (c : Nat) (ty : TypeId) :
    (Builtin.clear_ #[23] ty #[.slice (some ⟨g, i * 9, none⟩) 1 c]).run Tryz.prog w = .ok (.tuple #[]) (w.setCells g (i * 9) Pr.zero.cells) := by
  have hst := run_storeCells_cells (P := Tryz.prog) g (i * 9) Pr.zero.cells 0 w (fun j hj => by simpa using (h.room hi j hj).1) (fun j hj => by simpa using (h.room hi j hj).2) (one_pr _)
  simp only [Nat.add_zero] at hst
  have hz : (Builtin.zeroCells (Value.agg Pr.zero.cells.toArray).cells 1).toList = Pr.zero.cells := by kernel_rfl
  have hv : ∀ w, (zeroValue 43).run Tryz.prog w = .ok (.agg Pr.zero.cells.toArray) w := fun w => by kernel_rfl
  simp [Builtin.clear_, run_underlying Tryz.underlying23, hv, hz, hst]
theorem Just.grown {g : Nat} {a w w' : World} (h : Just g a w) (hg : w.grownBy w' (some g)) : Just g a w' :=
  h.trans ⟨hg.os, hg.tape, hg.output, hg.size, fun k hk hne => hg.block k hk (fun e => hne (Option.some.inj e))⟩

/-- An append for which there is room. -/
theorem wpList_append_fits {P : Program} (w : World) {ops : Array Oper} {rest : List Oper} {o : Oper} {a : Act} {Q : Exit → Act → World → Prop} (hgd : o.guard = none) (s x : Operand) (t : TypeId)
    (ho : o.op = .call { callee := .builtin .append, args := #[s, x], argTypes := #[t, t] })
    (base : Nat) (e : TypeId) (i : TypeInfo) (size : Nat) (ht : P.underlying t = some (.slice e)) (hi : P.info? e = some i) (hsize : i.size = size)
    (g n cap : Nat) (xs : List Value) (hs : a.eval s = .slice (some ⟨g, 0, none⟩) n cap) (hown : w.ownsRow base e size (.slice (some ⟨g, 0, none⟩) n cap) n xs)
    (ad : Addr) (m c : Nat) (news : List Value) (hx : a.eval x = .slice (some ad) m c) (hl : news.length = m * size) (hnews : ∀ j u, news[j]? = some u → w.cell? (ad.add j) = some u) (h1 : ∀ u ∈ news, u.oneCell' = true)
    (hroom : n + m ≤ cap)
    (h : ∀ w', w'.ownsRow base e size (.slice (some ⟨g, 0, none⟩) (n + m) cap) (n + m) (xs ++ news) → w.grownBy w' (some g) → wpList P ops Q rest (a.put o.dst (.slice (some ⟨g, 0, none⟩) (n + m) cap)) w') : wpList P ops Q (o :: rest) a w :=
  wpList_plain hgd fun _ hK => by
    obtain ⟨w', hr, h2, h3⟩ := run_append_fits (P := P) w base t o.type e i size ht hi hsize g n cap xs hown ad m c news hl hnews h1 hroom
    unfold Oper.wp execOp
    simp only [ho, resolve, invoke, builtin, Sem.run_bind, Sem.run_pure, Result.andThen_ok, List.map_toArray, List.map_cons, List.map_nil, hs, hx, hr]
    exact hK _ _ (h w' h2 h3)

set_option maxRecDepth 100000 in
set_option maxHeartbeats 4000000 in
theorem del_any (g cap : Nat) (l : List Pr) (i : Nat) (w : World) (h : PRow w g cap l) (hi : i < l.length) (hsz : l.length ≤ 1000000) :
    Calls Tryz.prog 53 #[.slice (some ⟨g, 0, none⟩) l.length cap, .int .i64 i, .int .i64 ((i : Int) + 1)] w fun e w' => e = .returned (.slice (some ⟨g, 0, none⟩) (l.length - 1) cap) ∧ PRow w' g cap (l.eraseIdx i) ∧ Just g w w' := by
  have HN : Hid (PRow w g cap l) := h
  have hlc := h.len
  clear h
  have z1 : (i : Int) + 1 ≤ l.length := by omega
  have z2 : (i : Int) ≤ (i : Int) + 1 := by omega
  have z3 : (l.length : Int) ≤ cap := by omega
  have z4 : (i : Int) + 1 ≤ cap := by omega
  have z5 : (i : Int) ≤ cap := by omega
  have z6 : ((i : Int) == (i : Int) + 1) = false := beq_eq_false_iff_ne.2 (by omega)
  have z7 : ((i : Int) + 1).toNat = i + 1 := by omega
  have z8 : (0 : Int) ≤ (i : Int) + 1 := by omega
  obtain ⟨A, hA, hsrc⟩ : ∃ A : Addr, (if cap = i + 1 then some (⟨g, 0, none⟩ : Addr) else some ⟨g, (i + 1) * 9, none⟩) = some A ∧ Hid (∀ t u, ((l.drop (i + 1)).flatMap Pr.cells)[t]? = some u → w.drew.cell? (A.add t) = some u) := by
    by_cases hcap : cap = i + 1
    · refine ⟨_, if_pos hcap, fun t u hu => ?_⟩
      rw [List.drop_eq_nil_of_le (by omega)] at hu
      simp at hu
    · refine ⟨_, if_neg hcap, fun t u hu => ?_⟩
      refine RowAt.news (size := 9) Pr.len (by decide) (ad := ⟨g, (i + 1) * 9, none⟩) (fun k p hp => ⟨g, (i + 1) * 9, rfl, HN.out.drew.lt, ?_⟩) t u hu
      rw [List.getElem?_drop] at hp
      have := HN.out.drew.range hp
      rwa [show (i + 1 + k) * 9 = (i + 1) * 9 + k * 9 by omega] at this
  obtain ⟨i0, hi0⟩ : ∃ i, Tryz.prog.info? 43 = some i := by
    cases hq : Tryz.prog.info? 43 with
    | none => have := info43; rw [hq] at this; cases this
    | some i => exact ⟨i, rfl⟩
  have hi := info43
  rw [hi0] at hi
  simp only [Option.map_some, Option.some.injEq, Prod.mk.injEq] at hi
  obtain ⟨_, hz1, _⟩ := hi
  have HI := Lib.hid hi0
  have HI1 := Lib.hid hz1
  clear hi0 hz1
  go_enter Tryz.func53, Tryz.ntmps53
  go_wp2
  have hr := HN.out.drew
  have HOW := Lib.hid ((hr.take i).own (Nat.zero_le g))
  have hti : (l.take i).length = i := by rw [List.length_take]; omega
  refine wp_region_still_tail 6 (by kernel_rfl) (by kernel_rfl) ?_
  simp only [List.take_succ_cons, List.take_zero, List.drop_succ_cons, List.drop_zero]
  change wpStill _ _ w.drew _ _ _
  iterate 6 still_step
  refine wpStill_nil ?_
  change wpList _ _ _ _ _ w.drew
  refine wpList_append_fits _ rfl (.tmp 22) (.tmp 25) 23 rfl 0 43 i0 9 Tryz.underlying23 HI.out HI1.out g i cap _ rfl (by have := HOW.out; unfold OwnP at this; rw [hti] at this; exact this) A (l.length - (i + 1)) (cap - (i + 1)) ((l.drop (i + 1)).flatMap Pr.cells) rfl (by rw [flat_len, List.length_drop]) hsrc.out (flat_one one_pr _) (by omega) ?_
  intro w' hown hgrow
  obtain ⟨N, hN⟩ : ∃ N, i + (l.length - (i + 1)) = N := ⟨_, rfl⟩
  rw [hN]
  have hlen : (l.eraseIdx i).length = N := by rw [List.length_eraseIdx, if_pos hi]; omega
  have hw : OwnP w' 0 (.slice (some ⟨g, 0, none⟩) (l.eraseIdx i).length cap) (l.eraseIdx i) := by
    unfold OwnP
    rw [hlen, List.eraseIdx_eq_take_drop_succ, List.flatMap_append, ← hN]
    exact hown
  have hp : PRow w' g cap (l.eraseIdx i) := by
    rcases hw.cases with ⟨h1, _⟩ | ⟨g', cap', h1, _, h2⟩
    · cases h1
    · cases h1
      exact h2
  have HP := Lib.hid hp
  have HJ := Lib.hid (((Just.refl g w).drew).grown hgrow)
  have hcl := fun c ty => run_clear_one hp (show N < cap by omega) c ty
  have hp2 := hp.beyond (o := N * 9) (by rw [hlen]; exact Nat.le_refl _) Pr.zero.cells
  have HP2 := Lib.hid hp2
  have HJ2 := Lib.hid (HJ.out.setCells Pr.zero.cells (N * 9))
  have HN2 := Lib.hid hN
  have n1 : N ≤ l.length := by omega
  have n3 : ¬ cap = N := by omega
  have n4 : l.length - N = 1 := by omega
  have n5 : l.length - 1 = N := by omega
  clear hown hgrow hw hp hp2 hN hlen hA HOW hsrc
  have HN5 := Lib.hid n5
  clear n5
  generalize w'.setCells g (N * 9) Pr.zero.cells = W at *
  go_wp2
  go_ret
  exact ⟨by rw [HN5.out]; rfl, HP2.out, HJ2.out⟩
end Go.Sc

/-! The edits of a draft: data, what lies in memory, and what each edit does. -/
namespace Go.Sc
open Go.RowKit Go.Proofs

/-- An edit. -/
structure Ed where
  k : Int
  i : Int
  n : Nt
  p : Pr
def Ed.cells (x : Ed) : List Value := [.int .i64 x.k, .int .i64 x.i, .int .i64 x.n.v, .int .i64 x.n.fr, .int .i64 x.n.un, .int .i64 x.n.a0, .int .i64 x.n.a1, .int .i64 x.n.a2, .int .i64 x.n.a3, .int .i64 x.n.a4, .int .i64 x.n.a5, .bool x.n.td,
  .int .i64 x.p.a, .int .i64 x.p.b, .int .i64 x.p.w0, .int .i64 x.p.w1, .int .i64 x.p.w2, .int .i64 x.p.w3, .int .i64 x.p.w4, .int .i64 x.p.w5, .int .i64 x.p.bd]
theorem Ed.len (x : Ed) : x.cells.length = 21 := rfl
/-- What an edit does, if anything. -/
def editF (s : Sc) (x : Ed) : Option Sc :=
  if x.k = 1 then (if 0 ≤ x.i ∧ x.i < s.n.length then some ⟨s.v, s.n.set x.i.toNat x.n, s.p, s.c⟩ else none)
  else if x.k = 2 then (if 0 ≤ x.i ∧ x.i < s.p.length then some ⟨s.v, s.n, s.p.set x.i.toNat x.p, s.c⟩ else none)
  else if x.k = 3 then (if 0 ≤ x.i ∧ x.i < s.p.length then some ⟨s.v, s.n, s.p.eraseIdx x.i.toNat, s.c⟩ else none)
  else if x.k = 4 then some ⟨s.v, s.n, s.p ++ [x.p], s.c⟩
  else none
/-- The pairs in order, as the sort leaves them. -/
def sortF (s : Sc) : Sc := ⟨s.v, s.n, So.stable ltQ s.p, s.c⟩
/-- Edits, one behind the other. -/
def editsF : Sc → List Ed → Option Sc
  | s, [] => some s
  | s, x :: l => match editF s x with
    | some s' => editsF (sortF s') l
    | none => none
theorem editsF_append : ∀ (s : Sc) (l r : List Ed), editsF s (l ++ r) = (editsF s l).bind fun s' => editsF s' r
  | s, [], r => rfl
  | s, x :: l, r => by
    rw [List.cons_append, editsF, editsF]
    cases editF s x with
    | none => rfl
    | some s' => exact editsF_append (sortF s') l r

/-- What owns a row still does where the row's block is as it was. -/
theorem own_keep {w w' : World} {base : Nat} {e : TypeId} {size : Nat} {v : Value} {n : Nat} {xs : List Value} (h : w.ownsRow base e size v n xs) (hk : ∀ g, v.ownBlock = some g → w'.heap[g]? = w.heap[g]?) : w'.ownsRow base e size v n xs := by
  refine ⟨h.1, ?_⟩
  rcases h.2 with h0 | ⟨g, cap, cur, hv, hb, hg, h1⟩
  · exact .inl h0
  · exact .inr ⟨g, cap, cur, hv, hb, (hk g (by rw [hv]; rfl)).trans hg, h1⟩
/-- A draft under way: its block d, what its slices own; no two of these blocks are one, and none is to be kept. -/
structure Draft (K : Nat → Prop) (w : World) (d : Nat) (s : Sc) (vn vp vc : Value) : Prop where
  blk : w.heap[d]? = some (.cells #[.int .i64 s.v, vn, vp, vc] 90 (0, 0))
  notes : OwnN w 0 vn s.n
  pairs : OwnP w 0 vp s.p
  cads : OwnI w 0 vc s.c
  dn : vn.ownBlock ≠ some d
  dp : vp.ownBlock ≠ some d
  dc : vc.ownBlock ≠ some d
  np : ∀ g, vn.ownBlock = some g → vp.ownBlock ≠ some g
  nc : ∀ g, vn.ownBlock = some g → vc.ownBlock ≠ some g
  pc : ∀ g, vp.ownBlock = some g → vc.ownBlock ≠ some g
  kd : ¬ K d
  kn : ∀ g, vn.ownBlock = some g → ¬ K g
  kp : ∀ g, vp.ownBlock = some g → ¬ K g
  kc : ∀ g, vc.ownBlock = some g → ¬ K g
  klt : ∀ k, K k → k < w.heap.size
/-- What is to be kept is as it was. -/
structure Keeps (K : Nat → Prop) (w w' : World) : Prop where
  os : w'.os = w.os
  tape : w'.tape = w.tape
  output : w'.output = w.output
  size : w.heap.size ≤ w'.heap.size
  block : ∀ k, K k → w'.heap[k]? = w.heap[k]?
theorem Keeps.refl (K : Nat → Prop) (w : World) : Keeps K w w := ⟨rfl, rfl, rfl, Nat.le_refl _, fun _ _ => rfl⟩
theorem Keeps.trans {K : Nat → Prop} {a b c : World} (h : Keeps K a b) (k : Keeps K b c) : Keeps K a c :=
  ⟨k.os.trans h.os, k.tape.trans h.tape, k.output.trans h.output, Nat.le_trans h.size k.size, fun i hi => (k.block i hi).trans (h.block i hi)⟩
theorem Keeps.of_below {K : Nat → Prop} {w w' : World} (hK : ∀ k, K k → k < w.heap.size) (h : Below w.heap.size w w') : Keeps K w w' :=
  ⟨h.os, h.tape, h.output, h.size, fun k hk => h.block k (hK k hk)⟩
theorem Draft.d_lt {K : Nat → Prop} {w : World} {d : Nat} {s : Sc} {vn vp vc : Value} (h : Draft K w d s vn vp vc) : d < w.heap.size := (Array.getElem?_eq_some_iff.1 h.blk).1
theorem own_lt {w : World} {base : Nat} {e : TypeId} {size : Nat} {v : Value} {n : Nat} {xs : List Value} (h : w.ownsRow base e size v n xs) {g : Nat} (hg : v.ownBlock = some g) : g < w.heap.size := (h.lt g hg).2
/-- Nothing old has turned. -/
theorem Draft.keep {K : Nat → Prop} {w w' : World} {d : Nat} {s : Sc} {vn vp vc : Value} (h : Draft K w d s vn vp vc) (hb : Below w.heap.size w w') : Draft K w' d s vn vp vc :=
  { h with
    blk := (hb.block d h.d_lt).trans h.blk
    notes := own_keep h.notes fun g hg => hb.block g (own_lt h.notes hg)
    pairs := own_keep h.pairs fun g hg => hb.block g (own_lt h.pairs hg)
    cads := own_keep h.cads fun g hg => hb.block g (own_lt h.cads hg)
    klt := fun k hk => Nat.lt_of_lt_of_le (h.klt k hk) hb.size }
theorem Draft.cell {K : Nat → Prop} {w : World} {d : Nat} {s : Sc} {vn vp vc : Value} (h : Draft K w d s vn vp vc) :
    w.cell? ⟨d, 0, none⟩ = some (.int .i64 s.v) ∧ w.cell? ⟨d, 1, none⟩ = some vn ∧ w.cell? ⟨d, 2, none⟩ = some vp ∧ w.cell? ⟨d, 3, none⟩ = some vc ∧ w.frozen? ⟨d, 1, none⟩ = false ∧ w.frozen? ⟨d, 2, none⟩ = false ∧ w.frozen? ⟨d, 3, none⟩ = false := by
  have hc := fun o => cell_of_row w d o _ 90 (0, 0) h.blk
  have hf : ∀ o, w.frozen? ⟨d, o, none⟩ = false := fun o => by unfold World.frozen?; simp [h.blk]
  exact ⟨hc 0, hc 1, hc 2, hc 3, hf 1, hf 2, hf 3⟩
theorem heap_setCell_of {w : World} {d : Nat} {cs : Array Value} {e : TypeId} {fr : Nat × Nat} (h : w.heap[d]? = some (.cells cs e fr)) (o : Nat) (v : Value) : (w.setCell ⟨d, o, none⟩ v).heap[d]? = some (.cells (cs.setIfInBounds o v) e fr) := by
  unfold World.setCell
  rw [Array.getElem?_modify]
  simp [h]
/-- The pairs' slice is written anew, of a row that is the draft's own or new. -/
theorem Draft.setPairs {K : Nat → Prop} {w w' : World} {d : Nat} {s : Sc} {vn vp vc vp' : Value} {l : List Pr} (h : Draft K w d s vn vp vc) (hs : w.heap.size ≤ w'.heap.size) (hblk : ∀ k, k < w.heap.size → vp.ownBlock ≠ some k → w'.heap[k]? = w.heap[k]?)
    (hv : ∀ g, vp'.ownBlock = some g → vp.ownBlock = some g ∨ w.heap.size ≤ g) (hown : OwnP w' 0 vp' l) : Draft K (w'.setCell ⟨d, 2, none⟩ vp') d ⟨s.v, s.n, l, s.c⟩ vn vp' vc := by
  have hd : w'.heap[d]? = w.heap[d]? := hblk d h.d_lt h.dp
  have hoth : ∀ g, g ≠ d → (w'.setCell ⟨d, 2, none⟩ vp').heap[g]? = w'.heap[g]? := fun g hg => Below.heap_setCell w' ⟨d, 2, none⟩ vp' g hg
  have hnd : ∀ g, vp'.ownBlock = some g → g ≠ d := fun g hg e => by
    subst e
    rcases hv g hg with h1 | h1
    · exact h.dp h1
    · have := h.d_lt; omega
  refine ⟨?_, ?_, ?_, ?_, h.dn, fun e => hnd d e rfl, h.dc, ?_, h.nc, ?_, h.kd, h.kn, ?_, h.kc, ?_⟩
  · exact heap_setCell_of (hd.trans h.blk) 2 vp'
  · refine own_keep h.notes fun g hg => (hoth g fun e => h.dn (e ▸ hg)).trans (hblk g (own_lt h.notes hg) (h.np g hg))
  · exact own_keep hown fun g hg => hoth g (hnd g hg)
  · refine own_keep h.cads fun g hg => (hoth g fun e => h.dc (e ▸ hg)).trans (hblk g (own_lt h.cads hg) fun e => h.pc g e hg)
  · intro g hg e
    rcases hv g e with h1 | h1
    · exact h.np g hg h1
    · have := own_lt h.notes hg; omega
  · intro g hg e
    rcases hv g hg with h1 | h1
    · exact h.pc g h1 e
    · have := own_lt h.cads e; omega
  · intro g hg hk
    rcases hv g hg with h1 | h1
    · exact h.kp g h1 hk
    · have := h.klt g hk; omega
  · intro k hk
    have := h.klt k hk
    simp only [World.setCell, Array.size_modify]
    omega
/-- The row of pairs has turned in its place. -/
theorem Draft.inPlace {K : Nat → Prop} {w w' : World} {d : Nat} {s : Sc} {vn vp vc : Value} {l : List Pr} (h : Draft K w d s vn vp vc) (hs : w.heap.size ≤ w'.heap.size) (hblk : ∀ k, k < w.heap.size → vp.ownBlock ≠ some k → w'.heap[k]? = w.heap[k]?)
    (hown : OwnP w' 0 vp l) : Draft K w' d ⟨s.v, s.n, l, s.c⟩ vn vp vc :=
  { h with
    blk := (hblk d h.d_lt h.dp).trans h.blk
    notes := own_keep h.notes fun g hg => hblk g (own_lt h.notes hg) (h.np g hg)
    pairs := hown
    cads := own_keep h.cads fun g hg => hblk g (own_lt h.cads hg) fun e => h.pc g e hg
    klt := fun k hk => Nat.lt_of_lt_of_le (h.klt k hk) hs }
/-- The row of notes has turned in its place. -/
theorem Draft.inNotes {K : Nat → Prop} {w w' : World} {d : Nat} {s : Sc} {vn vp vc : Value} {l : List Nt} (h : Draft K w d s vn vp vc) (hs : w.heap.size ≤ w'.heap.size) (hblk : ∀ k, k < w.heap.size → vn.ownBlock ≠ some k → w'.heap[k]? = w.heap[k]?)
    (hown : OwnN w' 0 vn l) : Draft K w' d ⟨s.v, l, s.p, s.c⟩ vn vp vc :=
  { h with
    blk := (hblk d h.d_lt h.dn).trans h.blk
    notes := hown
    pairs := own_keep h.pairs fun g hg => hblk g (own_lt h.pairs hg) fun e => h.np g e hg
    cads := own_keep h.cads fun g hg => hblk g (own_lt h.cads hg) fun e => h.nc g e hg
    klt := fun k hk => Nat.lt_of_lt_of_le (h.klt k hk) hs }
end Go.Sc
