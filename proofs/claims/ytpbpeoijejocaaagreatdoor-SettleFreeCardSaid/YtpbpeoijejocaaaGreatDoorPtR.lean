/- Rows of steps that the call owns; a step appended; rows appended to rows. -/
import Derived.Test.YtpbpeoijejocaaaGreatDoorPtJ
import Derived.Maps.AppendAt
import Derived.Laws.OwnMore
namespace Go.Sc
open Go.RowKit Go.Proofs

theorem flat_at {α : Type} {size : Nat} {cells : α → List Value} (hc : ∀ x, (cells x).length = size) : ∀ (l : List α) (k j : Nat) (x : α) (u : Value), l[k]? = some x → (cells x)[j]? = some u → (l.flatMap cells)[k * size + j]? = some u
  | [], k, _, _, _, h, _ => by simp at h
  | y :: l, 0, j, x, u, h, hu => by
    simp at h
    subst h
    have hj := (List.getElem?_eq_some_iff.1 hu).1
    rw [List.flatMap_cons, List.getElem?_append_left (by omega)]
    simpa using hu
  | y :: l, k + 1, j, x, u, h, hu => by
    have hk : (k + 1) * size = size + k * size := by rw [Nat.add_mul]; omega
    rw [List.flatMap_cons, List.getElem?_append_right (by rw [hc]; omega), hc, hk, show size + k * size + j - size = k * size + j by omega]
    exact flat_at hc l k j x u (by simpa using h) hu
/-- What the call owns lies in memory. -/
theorem RowAt.own {α : Type} {size : Nat} {cells : α → List Value} (hc : ∀ x, (cells x).length = size) {w : World} {base : Nat} {e : TypeId} {v : Value} {l : List α} (h : w.ownsRow base e size v l.length (l.flatMap cells)) :
    ∃ (o : Option Addr) (cap : Nat), v = .slice o l.length cap ∧ RowAt size cells w o l := by
  rcases h.2 with ⟨hv, h0⟩ | ⟨g, cap, cur, hv, hb, hg, hrest⟩
  · refine ⟨none, 0, by rw [hv, h0], ?_⟩
    have : l = [] := List.length_eq_zero_iff.1 h0
    subst this
    intro k n hk
    simp at hk
  · refine ⟨_, cap, hv, fun k n hk => ⟨g, 0, rfl, (Array.getElem?_eq_some_iff.1 hg).1, fun j u hu => ?_⟩⟩
    have h1 := h.cells (g := g) (by rw [hv]; rfl) (k * size + j) u (flat_at hc l k j n u hk hu)
    have hadd : (⟨g, 0, none⟩ : Addr).add (k * size + j) = ⟨g, 0 + k * size + j, none⟩ := by unfold Addr.add; split <;> simp_all
    rwa [hadd] at h1
/-- Elements that lie in memory, one behind the other. -/
theorem RowAt.news {α : Type} {size : Nat} {cells : α → List Value} (hc : ∀ x, (cells x).length = size) (h0 : 0 < size) {w : World} {ad : Addr} {l : List α} (h : RowAt size cells w (some ad) l) :
    ∀ j u, (l.flatMap cells)[j]? = some u → w.cell? (ad.add j) = some u := fun j u hu => by
  have hlen : ∀ l : List α, (l.flatMap cells).length = l.length * size := fun l => by
    induction l with
    | nil => simp
    | cons p l ih => rw [List.flatMap_cons, List.length_append, ih, List.length_cons, hc, Nat.add_mul]; omega
  have hj : j < l.length * size := by rw [← hlen]; exact (List.getElem?_eq_some_iff.1 hu).1
  obtain ⟨p, hp⟩ := get_of_lt (show j / size < l.length from Nat.div_lt_of_lt_mul (by rwa [Nat.mul_comm]))
  have hm : j % size < (cells p).length := by rw [hc]; exact Nat.mod_lt _ h0
  have e2 := flat_at hc l (j / size) (j % size) p _ hp (List.getElem?_eq_getElem hm)
  have e3 : j / size * size + j % size = j := by rw [Nat.mul_comm]; exact Nat.div_add_mod j size
  rw [e3, hu] at e2
  obtain ⟨b, off, ho, hb, hr⟩ := h _ _ hp
  cases ho
  have := hr (j % size) _ (List.getElem?_eq_getElem hm)
  rw [Addr.add_mid, show off + j = off + j / size * size + j % size by omega, this, ← e2]
theorem flat_one {α : Type} {cells : α → List Value} (h1 : ∀ x, ∀ v ∈ cells x, v.oneCell' = true) (l : List α) : ∀ u ∈ l.flatMap cells, u.oneCell' = true := fun u hu => by
  obtain ⟨x, _, hx⟩ := List.mem_flatMap.1 hu
  exact h1 x u hx
theorem flat_length {α : Type} {size : Nat} {cells : α → List Value} (hc : ∀ x, (cells x).length = size) (l : List α) : (l.flatMap cells).length = l.length * size := by
  induction l with
  | nil => simp
  | cons p l ih => rw [List.flatMap_cons, List.length_append, ih, List.length_cons, hc, Nat.add_mul]; omega
theorem St.len (x : St) : x.cells.length = 3 := rfl
theorem one_st (x : St) : ∀ v ∈ x.cells, v.oneCell' = true := by intro v hv; simp [St.cells] at hv; rcases hv with h | h | h <;> rw [h] <;> rfl
/-- Steps that the call owns. -/
def OwnS (w : World) (base : Nat) (v : Value) (l : List St) : Prop := w.ownsRow base 102 3 v l.length (l.flatMap St.cells)
theorem infoS : (Tryz.prog.info? 102).map (fun i => (i.zero, i.size, i.bytes)) = some (some (.agg #[.int .i64 0, .int .i64 0, .int .i64 0]), 3, 24) := by kernel_rfl
theorem infoS' : ∃ i, Tryz.prog.info? 102 = some i ∧ i.zero = some (.agg #[.int .i64 0, .int .i64 0, .int .i64 0]) ∧ i.size = 3 ∧ i.bytes = 24 := by
  cases hq : Tryz.prog.info? 102 with
  | none => have := infoS; rw [hq] at this; cases this
  | some i =>
    have hi := infoS
    rw [hq] at hi
    simp only [Option.map_some, Option.some.injEq, Prod.mk.injEq] at hi
    exact ⟨i, rfl, hi.1, hi.2.1, hi.2.2⟩
/-- One step appended: the step lies in a block of its own. -/
theorem app_one (w : World) (base : Nat) (ty : TypeId) (v : Value) (l : List St) (x : St) (hown : OwnS w base v l) (hl : l.length ≤ 10000) (hbase : base ≤ w.heap.size) :
    ∃ v' w', (Builtin.append_ #[91, 91] ty #[v, .slice (some ⟨w.heap.size, 0, none⟩) 1 1]).run Tryz.prog (w.alloc (.cells #[.int .i64 x.f, .int .i64 x.t, .int .i64 x.k] 102)) = .ok v' w' ∧ OwnS w' base v' (l ++ [x]) ∧
      (w.alloc (.cells #[.int .i64 x.f, .int .i64 x.t, .int .i64 x.k] 102)).grownBy w' v.ownBlock := by
  obtain ⟨i0, hi0, hz0, hz1, hz2⟩ := infoS'
  have hb := rangeAt_born w #[.int .i64 x.f, .int .i64 x.t, .int .i64 x.k] 102
  obtain ⟨v', w', hr, h2, h3, _, _⟩ := run_append_own_at (P := Tryz.prog) (w.alloc (.cells #[.int .i64 x.f, .int .i64 x.t, .int .i64 x.k] 102)) base 91 ty 102 i0 (.agg #[.int .i64 0, .int .i64 0, .int .i64 0]) 3 24 Tryz.underlying91 hi0 hz0 hz1 hz2 rfl (by decide) v l.length (l.flatMap St.cells) (hown.alloc _) ⟨w.heap.size, 0, none⟩ 1 1 x.cells rfl
    (fun j u hj => by rw [show (⟨w.heap.size, 0, none⟩ : Addr).add j = ⟨w.heap.size, 0 + j, none⟩ by unfold Addr.add; split <;> simp_all]; exact hb j u hj) (one_st x) (by unfold maxLen; omega) (by omega) (by simp; omega)
  refine ⟨v', w', hr, ?_, h3⟩
  unfold OwnS
  rw [List.length_append, List.flatMap_append]
  simpa using h2
end Go.Sc
