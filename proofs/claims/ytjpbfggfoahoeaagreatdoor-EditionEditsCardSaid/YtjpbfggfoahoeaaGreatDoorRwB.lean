/- Edits that came in, read out of memory; scores whose nil slices have no room. -/
import Derived.Test.YtjpbfggfoahoeaaGreatDoorRwA
import Derived.Test.YtjpbfggfoahoeaaGreatDoorSrW
namespace Go.Sc
open Go.RowKit Go.Proofs Go.ChangeShapes Go.WideShapes Go.Joins Go.Deep

theorem cells45 : Tryz.prog.cellsOf 45 = 21 := by kernel_rfl
def fd450 : Field := { name := "Kind", type := 3, offset := 0, embedded := false, tag := "", pkgPath := "", byteOffset := 0 }
def fd451 : Field := { name := "Index", type := 3, offset := 1, embedded := false, tag := "", pkgPath := "", byteOffset := 8 }
def fd452 : Field := { name := "Note", type := 41, offset := 2, embedded := false, tag := "", pkgPath := "", byteOffset := 16 }
def fd453 : Field := { name := "Pair", type := 43, offset := 12, embedded := false, tag := "", pkgPath := "", byteOffset := 96 }
section
variable {H : Type} {enc : TypeId × Value → H} {W : World} {sp : Nat → Bool} {held : Bool} {fuel : Nat}
set_option maxRecDepth 100000 in
theorem ed_of {cs : List Value} {x : DataW H × List MemPlace} (h : DataW.trod enc Tryz.prog W 0 sp held fuel 45 cs = some x) : ∃ e : Ed, cs = e.cells := by
  obtain ⟨xs, m, _, _, hl, hxs, hf⟩ := DataW.trod_struct Tryz.underlying45 h
  rw [cells45] at hl
  have h0 := hf 0 fd450 rfl
  have h1 := hf 1 fd451 rfl
  have h2 := hf 2 fd452 rfl
  have h3 := hf 3 fd453 rfl
  obtain ⟨k, e0⟩ := int_at (get_len hxs 0 (by decide)) h0
  obtain ⟨i, e1⟩ := int_at (get_len hxs 1 (by decide)) h1
  obtain ⟨y2, hy2⟩ := get_len hxs 2 (by decide)
  obtain ⟨y3, hy3⟩ := get_len hxs 3 (by decide)
  rw [hy2] at h2
  rw [hy3] at h3
  obtain ⟨⟨v, fr, un, a0, a1, a2, a3, a4, a5, td⟩, e2⟩ := note_of h2
  obtain ⟨⟨pa, pb, w0, w1, w2, w3, w4, w5, bd⟩, e3⟩ := pair_of h3
  have k0 : Tryz.prog.cellsOf fd450.type = 1 := cells3
  have k1 : Tryz.prog.cellsOf fd451.type = 1 := cells3
  have k2 : Tryz.prog.cellsOf fd452.type = 10 := cells41
  have k3 : Tryz.prog.cellsOf fd453.type = 9 := cells43
  rw [k0] at e0
  rw [k1] at e1
  rw [k2] at e2
  rw [k3] at e3
  match cs, hl with
  | [c0, c1, c2, c3, c4, c5, c6, c7, c8, c9, c10, c11, c12, c13, c14, c15, c16, c17, c18, c19, c20], _ =>
    simp [fd450, fd451, fd452, fd453, Nt.cells, Pr.cells] at e0 e1 e2 e3
    obtain ⟨f0, f1, f2, f3, f4, f5, f6, f7, f8, f9⟩ := e2
    obtain ⟨g0, g1, g2, g3, g4, g5, g6, g7, g8⟩ := e3
    exact ⟨⟨k, i, ⟨v, fr, un, a0, a1, a2, a3, a4, a5, td⟩, ⟨pa, pb, w0, w1, w2, w3, w4, w5, bd⟩⟩, by rw [e0, e1, f0, f1, f2, f3, f4, f5, f6, f7, f8, f9, g0, g1, g2, g3, g4, g5, g6, g7, g8]; rfl⟩
set_option maxRecDepth 100000 in
/-- An edit that came in. -/
theorem open_ed {b0 : Nat} {v : Value} {d : DataW H} {p : List MemPlace} (hv : Value.okWide Tryz.prog W .any b0 45 v) (h : DataW.Trod enc Tryz.prog W 0 (fun _ => true) true 45 v d p) : ∃ x : Ed, v = .agg x.cells.toArray := by
  obtain ⟨cs, rfl, hsz⟩ := okWide_struct Tryz.underlying45 hv
  obtain ⟨fuel, hf⟩ := h
  obtain ⟨e, he⟩ := ed_of hf
  refine ⟨e, ?_⟩
  have he : cs.toList = e.cells := he
  rw [← he, Array.toArray_toList]
theorem slice_nil {t e : TypeId} {o : Option Addr} {n k : Nat} {d : DataW H} {p : List MemPlace} (ht : Tryz.prog.underlying t = some (.slice e)) (h : DataW.trod enc Tryz.prog W 0 (fun _ => true) true fuel t [.slice o n k] = some (d, p)) (ho : o = none) : k = 0 := by
  subst ho
  rcases open_slice ht h with ⟨hcs, _⟩ | ⟨a, len, cap, m, n', D, Pl, hcs, _⟩
  · simp at hcs
    exact hcs.2
  · simp at hcs
set_option maxRecDepth 100000 in
/-- A score that came in; its nil slices have no room. -/
theorem open_score2 {b0 : Nat} {v : Value} {d : DataW H} {p : List MemPlace} (hv : Value.okWide Tryz.prog W .any b0 26 v) (h : DataW.Trod enc Tryz.prog W 0 (fun _ => true) true 26 v d p)
    (hw : ∀ x ∈ d.weights Tryz.prog 26, x ≤ reachBytes) : ∃ (s : Sc) (y : Lay), v = .agg (s.cells y) ∧ ScAt W s y ∧ CapOk s y ∧ NilOk y := by
  obtain ⟨s, y, rfl, ha, hc⟩ := open_score hv h hw
  obtain ⟨v0, v1, v2, v3, y0, y1, y2, y3, n, he, _, _, h0, h1, h2, h3⟩ := open_agg4 Tryz.underlying26 (by kernel_rfl) cells26 hv h
  simp only [Sc.cells, Value.agg.injEq, Array.mk.injEq, List.cons.injEq, and_true] at he
  obtain ⟨_, rfl, rfl, rfl⟩ := he
  exact ⟨s, y, rfl, ha, hc, slice_nil Tryz.underlying22 h1, slice_nil Tryz.underlying23 h2, slice_nil Tryz.underlying24 h3⟩
set_option maxRecDepth 100000 in
/-- Edits that came in. -/
theorem open_eds {b0 : Nat} {v : Value} {d : DataW H} {p : List MemPlace} (hv : Value.okWide Tryz.prog W .any b0 35 v) (h : DataW.Trod enc Tryz.prog W 0 (fun _ => true) true 35 v d p) : ∃ (o : Option Addr) (l : List Ed) (k : Nat), v = .slice o l.length k ∧ EdsAt W o l := by
  obtain ⟨a, len, cap, rfl⟩ := okWide_slice Tryz.underlying35 hv
  obtain ⟨fuel, hf⟩ := h
  have hf : DataW.trod enc Tryz.prog W 0 (fun _ => true) true fuel 35 [.slice a len cap] = some (d, p) := hf
  obtain ⟨o, l, k, he, _, hr, _⟩ := slice_at (cells := Ed.cells) Tryz.underlying35 cells45 (by decide) (fun _ => rfl) (fun _ _ _ h => ed_of h) hf
  exact ⟨o, l, k, he, hr⟩
set_option maxRecDepth 100000 in
/-- A byte that came in. -/
theorem open_u8 {b0 : Nat} {v : Value} {d : DataW H} {p : List MemPlace} (h : DataW.Trod enc Tryz.prog W 0 (fun _ => true) true 5 v d p) (hv : Value.okWide Tryz.prog W .any b0 5 v) : ∃ n : Int, v = .int .u8 n ∧ 0 ≤ n ∧ n ≤ 255 := by
  obtain ⟨n, rfl⟩ := okWide_int Tryz.underlying5 hv
  obtain ⟨fuel, hf⟩ := h
  have hf : DataW.trod enc Tryz.prog W 0 (fun _ => true) true fuel 5 [.int .u8 n] = some (d, p) := hf
  obtain ⟨m, he, _, hw⟩ := DataW.trod_int Tryz.underlying5 hf
  simp only [List.cons.injEq, Value.int.injEq, true_and, and_true] at he
  subst he
  refine ⟨n, rfl, ?_⟩
  have h0 : IntKind.u8.min = 0 := by decide
  have h1 : IntKind.u8.max = 255 := by decide
  rw [Lit.wf, h0, h1] at hw
  simpa using hw
end
end Go.Sc
