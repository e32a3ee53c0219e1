/- Scores that came in, read out of memory. -/
import Derived.Test.YtpbpeoijejocaaaGreatDoorPuG
import Derived.Test.YtpbpeoijejocaaaGreatDoorCeHead
import Derived.Deep.Slices
import Derived.Deep.Fields
import Derived.ChangeArms
import Derived.OpenShut
import Derived.Lib.SmallJoins
import Derived.Test.YtpbpeoijejocaaaGreatDoorRows
import Derived.MakeChecks
import Derived.Deep.DeepLaidRun
import Derived.Lib.LaidTab
import Derived.ProofKit
import Derived.Carry
import Derived.ChangeSame
namespace Go.Sc
open Go.RowKit Go.Proofs

/-- The package-level variables pitch.primes and size.logs hold what the text lays. -/
def LaidAt (w : World) : Prop := ∃ (v0 v4 : Array Value) (e0 e4 : TypeId) (f0 f4 : Nat × Nat), w.heap[1]? = some (.cells v0 e0 f0) ∧ v0.toList = [2, 3, 5, 7, 11, 13].map (Value.int .i64) ∧
  w.heap[0]? = some (.cells v4 e4 f4) ∧ v4.toList = [1000000000, 1000000000, 1584962500, 1584962501, 2321928094, 2321928095, 2807354922, 2807354923, 3459431618, 3459431619, 3700439718, 3700439719].map (Value.int .i64)
theorem LaidAt.below {w w' : World} (h : LaidAt w) (hb : Below w.heap.size w w') : LaidAt w' := by
  obtain ⟨v0, v4, e0, e4, f0, f4, h0, h1, h2, h3⟩ := h
  exact ⟨v0, v4, e0, e4, f0, f4, (hb.block _ (Array.getElem?_eq_some_iff.1 h0).1).trans h0, h1, (hb.block _ (Array.getElem?_eq_some_iff.1 h2).1).trans h2, h3⟩
theorem LaidAt.logs {w : World} (h : LaidAt w) : LogsAt w := by
  obtain ⟨v0, v4, e0, e4, f0, f4, h0, h1, h2, h3⟩ := h
  refine ⟨(Array.getElem?_eq_some_iff.1 h2).1, fun j u hu => ?_⟩
  have hq : v4[j]? = some u := by
    rw [← Array.getElem?_toList, h3]
    exact hu
  simp [World.cell?, h2, hq]
theorem head_any {w : World} (h : LaidAt w) : Calls Tryz.prog 5 #[] w (fun e w' => e = .returned (.bool true) ∧ Below w.heap.size w w') := by
  obtain ⟨v0, v4, e0, e4, f0, f4, h0, h1, h2, h3⟩ := h
  exact (Go.Ce.head_calls h2 h3 h0 h1).mono (fun e w' ⟨he, ho⟩ => ⟨he, ⟨ho.os, ho.tape, ho.output, ho.size, fun k hk => ho.block k hk⟩⟩)
theorem law_free (s : Sc) (y : Lay) (os : Option Addr) (sh : List Vc) (ks : Nat) (a : Int) (v : Vc) (w : World) (h : ScAt w s y) (hsh : RowAt 6 Vc.cells w os sh) (hnil : os = none → ks = 0) (hl : sh.length ≤ 140737488351232) (ha : 0 ≤ a ∧ a ≤ 255) (hlg : LaidAt w) :
    Calls Tryz.prog 3 #[.agg (s.cells y), .slice os sh.length ks, .int .u8 a, .agg v.cells.toArray] w (Post true w) :=
  law_any s y os sh ks a v w h hsh hnil hl ha hlg.logs (fun W hW => head_any (hlg.below hW))
end Go.Sc

namespace Go.Sc
open Go.RowKit Go.Proofs Go.ChangeShapes Go.WideShapes Go.Joins Go.Deep

theorem cells3 : Tryz.prog.cellsOf 3 = 1 := by kernel_rfl
theorem cells4 : Tryz.prog.cellsOf 4 = 1 := by kernel_rfl
theorem cells39 : Tryz.prog.cellsOf 29 = 6 := by kernel_rfl
theorem cells41 : Tryz.prog.cellsOf 100 = 10 := by kernel_rfl
theorem cells43 : Tryz.prog.cellsOf 84 = 9 := by kernel_rfl
theorem cells26 : Tryz.prog.cellsOf 26 = 4 := by kernel_rfl
theorem bytes41 : Tryz.prog.bytesOf 100 = 80 := by kernel_rfl
theorem bytes43 : Tryz.prog.bytesOf 84 = 72 := by kernel_rfl
theorem bytes3 : Tryz.prog.bytesOf 3 = 8 := by kernel_rfl
section
variable {H : Type} {enc : TypeId × Value → H} {W : World} {sp : Nat → Bool} {held : Bool} {fuel : Nat}

theorem get_len {α : Type} {xs : List α} {n : Nat} (h : xs.length = n) (i : Nat) (hi : i < n) : ∃ y, xs[i]? = some y := ⟨xs[i]'(by omega), by simp [h, hi]⟩
theorem int_at {cs : List Value} {x : Option (DataW H × List MemPlace)} (hx : ∃ y, x = some y) (h : DataW.trod enc Tryz.prog W 0 sp held fuel 3 cs = x) : ∃ n : Int, cs = [.int .i64 n] := by
  obtain ⟨y, rfl⟩ := hx
  obtain ⟨n, hn, _⟩ := DataW.trod_int Tryz.underlying3 h
  exact ⟨n, hn⟩
theorem vec_at {cs : List Value} {x : Option (DataW H × List MemPlace)} (hx : ∃ y, x = some y) (h : DataW.trod enc Tryz.prog W 0 sp held fuel 29 cs = x) :
    ∃ a0 a1 a2 a3 a4 a5 : Int, cs = [.int .i64 a0, .int .i64 a1, .int .i64 a2, .int .i64 a3, .int .i64 a4, .int .i64 a5] := by
  obtain ⟨y, rfl⟩ := hx
  obtain ⟨ys, m, _, _, hl, hys, hf⟩ := DataW.trod_array Tryz.underlying29 h
  rw [cells39] at hl
  rw [cells3] at hf
  obtain ⟨a0, e0⟩ := int_at (get_len hys 0 (by omega)) (hf 0 (by omega))
  obtain ⟨a1, e1⟩ := int_at (get_len hys 1 (by omega)) (hf 1 (by omega))
  obtain ⟨a2, e2⟩ := int_at (get_len hys 2 (by omega)) (hf 2 (by omega))
  obtain ⟨a3, e3⟩ := int_at (get_len hys 3 (by omega)) (hf 3 (by omega))
  obtain ⟨a4, e4⟩ := int_at (get_len hys 4 (by omega)) (hf 4 (by omega))
  obtain ⟨a5, e5⟩ := int_at (get_len hys 5 (by omega)) (hf 5 (by omega))
  match cs, hl with
  | [c0, c1, c2, c3, c4, c5], _ =>
    simp at e0 e1 e2 e3 e4 e5
    exact ⟨a0, a1, a2, a3, a4, a5, by rw [e0, e1, e2, e3, e4, e5]⟩
set_option maxRecDepth 100000 in
theorem note_of {cs : List Value} {x : DataW H × List MemPlace} (h : DataW.trod enc Tryz.prog W 0 sp held fuel 100 cs = some x) : ∃ n : Nt, cs = n.cells := by
  obtain ⟨xs, m, _, _, hl, hxs, hf⟩ := DataW.trod_struct Tryz.underlying100 h
  rw [cells41] at hl
  have h0 := hf 0 fd410 rfl
  have h1 := hf 1 fd411 rfl
  have h2 := hf 2 fd412 rfl
  have h3 := hf 3 fd413 rfl
  have h4 := hf 4 fd414 rfl
  obtain ⟨v, e0⟩ := int_at (get_len hxs 0 (by decide)) h0
  obtain ⟨fr, e1⟩ := int_at (get_len hxs 1 (by decide)) h1
  obtain ⟨un, e2⟩ := int_at (get_len hxs 2 (by decide)) h2
  obtain ⟨a0, a1, a2, a3, a4, a5, e3⟩ := vec_at (get_len hxs 3 (by decide)) h3
  obtain ⟨y4, hy4⟩ := get_len hxs 4 (by decide)
  rw [hy4] at h4
  obtain ⟨td, e4, _⟩ := DataW.trod_bool Tryz.underlying4 h4
  have k0 : Tryz.prog.cellsOf fd410.type = 1 := cells3
  have k1 : Tryz.prog.cellsOf fd411.type = 1 := cells3
  have k2 : Tryz.prog.cellsOf fd412.type = 1 := cells3
  have k3 : Tryz.prog.cellsOf fd413.type = 6 := cells39
  have k4 : Tryz.prog.cellsOf fd414.type = 1 := cells4
  rw [k0] at e0
  rw [k1] at e1
  rw [k2] at e2
  rw [k3] at e3
  rw [k4] at e4
  match cs, hl with
  | [c0, c1, c2, c3, c4, c5, c6, c7, c8, c9], _ =>
    simp [fd410, fd411, fd412, fd413, fd414] at e0 e1 e2 e3 e4
    obtain ⟨f0, f1, f2, f3, f4, f5⟩ := e3
    exact ⟨⟨v, fr, un, a0, a1, a2, a3, a4, a5, td⟩, by rw [e0, e1, e2, f0, f1, f2, f3, f4, f5, e4]; rfl⟩
set_option maxRecDepth 100000 in
theorem pair_of {cs : List Value} {x : DataW H × List MemPlace} (h : DataW.trod enc Tryz.prog W 0 sp held fuel 84 cs = some x) : ∃ p : Pr, cs = p.cells := by
  obtain ⟨xs, m, _, _, hl, hxs, hf⟩ := DataW.trod_struct Tryz.underlying84 h
  rw [cells43] at hl
  have h0 := hf 0 fd430 rfl
  have h1 := hf 1 fd431 rfl
  have h2 := hf 2 fd432 rfl
  have h3 := hf 3 fd433 rfl
  obtain ⟨v, e0⟩ := int_at (get_len hxs 0 (by decide)) h0
  obtain ⟨fr, e1⟩ := int_at (get_len hxs 1 (by decide)) h1
  obtain ⟨a0, a1, a2, a3, a4, a5, e2⟩ := vec_at (get_len hxs 2 (by decide)) h2
  obtain ⟨un, e3⟩ := int_at (get_len hxs 3 (by decide)) h3
  have k0 : Tryz.prog.cellsOf fd430.type = 1 := cells3
  have k1 : Tryz.prog.cellsOf fd431.type = 1 := cells3
  have k2 : Tryz.prog.cellsOf fd432.type = 6 := cells39
  have k3 : Tryz.prog.cellsOf fd433.type = 1 := cells3
  rw [k0] at e0
  rw [k1] at e1
  rw [k2] at e2
  rw [k3] at e3
  match cs, hl with
  | [c0, c1, c2, c3, c4, c5, c6, c7, c8], _ =>
    simp [fd430, fd431, fd432, fd433] at e0 e1 e2 e3
    obtain ⟨f0, f1, f2, f3, f4, f5⟩ := e2
    exact ⟨⟨v, fr, a0, a1, a2, a3, a4, a5, un⟩, by rw [e0, e1, f0, f1, f2, f3, f4, f5, e3]; rfl⟩
theorem ints_of {cs : List Value} {x : DataW H × List MemPlace} (h : DataW.trod enc Tryz.prog W 0 sp held fuel 3 cs = some x) : ∃ n : Int, cs = [Value.int .i64 n] := int_at ⟨x, rfl⟩ h

/-- A slice that came in lies in memory. -/
theorem slice_at {α : Type} {size : Nat} {cells : α → List Value} {t e : TypeId} {v : Value} {d : DataW H} {p : List MemPlace} (ht : Tryz.prog.underlying t = some (.slice e)) (hc : Tryz.prog.cellsOf e = size) (hs : 0 < size) (hcl : ∀ x, (cells x).length = size)
    (hof : ∀ (fuel : Nat) (cs : List Value) (x : DataW H × List MemPlace), DataW.trod enc Tryz.prog W 0 (fun _ => true) true fuel e cs = some x → ∃ n : α, cs = cells n)
    (h : DataW.trod enc Tryz.prog W 0 (fun _ => true) true fuel t [v] = some (d, p)) :
    ∃ (o : Option Addr) (l : List α) (k : Nat), v = .slice o l.length k ∧ l.length ≤ k ∧ RowAt size cells W o l ∧ ((d = .nil ∧ k = 0) ∨ ∃ es ss, d = .slice es ss ∧ es.length + ss.length = k) := by
  rcases open_slice ht h with ⟨hcs, hx⟩ | ⟨a, len, cap, m, n, D, Pl, hcs, _, hl, _, hm, hx, hi⟩
  · simp only [List.cons.injEq, and_true] at hcs
    subst hcs
    simp only [Prod.mk.injEq] at hx
    exact ⟨none, [], 0, rfl, Nat.le_refl _, fun k n hk => by simp at hk, .inl ⟨hx.1, rfl⟩⟩
  · simp only [List.cons.injEq, and_true] at hcs
    subst hcs
    simp only [if_true] at hm
    subst hm
    simp only [Prod.mk.injEq] at hx
    rw [hc] at hi
    have each : ∀ i, i < m → ∃ n : α, ∀ j u, (cells n)[j]? = some u → W.cell? (a.add (i * size + j)) = some u := fun i him => by
      obtain ⟨cs', h1, h2⟩ := hi i him
      obtain ⟨n, rfl⟩ := hof _ _ _ h2
      obtain ⟨_, hcl', hat⟩ := World.cells?_some h1
      refine ⟨n, fun j u hu => ?_⟩
      have hj : j < size := by rw [← hcl n]; exact (List.getElem?_eq_some_iff.1 hu).1
      have := hat j hj
      rw [← Go.Deep.add_add, this]
      exact hu
    obtain ⟨F, hF⟩ := Classical.axiomOfChoice (r := fun (i : {i : Nat // i < m}) (n : α) => ∀ j u, (cells n)[j]? = some u → W.cell? (a.add (i.1 * size + j)) = some u) (fun i => each i.1 i.2)
    have hlen : ((List.range len).pmap (fun i h => F ⟨i, h⟩) (fun i hi => by have := List.mem_range.1 hi; omega)).length = len := by simp
    refine ⟨some a, (List.range len).pmap (fun i h => F ⟨i, h⟩) (fun i hi => by have := List.mem_range.1 hi; omega), m, by rw [hlen], by rw [hlen]; omega, fun k n hk => ?_, .inr ⟨_, _, hx.1, by simp; omega⟩⟩
    have hkl : k < len := by rw [← hlen]; exact (List.getElem?_eq_some_iff.1 hk).1
    have hn : n = F ⟨k, by omega⟩ := by
      have := hk
      simp [List.getElem?_pmap, List.getElem?_range hkl] at this
      exact this.symm
    have hat := hF ⟨k, by omega⟩
    rw [← hn] at hat
    have h0 := hF ⟨0, by omega⟩ 0 ((cells (F ⟨0, by omega⟩))[0]'(by rw [hcl]; omega)) (by simp)
    obtain ⟨b, off, spot⟩ := a
    have hsp : spot = none := by simpa [Addr.add] using World.cell?_spot h0
    subst hsp
    have hadd : ∀ j, (⟨b, off, none⟩ : Addr).add (k * size + j) = ⟨b, off + k * size + j, none⟩ := by
      intro j
      unfold Addr.add
      split
      · simp_all
      · simp [Nat.add_assoc]
    have hlt := World.block_lt_of_cell? W _ h0
    exact ⟨b, off, rfl, by simpa [Addr.add] using hlt, fun j u hu => by rw [← hadd j]; exact hat j u hu⟩
theorem weight_slice {t e : TypeId} {d : DataW H} {k : Nat} (ht : Tryz.prog.underlying t = some (.slice e)) (hd : (d = .nil ∧ k = 0) ∨ ∃ es ss, d = .slice es ss ∧ es.length + ss.length = k)
    (hw : ∀ x ∈ d.weights Tryz.prog t, x ≤ reachBytes) : k * Tryz.prog.bytesOf e ≤ 140737488351232 := by
  rcases hd with ⟨_, rfl⟩ | ⟨es, ss, rfl, rfl⟩
  · omega
  · simp only [DataW.weights, ht] at hw
    exact hw _ (by simp)
set_option maxRecDepth 100000 in
/-- A score that came in. -/
theorem open_score {b0 : Nat} {v : Value} {d : DataW H} {p : List MemPlace} (hv : Value.okWide Tryz.prog W .any b0 26 v) (h : DataW.Trod enc Tryz.prog W 0 (fun _ => true) true 26 v d p)
    (hw : ∀ x ∈ d.weights Tryz.prog 26, x ≤ reachBytes) : ∃ (s : Sc) (y : Lay), v = .agg (s.cells y) ∧ ScAt W s y := by
  obtain ⟨v0, v1, v2, v3, y0, y1, y2, y3, n, rfl, rfl, _, h0, h1, h2, h3⟩ := open_agg4 Tryz.underlying26 (by kernel_rfl) cells26 hv h
  obtain ⟨V, e0⟩ := ints_of h0
  simp only [List.cons.injEq, and_true] at e0
  subst e0
  obtain ⟨o1, N, k1, rfl, l1, r1, w1⟩ := slice_at (cells := Nt.cells) Tryz.underlying22 cells41 (by decide) (fun _ => rfl) (fun _ _ _ h => note_of h) h1
  obtain ⟨o2, P, k2, rfl, l2, r2, w2⟩ := slice_at (cells := Pr.cells) Tryz.underlying23 cells43 (by decide) (fun _ => rfl) (fun _ _ _ h => pair_of h) h2
  obtain ⟨o3, C, k3, rfl, l3, r3, w3⟩ := slice_at (cells := fun n : Int => [Value.int .i64 n]) Tryz.underlying24 cells3 (by decide) (fun _ => rfl) (fun _ _ _ h => ints_of h) h3
  simp only [DataW.weights, Tryz.underlying26, DataW.weightsEach, List.map_cons, List.map_nil, List.mem_append] at hw
  have g1 := weight_slice Tryz.underlying22 w1 (fun x hx => hw x (.inr (.inl hx)))
  have g2 := weight_slice Tryz.underlying23 w2 (fun x hx => hw x (.inr (.inr (.inl hx))))
  have g3 := weight_slice Tryz.underlying24 w3 (fun x hx => hw x (.inr (.inr (.inr (.inl hx)))))
  rw [bytes41] at g1
  rw [bytes43] at g2
  rw [bytes3] at g3
  exact ⟨⟨V, N, P, C⟩, ⟨o1, k1, o2, k2, o3, k3⟩, rfl, ⟨r1, r2, r3, by show N.length ≤ _; omega, by show P.length ≤ _; omega, by show C.length ≤ _; omega⟩⟩
end
end Go.Sc

/-! The listed variables, out of the rows' condition; a world for the witness. -/
namespace Go.Sc
open Go.RowKit Go.Proofs Go.ChangeShapes Go.WideShapes Go.Joins Go.Deep
open Go.Proofs.YtpbpeoijejocaaaGreatDoor

theorem cells38 : Tryz.prog.cellsOf 28 = 6 := by kernel_rfl
theorem cells309 : Tryz.prog.cellsOf 168 = 2 := by kernel_rfl
theorem cells319 : Tryz.prog.cellsOf 200 = 12 := by kernel_rfl
theorem g0 : Tryz.prog.globalNamed "schisma/pitch.primes" = some 1 := by kernel_rfl
theorem g4 : Tryz.prog.globalNamed "schisma/size.logs" = some 0 := by kernel_rfl
theorem t0 : (Tryz.prog.globals[1]?).map (·.type) = some 28 := by kernel_rfl
theorem t4 : (Tryz.prog.globals[0]?).map (·.type) = some 200 := by kernel_rfl
/-- What the three rows list. -/
abbrev laidAll : List (String × DataW Unit) := [("unicode/utf8.acceptRanges", Rows.laid_unicode_utf8_acceptRanges), ("schisma/pitch.primes", Rows.laid_schisma_pitch_primes), ("schisma/size.logs", Rows.laid_schisma_size_logs), ("unicode/utf8.first", Rows.laid_unicode_utf8_first)]
theorem var_heap {P : Program} {w : World} {n : String} {g : Nat} {cs : Array Value} (hg : P.globalNamed n = some g) (hv : w.var? P n = some cs) : ∃ e f, w.heap[g]? = some (.cells cs e f) := by
  unfold World.var? at hv
  rw [hg] at hv
  simp only [Option.bind_some] at hv
  cases hh : w.heap[g]? with
  | none => simp [hh] at hv
  | some o =>
    cases o <;> simp [hh] at hv
    subst hv
    exact ⟨_, _, rfl⟩
section
variable {H : Type} {enc : TypeId × Value → H} {W : World} {sp : Nat → Bool} {held : Bool} {fuel : Nat}
def fd3090 : Field := { name := "Lo", type := 3, offset := 0, embedded := false, tag := "", pkgPath := "", byteOffset := 0 }
def fd3091 : Field := { name := "Hi", type := 3, offset := 1, embedded := false, tag := "", pkgPath := "", byteOffset := 8 }
theorem int_is {cs : List Value} {y : DataW H × List MemPlace} {a : Int} (h : DataW.trod enc Tryz.prog W 0 sp held fuel 3 cs = some y) (ha : y.1 = .lit (.int .i64 a)) : cs = [.int .i64 a] := by
  obtain ⟨n, rfl, rfl, _⟩ := DataW.trod_int Tryz.underlying3 h
  simp only [DataW.lit.injEq, Lit.int.injEq, true_and] at ha
  rw [ha]
set_option maxRecDepth 100000 in
theorem size_is {cs : List Value} {y : DataW H × List MemPlace} {a b : Int} (h : DataW.trod enc Tryz.prog W 0 sp held fuel 168 cs = some y) (ha : y.1 = .agg [.lit (.int .i64 a), .lit (.int .i64 b)]) : cs = [.int .i64 a, .int .i64 b] := by
  obtain ⟨xs, m, _, rfl, hl, hxs, hf⟩ := DataW.trod_struct Tryz.underlying168 h
  rw [cells309] at hl
  match xs, hxs with
  | [u, v], _ =>
    simp only [List.map_cons, List.map_nil, DataW.agg.injEq, List.cons.injEq, and_true] at ha
    have e0 := int_is (hf 0 fd3090 rfl) ha.1
    have e1 := int_is (hf 1 fd3091 rfl) ha.2
    have k0 : Tryz.prog.cellsOf fd3090.type = 1 := cells3
    have k1 : Tryz.prog.cellsOf fd3091.type = 1 := cells3
    rw [k0] at e0
    rw [k1] at e1
    match cs, hl with
    | [c0, c1], _ =>
      simp [fd3090, fd3091] at e0 e1
      rw [e0, e1]
set_option maxRecDepth 100000 in
theorem laid_at (h : laidMetH Tryz.prog laidAll W) : LaidAt W := by
  rw [MakeChecks.laidMetH_plain _ _ _ (by kernel_rfl)] at h
  obtain ⟨ps, ⟨_, _, _, _, _, _, _, _, _, _, ⟨ga, ta, csa, fa, pa, qa, hga, hta, hva, hda, ⟨gb, tb, csb, fb, pb, qb, hgb, htb, hvb, hdb, _⟩, _⟩, _⟩, _, _⟩ := h
  obtain rfl := Option.some.inj (g0.symm.trans hga)
  obtain rfl := Option.some.inj (g4.symm.trans hgb)
  obtain rfl := Option.some.inj (t0.symm.trans hta)
  obtain rfl := Option.some.inj (t4.symm.trans htb)
  obtain ⟨e0, f0, hh0⟩ := var_heap hga hva
  obtain ⟨e4, f4, hh4⟩ := var_heap hgb hvb
  have c0 : csa.toList = [2, 3, 5, 7, 11, 13].map (Value.int .i64) := Lib.cells_of_tab (zs := [2, 3, 5, 7, 11, 13]) Tryz.underlying28 Tryz.underlying3 cells3 cells38 hda
  refine ⟨csa, csb, e0, e4, f0, f4, hh0, c0, hh4, ?_⟩
  obtain ⟨xs, m, _, hx, hl, hxs, hf⟩ := DataW.trod_array Tryz.underlying200 hdb
  rw [cells319] at hl
  rw [cells309] at hf
  simp only [Prod.mk.injEq, Rows.laid_schisma_size_logs, DataW.agg.injEq] at hx
  have hx1 := hx.1
  match xs, hxs, hx1, hf with
  | [x0, x1, x2, x3, x4, x5], _, hx1, hf =>
    simp only [List.map_cons, List.map_nil, List.cons.injEq, and_true] at hx1
    obtain ⟨y0, y1, y2, y3, y4, y5⟩ := hx1
    have s0 := size_is (hf 0 (by decide)) y0.symm
    have s1 := size_is (hf 1 (by decide)) y1.symm
    have s2 := size_is (hf 2 (by decide)) y2.symm
    have s3 := size_is (hf 3 (by decide)) y3.symm
    have s4 := size_is (hf 4 (by decide)) y4.symm
    have s5 := size_is (hf 5 (by decide)) y5.symm
    generalize csb.toList = L at hl s0 s1 s2 s3 s4 s5
    match L, hl with
    | [l0, l1, l2, l3, l4, l5, l6, l7, l8, l9, l10, l11], _ =>
      simp at s0 s1 s2 s3 s4 s5
      simp [s0, s1, s2, s3, s4, s5]
end
end Go.Sc

/-! What a law owes when it has answered true and has turned nothing that lay. -/
namespace Go.Sc
open Go.RowKit Go.Proofs Go.ChangeShapes Go.WideShapes

theorem laidOut : laidOutB Tryz.prog = true := by kernel_rfl
section
variable {H : Type} {enc : TypeId × Value → H}
theorem all_stay {W W' : World} {sp : Nat → Bool} : ∀ {ts : List TypeId} {vs : List Value} {ds : List (DataW H)} {ps : List MemPlace}, DataW.TrodAll enc Tryz.prog W 0 (fun _ => true) true ts vs ds ps →
    (∀ t ∈ ts, Tryz.prog.readableRec t = true ∧ t < Tryz.prog.types.size) → (∀ p ∈ ps, W.sameAt W' p) → (∀ p ∈ ps, sp p.block = true) → DataW.TrodAll enc Tryz.prog W' 0 sp true ts vs ds ps
  | [], vs, ds, ps, h, _, _, _ => by
    obtain ⟨rfl, rfl, rfl⟩ := trodAll_nil h
    exact trodAll_mk0
  | t :: ts, vs, ds, ps, h, hr, hs, hp => by
    obtain ⟨v, vs', d, ds', p, q, rfl, rfl, rfl, h0, hrest⟩ := trodAll_cons h
    obtain ⟨r1, r2⟩ := hr t (by simp)
    exact ⟨p, q, WideElems.Trod_stays laidOut r1 r2 h0 (fun x hx => hs x (by simp [hx])) (fun x hx => hp x (by simp [hx])), all_stay hrest (fun t ht => hr t (by simp [ht])) (fun x hx => hs x (by simp [hx])) (fun x hx => hp x (by simp [hx])), rfl⟩
theorem law_post {f : Func} {s : ChangeSpec} {W W' : World} {args : Array Value} {ds : List (DataW H)} {before : List MemPlace} (hres : f.resultTypes = #[4]) (hvars : s.vars = [])
    (hW : DataW.Whole enc Tryz.prog f.params.toList s.vars false W args.toList ds [] before) (hs1 : (s.fn H (ds ++ [])).results = [.lit (.bool true)]) (hs2 : (s.fn H (ds ++ [])).args = ds) (hs3 : (s.fn H (ds ++ [])).vars = [])
    (hr : ∀ t ∈ f.params.toList, Tryz.prog.readableRec t = true ∧ t < Tryz.prog.types.size) (hb : Below W.heap.size W W') : s.post enc Tryz.prog f false true false false W args (.bool true) W' := by
  have hlt : ∀ p ∈ before, p.block < W.heap.size := fun p hp => hW.lt p hp
  obtain ⟨p, q, hA, hV, he, hz, hn⟩ := hW
  have hV' := hV
  rw [hvars] at hV'
  obtain ⟨_, hq⟩ := trodVars_none hV'
  rw [hq, List.append_nil] at he
  subst he
  refine ⟨ds, [], before, [], before, [], ⟨before, q, hA, hV, by rw [hq, List.append_nil], hz, hn⟩, ?_, ?_, ?_, hb.frame _, fun h => by cases h⟩
  · rw [hs1, hres]
    exact trodAll_mk1 (shut_bool Tryz.underlying4 _)
  · rw [hs2]
    exact all_stay hA hr (fun x hx => hb.same (hlt x hx)) (fun x hx => by simpa using hlt x hx)
  · rw [hs3, hvars]
    exact rfl
end
end Go.Sc

/-! The other arguments: a byte, an interval, intervals. -/
namespace Go.Sc
open Go.RowKit Go.Proofs Go.ChangeShapes Go.WideShapes Go.Joins Go.Deep
theorem bytesV : Tryz.prog.bytesOf 29 = 48 := by kernel_rfl
section
variable {H : Type} {enc : TypeId × Value → H} {W : World} {fuel : Nat}
theorem okWide_arr {P : Program} {w : World} {r : Reach} {base : Nat} {t e : TypeId} {n : Nat} {v : Value} (ht : P.underlying t = some (.array n e)) (h : Value.okWide P w r base t v) : ∃ cs, v = .agg cs ∧ cs.size = P.cellsOf t := by
  simp only [Value.okWide, ht] at h
  obtain ⟨cs, h1, h2, _⟩ := h
  exact ⟨cs, h1, h2⟩
theorem slice_nil {t e : TypeId} {o : Option Addr} {n k : Nat} {d : DataW H} {p : List MemPlace} (ht : Tryz.prog.underlying t = some (.slice e)) (h : DataW.trod enc Tryz.prog W 0 (fun _ => true) true fuel t [.slice o n k] = some (d, p)) (ho : o = none) : k = 0 := by
  subst ho
  rcases open_slice ht h with ⟨hcs, _⟩ | ⟨a, len, cap, m, n', D, Pl, hcs, _⟩
  · simp at hcs
    exact hcs.2
  · simp at hcs
theorem vec_of {cs : List Value} {x : DataW H × List MemPlace} {sp : Nat → Bool} {held : Bool} (h : DataW.trod enc Tryz.prog W 0 sp held fuel 29 cs = some x) : ∃ v : Vc, cs = v.cells := by
  obtain ⟨a0, a1, a2, a3, a4, a5, e⟩ := vec_at ⟨x, rfl⟩ h
  exact ⟨⟨a0, a1, a2, a3, a4, a5⟩, e⟩
set_option maxRecDepth 100000 in
/-- An interval that came in. -/
theorem open_vec {b0 : Nat} {v : Value} {d : DataW H} {p : List MemPlace} (hv : Value.okWide Tryz.prog W .any b0 29 v) (h : DataW.Trod enc Tryz.prog W 0 (fun _ => true) true 29 v d p) : ∃ x : Vc, v = .agg x.cells.toArray := by
  obtain ⟨cs, rfl, hsz⟩ := okWide_arr Tryz.underlying29 hv
  obtain ⟨fuel, hf⟩ := h
  obtain ⟨e, he⟩ := vec_of hf
  refine ⟨e, ?_⟩
  have he : cs.toList = e.cells := he
  rw [← he, Array.toArray_toList]
set_option maxRecDepth 100000 in
/-- Intervals that came in. -/
theorem open_vecs {b0 : Nat} {v : Value} {d : DataW H} {p : List MemPlace} (hv : Value.okWide Tryz.prog W .any b0 27 v) (h : DataW.Trod enc Tryz.prog W 0 (fun _ => true) true 27 v d p) (hw : ∀ x ∈ d.weights Tryz.prog 27, x ≤ reachBytes) :
    ∃ (o : Option Addr) (l : List Vc) (k : Nat), v = .slice o l.length k ∧ RowAt 6 Vc.cells W o l ∧ (o = none → k = 0) ∧ l.length ≤ 140737488351232 := by
  obtain ⟨a, len, cap, rfl⟩ := okWide_slice Tryz.underlying27 hv
  obtain ⟨fuel, hf⟩ := h
  have hf : DataW.trod enc Tryz.prog W 0 (fun _ => true) true fuel 27 [.slice a len cap] = some (d, p) := hf
  obtain ⟨o, l, k, he, hk, hr, hd⟩ := slice_at (cells := Vc.cells) Tryz.underlying27 cells39 (by decide) (fun _ => rfl) (fun _ _ _ h => vec_of h) hf
  have hg := weight_slice Tryz.underlying27 hd hw
  rw [bytesV] at hg
  refine ⟨o, l, k, he, hr, fun ho => ?_, by omega⟩
  rw [he] at hf
  exact slice_nil Tryz.underlying27 hf ho
set_option maxRecDepth 100000 in
/-- A byte that came in. -/
theorem open_u8 {b0 : Nat} {v : Value} {d : DataW H} {p : List MemPlace} (h : DataW.Trod enc Tryz.prog W 0 (fun _ => true) true 5 v d p) (hv : Value.okWide Tryz.prog W .any b0 5 v) : ∃ n : Int, v = .int .u8 n ∧ 0 ≤ n ∧ n ≤ 255 := by
  obtain ⟨n, rfl⟩ := okWide_int Tryz.underlying5 hv
  obtain ⟨fuel, hf⟩ := h
  have hf : DataW.trod enc Tryz.prog W 0 (fun _ => true) true fuel 5 [.int .u8 n] = some (d, p) := hf
  obtain ⟨m, he, _, hw⟩ := DataW.trod_int Tryz.underlying5 hf
  simp only [List.cons.injEq, Value.int.injEq, true_and, and_true] at he
  subst he
  refine ⟨n, rfl, ?_⟩
  have h0 : IntKind.u8.min = 0 := by decide
  have h1 : IntKind.u8.max = 255 := by decide
  rw [Lit.wf, h0, h1] at hw
  simpa using hw
end
end Go.Sc
