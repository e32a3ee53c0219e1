/- Law SettleFree: the walk. -/
import Derived.Test.YtpbpeoijejocaaaGreatDoorPuA
import Derived.Test.YtpbpeoijejocaaaGreatDoorPuD
import Derived.Test.YtpbpeoijejocaaaGreatDoorPuE
namespace Go.Sc
open Go.RowKit Go.Proofs

theorem path_len (s : Sc) : ∀ (m : Nat) (n : Int), (pathTo s m n).length ≤ m
  | 0, _ => by simp [pathTo]
  | m + 1, n => by
    unfold pathTo
    split
    · simp
    · rw [List.length_cons]
      have := path_len s m (upOf s n.toNat).f
      omega
theorem take_len {α : Type} (p : α → Bool) (l : List α) : (l.takeWhile p).length ≤ l.length := (List.takeWhile_sublist p).length_le
theorem way_len (s : Sc) (a b : Int) : (wayOf s a b).length ≤ 2 * (s.n.length + 1) := by
  unfold wayOf
  simp only [List.length_append, List.length_map, List.length_reverse]
  have h1 := path_len s (s.n.length + 1) a
  have h2 := path_len s (s.n.length + 1) b
  have h3 := take_len (fun (p : St) => !(b :: (pathOf s b).map (·.f)).contains p.t) (pathOf s a)
  have h4 := fun q => take_len (fun (p : St) => p.t != q) (pathOf s b)
  unfold pathOf at *
  have h5 := h4 (((List.map St.turn (List.takeWhile (fun p => !(b :: List.map (fun x => x.f) (pathTo s (s.n.length + 1) b)).contains p.t) (pathTo s (s.n.length + 1) a))).getLast?.map (·.t)).getD a)
  omega
theorem chains_mem {s : Sc} {xs : List Vc} {c : Ch} (h : c ∈ chainsOf s xs) : ∃ (p : Pr), p ∈ s.p ∧ c.s = wayOf s p.a p.b := by
  unfold chainsOf at h
  obtain ⟨i, _, hi⟩ := List.mem_filterMap.1 h
  cases hp : s.p[i]? with
  | none => rw [hp] at hi; cases hi
  | some p =>
    rw [hp] at hi
    dsimp only at hi
    split at hi
    · cases hi
      exact ⟨p, mem_of_get hp, rfl⟩
    · cases hi
theorem chains_len (s : Sc) (xs : List Vc) : (chainsOf s xs).length ≤ s.p.length := by
  unfold chainsOf
  exact Nat.le_trans (List.length_filterMap_le _ _) (by simp)
/-- The shifts copied behind an empty slice of the call's own. -/
theorem app_rowsV (w : World) (base : Nat) (ty : TypeId) (v : Value) (os : Option Addr) (sh : List Vc) (ks : Nat) (hown : OwnV w base v []) (hv : v ≠ .slice none 0 0) (hsh : RowAt 6 Vc.cells w os sh) (hnil : os = none → ks = 0) (hl : sh.length ≤ 10000) (hbase : base ≤ w.heap.size) :
    ∃ v' w', (Builtin.append_ #[27, 27] ty #[v, .slice os sh.length ks]).run Tryz.prog w = .ok v' w' ∧ OwnV w' base v' sh ∧ w.grownBy w' v.ownBlock ∧ v' ≠ .slice none 0 0 := by
  obtain ⟨i0, hi0, hz0, hz1, hz2⟩ := infoV'
  cases os with
  | some ad =>
    obtain ⟨v', w', hr, h2, h3, h4, _⟩ := run_append_own_at (P := Tryz.prog) w base 27 ty 29 i0 (.agg #[.int .i64 0, .int .i64 0, .int .i64 0, .int .i64 0, .int .i64 0, .int .i64 0]) 6 48 Tryz.underlying27 hi0 hz0 hz1 hz2 rfl (by decide) v 0 [] hown ad sh.length ks (sh.flatMap Vc.cells) (flat_length Vc.len sh) (RowAt.news Vc.len (by decide) hsh) (flat_one one_vc sh) (by unfold maxLen; omega) (by omega) hbase
    rw [Nat.zero_add, List.nil_append] at h2
    exact ⟨v', w', hr, h2, h3, fun e => hv (h4.1 e).1⟩
  | none =>
    have hs : sh = [] := by
      cases sh with
      | nil => rfl
      | cons x l => obtain ⟨b, off, h, _⟩ := hsh 0 x rfl; cases h
    subst hs
    rw [hnil rfl]
    refine ⟨v, w, ?_, hown, ⟨rfl, rfl, rfl, Nat.le_refl _, fun _ _ _ => rfl⟩, hv⟩
    rcases hown.2 with ⟨h1, _⟩ | ⟨g, cap, cur, h1, h2, h3, h4⟩
    · exact absurd h1 hv
    · rw [h1]
      simp [Builtin.append_, run_underlying Tryz.underlying27, sizeOf, typeInfo, zeroValue, hi0, hz0, Builtin.lenOf, run_firstCells_none, storeCells]
theorem OwnV.grow {w : World} {base : Nat} {v : Value} {l : List Vc} (h : OwnV w base v l) (hv : v ≠ .slice none 0 0) : ∃ g cap, v = .slice (some ⟨g, 0, none⟩) l.length cap ∧ base ≤ g ∧ GRow 29 6 Vc.cells w g cap l := by
  rcases h.2 with ⟨h1, _⟩ | ⟨g, cap, cur, h1, h2, h3, h4, _, h5, h6⟩
  · exact absurd h1 hv
  · refine ⟨g, cap, h1, h2, ⟨h4, cur, h3, h5, fun i p hp j u hu => ?_⟩⟩
    have hq := flat_at Vc.len l i j p u hp hu
    rw [← h6, List.getElem?_take] at hq
    split at hq
    · simpa using hq
    · cases hq
/-- The shifts, those from k up to j moved by d. -/
def Mid (k j : Nat) (d : Vc) (sh l : List Vc) : Prop := l.length = sh.length ∧ ∀ (i : Nat) (x : Vc), sh[i]? = some x → l[i]? = some (if k ≤ i ∧ i < j then x.add d 1 else x)
theorem mid_start (k : Nat) (d : Vc) (sh : List Vc) : Mid k k d sh sh := ⟨rfl, fun i x hx => by rw [if_neg (by omega), hx]⟩
theorem mid_step {k j : Nat} {d x : Vc} {sh l : List Vc} (h : Mid k j d sh l) (hk : k ≤ j) (hx : sh[j]? = some x) : Mid k (j + 1) d sh (l.set j (x.add d 1)) := by
  have hj : j < sh.length := (List.getElem?_eq_some_iff.1 hx).1
  refine ⟨by rw [List.length_set]; exact h.1, fun i z hz => ?_⟩
  by_cases e : i = j
  · subst e
    rw [hx] at hz
    cases hz
    rw [if_pos (by omega), List.getElem?_set_self (by rw [h.1]; exact hj)]
  · rw [List.getElem?_set_ne (fun h => e h.symm), h.2 i z hz]
    by_cases e2 : k ≤ i ∧ i < j
    · rw [if_pos e2, if_pos (by omega)]
    · rw [if_neg e2, if_neg (by omega)]
theorem mid_end {k j : Nat} {d : Vc} {sh l : List Vc} (h : Mid k j d sh l) (hj : sh.length ≤ j) : MovedFrom k d sh l := by
  refine ⟨h.1.symm, fun i x y hx hy => ?_⟩
  have hi := (List.getElem?_eq_some_iff.1 hx).1
  rw [h.2 i x hx] at hy
  cases hy
  by_cases e : i < k
  · rw [if_pos e, if_neg (by omega)]
  · rw [if_neg e, if_pos (by omega)]
theorem mid_at {k j : Nat} {d x : Vc} {sh l : List Vc} (h : Mid k j d sh l) (hx : sh[j]? = some x) : l[j]? = some x := by
  rw [h.2 j x hx, if_neg (by omega)]
end Go.Sc

namespace Go.Sc
open Go.RowKit Go.Proofs

set_option maxRecDepth 100000 in
set_option maxHeartbeats 4000000 in
theorem law_any (s : Sc) (y : Lay) (os : Option Addr) (sh : List Vc) (ks : Nat) (a : Int) (v : Vc) (w : World) (h : ScAt w s y) (hsh : RowAt 6 Vc.cells w os sh) (hnil : os = none → ks = 0) (hl : sh.length ≤ 140737488351232) (ha : 0 ≤ a ∧ a ≤ 255) (hlg : LogsAt w)
    (hd : ∀ W, Below w.heap.size w W → Calls Tryz.prog 5 #[] W (fun e w' => e = .returned (.bool true) ∧ Below W.heap.size W w')) :
    Calls Tryz.prog 3 #[.agg (s.cells y), .slice os sh.length ks, .int .u8 a, .agg v.cells.toArray] w (Post true w) := by
  obtain ⟨o1, k1, o2, k2, o3, k3⟩ := y
  have HS := Lib.hid h
  have HSH := Lib.hid hsh
  have HNIL := Lib.hid hnil
  have HLG := Lib.hid hlg
  have HD := Lib.hid hd
  have hN : s.n.length ≤ 140737488351232 := h.2.2.2.1
  have hP : s.p.length ≤ 140737488351232 := h.2.2.2.2.1
  have hC : s.c.length ≤ 140737488351232 := h.2.2.2.2.2
  have RI := Lib.hid (rinterval_any v)
  have RF := Lib.hid (fun W => few_any s ⟨o1, k1, o2, k2, o3, k3⟩ W hN hP)
  have HBa : Hid (Below w.heap.size w (w.alloc (.cells #[.int .i64 s.v, .slice o1 s.n.length k1, .slice o2 s.p.length k2, .slice o3 s.c.length k3] 26))) := (Below.refl _ _).alloc (Nat.le_refl _) _
  have HR1 := Lib.hid (rangeAt_born w #[.int .i64 s.v, .slice o1 s.n.length k1, .slice o2 s.p.length k2, .slice o3 s.c.length k3] 26)
  have hsz1 : w.heap.size < (w.alloc (.cells #[.int .i64 s.v, .slice o1 s.n.length k1, .slice o2 s.p.length k2, .slice o3 s.c.length k3] 26)).heap.size := by simp
  have hsz1' : (w.alloc (.cells #[.int .i64 s.v, .slice o1 s.n.length k1, .slice o2 s.p.length k2, .slice o3 s.c.length k3] 26)).heap.size = w.heap.size + 1 := by simp
  clear h hsh hnil hlg hd hN hP
  obtain ⟨vl, hvl⟩ : ∃ q, decide (v.lim 48) = q := ⟨_, rfl⟩
  rw [hvl] at RI
  have HVL := Lib.hid hvl
  clear hvl
  obtain ⟨fw, hfw⟩ : ∃ q, decide (s.n.length ≤ 40 ∧ s.p.length ≤ 60) = q := ⟨_, rfl⟩
  rw [hfw] at RF
  clear hfw
  obtain ⟨v0, v1, v2, v3, v4, v5⟩ := v
  dsimp only [Sc.cells, Vc.cells] at RI RF ⊢
  have HR2 := Lib.hid (rangeAt_born (w.alloc (.cells #[.int .i64 s.v, .slice o1 s.n.length k1, .slice o2 s.p.length k2, .slice o3 s.c.length k3] 26)) #[.int .i64 v0, .int .i64 v1, .int .i64 v2, .int .i64 v3, .int .i64 v4, .int .i64 v5] 29)
  have HB1 : Hid (Below w.heap.size w ((w.alloc (.cells #[.int .i64 s.v, .slice o1 s.n.length k1, .slice o2 s.p.length k2, .slice o3 s.c.length k3] 26)).alloc (.cells #[.int .i64 v0, .int .i64 v1, .int .i64 v2, .int .i64 v3, .int .i64 v4, .int .i64 v5] 29))) := HBa.out.alloc HBa.out.size _
  have HR3 := Lib.hid (rangeAt_below ((Below.refl _ (w.alloc (.cells #[.int .i64 s.v, .slice o1 s.n.length k1, .slice o2 s.p.length k2, .slice o3 s.c.length k3] 26))).alloc (Nat.le_refl _) (.cells #[.int .i64 v0, .int .i64 v1, .int .i64 v2, .int .i64 v3, .int .i64 v4, .int .i64 v5] 29)) hsz1 HR1.out)
  have hsz2 : w.heap.size + 1 < ((w.alloc (.cells #[.int .i64 s.v, .slice o1 s.n.length k1, .slice o2 s.p.length k2, .slice o3 s.c.length k3] 26)).alloc (.cells #[.int .i64 v0, .int .i64 v1, .int .i64 v2, .int .i64 v3, .int .i64 v4, .int .i64 v5] 29)).heap.size := by simp
  rw [hsz1'] at HR2
  clear HBa HR1 hsz1 hsz1'
  go_enter Tryz.func3, Tryz.ntmps3
  go_wp2_with fail
  generalize World.alloc (World.alloc w _) _ = W1 at *
  refine (HD.out _ HB1.out).mono ?_
  rintro e w2 ⟨rfl, hb⟩
  have HB2 : Hid (Below w.heap.size w w2) := HB1.out.trans (hb.mono HB1.out.size)
  have HS2 := Lib.hid (rangeAt_below hb (by omega) HR3.out)
  have HV2 := Lib.hid (rangeAt_below hb hsz2 HR2.out)
  have hx2 : w.heap.size + 1 < w2.heap.size := Nat.lt_of_lt_of_le hsz2 hb.size
  clear hb HB1 HR2 HR3 hsz2 HD
  have c0 : w2.cell? ⟨w.heap.size, 0, none⟩ = some (.int .i64 s.v) := HS2.out 0 _ rfl
  have c1 : w2.cell? ⟨w.heap.size, 1, none⟩ = some (.slice o1 s.n.length k1) := HS2.out 1 _ rfl
  have c2 : w2.cell? ⟨w.heap.size, 2, none⟩ = some (.slice o2 s.p.length k2) := HS2.out 2 _ rfl
  have c3 : w2.cell? ⟨w.heap.size, 3, none⟩ = some (.slice o3 s.c.length k3) := HS2.out 3 _ rfl
  have d0 : w2.cell? ⟨w.heap.size + 1, 0, none⟩ = some (.int .i64 v0) := HV2.out 0 _ rfl
  have d1 : w2.cell? ⟨w.heap.size + 1, 1, none⟩ = some (.int .i64 v1) := HV2.out 1 _ rfl
  have d2 : w2.cell? ⟨w.heap.size + 1, 2, none⟩ = some (.int .i64 v2) := HV2.out 2 _ rfl
  have d3 : w2.cell? ⟨w.heap.size + 1, 3, none⟩ = some (.int .i64 v3) := HV2.out 3 _ rfl
  have d4 : w2.cell? ⟨w.heap.size + 1, 4, none⟩ = some (.int .i64 v4) := HV2.out 4 _ rfl
  have d5 : w2.cell? ⟨w.heap.size + 1, 5, none⟩ = some (.int .i64 v5) := HV2.out 5 _ rfl
  go_wp2_with fail
  refine (RI.out _).mono ?_
  rintro e w3 ⟨rfl, hb⟩
  have HB3 : Hid (Below w.heap.size w w3) := HB2.out.trans (hb.mono HB2.out.size)
  have HS3 := Lib.hid (rangeAt_below hb (by omega) HS2.out)
  have HV3 := Lib.hid (rangeAt_below hb hx2 HV2.out)
  have hx3 : w.heap.size + 1 < w3.heap.size := Nat.lt_of_lt_of_le hx2 hb.size
  clear hb HB2 HS2 HV2 hx2 RI c0 c1 c2 c3 d0 d1 d2 d3 d4 d5
  have c0 : w3.cell? ⟨w.heap.size, 0, none⟩ = some (.int .i64 s.v) := HS3.out 0 _ rfl
  have c1 : w3.cell? ⟨w.heap.size, 1, none⟩ = some (.slice o1 s.n.length k1) := HS3.out 1 _ rfl
  have c2 : w3.cell? ⟨w.heap.size, 2, none⟩ = some (.slice o2 s.p.length k2) := HS3.out 2 _ rfl
  have c3 : w3.cell? ⟨w.heap.size, 3, none⟩ = some (.slice o3 s.c.length k3) := HS3.out 3 _ rfl
  go_wp2_with fail
  refine (RF.out _).mono ?_
  rintro e w4 ⟨rfl, hb⟩
  have HB4 : Hid (Below w.heap.size w w4) := HB3.out.trans (hb.mono HB3.out.size)
  have HS4 := Lib.hid (rangeAt_below hb (by omega) HS3.out)
  have HV4 := Lib.hid (rangeAt_below hb hx3 HV3.out)
  have hx4 : w.heap.size + 1 < w4.heap.size := Nat.lt_of_lt_of_le hx3 hb.size
  clear hb HB3 HS3 HV3 hx3 RF c0 c1 c2 c3
  have c0 : w4.cell? ⟨w.heap.size, 0, none⟩ = some (.int .i64 s.v) := HS4.out 0 _ rfl
  have c1 : w4.cell? ⟨w.heap.size, 1, none⟩ = some (.slice o1 s.n.length k1) := HS4.out 1 _ rfl
  have c2 : w4.cell? ⟨w.heap.size, 2, none⟩ = some (.slice o2 s.p.length k2) := HS4.out 2 _ rfl
  have c3 : w4.cell? ⟨w.heap.size, 3, none⟩ = some (.slice o3 s.c.length k3) := HS4.out 3 _ rfl
  cases fw
  case false =>
    go_wp2
    go_ret
    exact ⟨rfl, HB4.out⟩
  cases vl
  case false =>
    go_wp2
    go_ret
    exact ⟨rfl, HB4.out⟩
  by_cases hz : s.c.length = 0
  · have hz1 : ((s.c.length : Int) == 0) = true := beq_iff_eq.2 (by omega)
    go_wp2
    go_ret
    exact ⟨rfl, HB4.out⟩
  have hz1 : ((s.c.length : Int) == 0) = false := beq_eq_false_iff_ne.2 (by omega)
  have hz2 : ¬ ((s.c.length : Int) = 0) := by omega
  have hw1 : IntKind.i64.wrap a = a := IntWalk.i64_in _ (by omega)
  have htm : a.tmod (s.c.length : Int) = a % (s.c.length : Int) := by rw [Int.tmod_eq_emod_of_nonneg ha.1]
  obtain ⟨j, hjm, hjl⟩ : ∃ j : Nat, a % (s.c.length : Int) = j ∧ j < s.c.length := ⟨(a % (s.c.length : Int)).toNat, (Int.toNat_of_nonneg (Int.emod_nonneg _ hz2)).symm, by have := Int.emod_lt_of_pos a (show 0 < (s.c.length : Int) by omega); have := Int.emod_nonneg a hz2; omega⟩
  have hkw : wrap64 (1 + (j : Int)) = 1 + (j : Int) := by unfold wrap64; omega
  have FR := Lib.hid (free_any s ⟨o1, k1, o2, k2, o3, k3⟩ (1 + (j : Int)) (by omega) w4 (HS.out.below HB4.out))
  dsimp only [Sc.cells] at FR
  go_wp2_with fail
  refine FR.out.mono ?_
  rintro e w5 ⟨hb, hcase⟩
  have HB5 : Hid (Below w.heap.size w w5) := HB4.out.trans (hb.mono HB4.out.size)
  have HS5 := Lib.hid (rangeAt_below hb (by omega) HS4.out)
  have HV5 := Lib.hid (rangeAt_below hb hx4 HV4.out)
  have hx5 : w.heap.size + 1 < w5.heap.size := Nat.lt_of_lt_of_le hx4 hb.size
  clear hb HB4 HS4 HV4 hx4 FR c0 c1 c2 c3
  have c0 : w5.cell? ⟨w.heap.size, 0, none⟩ = some (.int .i64 s.v) := HS5.out 0 _ rfl
  have c1 : w5.cell? ⟨w.heap.size, 1, none⟩ = some (.slice o1 s.n.length k1) := HS5.out 1 _ rfl
  have c2 : w5.cell? ⟨w.heap.size, 2, none⟩ = some (.slice o2 s.p.length k2) := HS5.out 2 _ rfl
  have c3 : w5.cell? ⟨w.heap.size, 3, none⟩ = some (.slice o3 s.c.length k3) := HS5.out 3 _ rfl
  have BR := Lib.hid (brokens_any s ⟨o1, k1, o2, k2, o3, k3⟩ os sh ks w5 (HS.out.below HB5.out) (HSH.out.below HB5.out) hl (HLG.out.below HB5.out))
  dsimp only [Sc.cells] at BR
  rcases hcase with ⟨hn, rfl⟩ | ⟨hv, j', c, n0, bb, hkj, hc, rfl, hbb⟩
  · have hnv : ¬ validOk s := fun hh => hn ⟨hh, by omega, by omega⟩
    have HNV := Lib.hid hnv
    clear hn hnv
    go_wp2_with fail
    refine BR.out.mono ?_
    rintro e w6 ⟨hb, ⟨_, rfl⟩ | ⟨hk, _⟩ | ⟨hk, _⟩⟩
    · have HB6 := Lib.hid hb
      clear hb
      go_wp2
      go_ret
      exact ⟨rfl, HB5.out.trans (HB6.out.mono HB5.out.size)⟩
    · exact absurd hk.1 HNV.out
    · exact absurd hk.1 HNV.out
  · have HVA := Lib.hid hv
    have HKJ := Lib.hid hkj
    have HCC := Lib.hid hc
    have HFA := Lib.hid hbb
    clear hv hkj hc hbb
    go_wp2_with fail
    refine BR.out.mono ?_
    rintro e w6 ⟨hb, ⟨_, rfl⟩ | ⟨_, _, rfl⟩ | ⟨hok, xs, lc, o, kb, hx, hch, rfl, hrow, hst⟩⟩
    · have HB6 := Lib.hid hb
      clear hb
      go_wp2
      go_ret
      exact ⟨rfl, HB5.out.trans (HB6.out.mono HB5.out.size)⟩
    · have HB6 := Lib.hid hb
      clear hb
      go_wp2
      go_ret
      exact ⟨rfl, HB5.out.trans (HB6.out.mono HB5.out.size)⟩
    · have HB6 : Hid (Below w.heap.size w w6) := HB5.out.trans (hb.mono HB5.out.size)
      have HS6 := Lib.hid (rangeAt_below hb (by omega) HS5.out)
      have HV6 := Lib.hid (rangeAt_below hb hx5 HV5.out)
      have hx6 : w.heap.size + 1 < w6.heap.size := Nat.lt_of_lt_of_le hx5 hb.size
      have HOK := Lib.hid hok
      have HX := Lib.hid hx
      have HCH := Lib.hid hch
      have HROW := Lib.hid hrow
      have HST := Lib.hid hst
      clear hb hok hx hch hrow hst HB5 HS5 HV5 hx5 BR c0 c1 c2 c3
      cases bb
      case false =>
        go_wp2
        go_ret
        exact ⟨rfl, HB6.out⟩
      have HF := Lib.hid (HFA.out rfl)
      have HSZ : Aside (s.n.length ≤ 200 ∧ s.p.length ≤ 400 ∧ s.c.length < 16) := HVA.out.1.2.2
      have hsl : sh.length ≤ 16 := by have := HOK.out.2.1; have := HSZ.out.2.2; omega
      have HBA : Hid (Below w6.heap.size w6 (w6.alloc (.cells #[] 29))) := (Below.refl _ w6).alloc (Nat.le_refl _) _
      have hown : OwnV (w6.alloc (.cells #[] 29)) w6.heap.size (.slice (some ⟨w6.heap.size, 0, none⟩) 0 0) [] := ⟨rfl, .inr ⟨w6.heap.size, 0, #[], rfl, Nat.le_refl _, heap_alloc_new w6 _, Nat.le_refl _, by unfold maxLen; omega, rfl, rfl⟩⟩
      obtain ⟨v', w7, hrun, hown7, hgr, hne⟩ := app_rowsV (w6.alloc (.cells #[] 29)) w6.heap.size 27 (.slice (some ⟨w6.heap.size, 0, none⟩) 0 0) os sh ks hown (by simp) (HSH.out.below (HB6.out.trans (HBA.out.mono HB6.out.size))) HNIL.out (by omega) (by simp)
      obtain ⟨g, cap, hv', hgb, hgrow⟩ := hown7.grow hne
      subst hv'
      have HB7 : Hid (Below w6.heap.size w6 w7) := HBA.out.grown hgr (by simp) (fun b e => by injection e with e; rw [← e]; exact Nat.le_refl _)
      have HRUN := Lib.hid hrun
      have HG := Lib.hid hgrow
      have HGB := Lib.hid hgb
      clear hown hrun hown7 hgr hne hgrow hgb
      go_wp2_with (at_builtin; refine wpList_append_run _ rfl (.tmp 79) (.tmp 80) 27 rfl HRUN.out ?_)
      go_loopw [17] (fun i wr => ∃ (n : Nat) (l : List Vc), i = .int .i64 n ∧ j + 1 ≤ n ∧ (n ≤ sh.length ∨ n = j + 1) ∧ Hid (Mid (j + 1) n ⟨v0, v1, v2, v3, v4, v5⟩ sh l) ∧ Hid (GRow 29 6 Vc.cells wr g cap l) ∧ Hid (Below w6.heap.size w6 wr)) (fun i _ => sh.length - (intOf i).toNat)
      case atStart => exact ⟨j + 1, sh, by rw [show ((j + 1 : Nat) : Int) = 1 + (j : Int) by omega], Nat.le_refl _, .inr rfl, Lib.hid (mid_start _ _ _), HG, HB7⟩
      case round =>
        obtain ⟨n, l, rfl, hjn, hns, HMI, HGR, HBR⟩ := hrel
        by_cases hlt : n < sh.length
        · obtain ⟨x, hx⟩ := get_of_lt hlt
          have HXX := Lib.hid hx
          have hxl : x.lim 48 := HOK.out.2.2 x (mem_of_get hx)
          have hdl : (⟨v0, v1, v2, v3, v4, v5⟩ : Vc).lim 48 := of_decide_eq_true HVL.out
          have PL := Lib.hid (fun W => plus_any x ⟨v0, v1, v2, v3, v4, v5⟩ W (lim_mono (by decide) hxl) (lim_mono (by decide) hdl))
          have HXR := Lib.hid (HGR.out.range (mid_at HMI.out hx))
          have HVR := Lib.hid (rangeAt_below HBR.out hx6 HV6.out)
          have hgw : g < wr.heap.size := HGR.out.lt
          have hxw : w.heap.size + 1 < wr.heap.size := Nat.lt_of_lt_of_le hx6 HBR.out.size
          have hll : l.length = sh.length := HMI.out.1
          obtain ⟨r, hr⟩ : ∃ q, x.add ⟨v0, v1, v2, v3, v4, v5⟩ 1 = q := ⟨_, rfl⟩
          rw [hr] at PL
          have HMS := Lib.hid (hr ▸ mid_step HMI.out hjn hx)
          have hlt' : (n : Int) < (sh.length : Int) := by omega
          clear hx hxl hr
          obtain ⟨x0, x1, x2, x3, x4, x5⟩ := x
          obtain ⟨r0, r1, r2, r3, r4, r5⟩ := r
          dsimp only [Vc.cells] at PL HXR
          go_wp2_with fail
          apply wp_drawn_var (acts := [7, 9]) (need := [[0, 1, 2, 3, 4, 5, 6, 8], [0, 1, 2, 3, 4, 8], []]) (β := Unit)
            (vs := fun _ => [.slice (some ⟨g, 0, none⟩) sh.length cap, .int .i64 n, .slice (some ⟨g, 0, none⟩) sh.length cap, .int .i64 n, .pointer (some ⟨g, n * 6, none⟩), .agg #[.int .i64 x0, .int .i64 x1, .int .i64 x2, .int .i64 x3, .int .i64 x4, .int .i64 x5], .agg #[.int .i64 v0, .int .i64 v1, .int .i64 v2, .int .i64 v3, .int .i64 v4, .int .i64 v5], .agg #[.int .i64 r0, .int .i64 r1, .int .i64 r2, .int .i64 r3, .int .i64 r4, .int .i64 r5], .pointer (some ⟨g, n * 6, none⟩), undef])
            (R := fun k _ W => (k = 0 ∧ W = wr.drew) ∨ (k = 1 ∧ Below wr.heap.size wr W) ∨ (k = 2 ∧ ∃ W1, Below wr.heap.size wr W1 ∧ W = W1.setCells g (n * 6) (Vc.cells ⟨r0, r1, r2, r3, r4, r5⟩)))
          case haf =>
            intro q
            simp only [putAll, Act.put, List.setIfInBounds_toArray, List.set_cons_succ, List.set_cons_zero]
            exact rfl
          case hm => kernel_rfl
          case hnd => kernel_rfl
          case hck => kernel_rfl
          case h0 => exact ⟨(), .inl ⟨rfl, rfl⟩⟩
          case hreads =>
            rintro k _ W (⟨rfl, rfl⟩ | ⟨rfl, hb'⟩ | ⟨rfl, _⟩)
            · have q0 : wr.cell? ⟨g, n * 6, none⟩ = some (.int .i64 x0) := HXR.out 0 _ rfl
              have q1 : wr.cell? ⟨g, n * 6 + 1, none⟩ = some (.int .i64 x1) := HXR.out 1 _ rfl
              have q2 : wr.cell? ⟨g, n * 6 + 2, none⟩ = some (.int .i64 x2) := HXR.out 2 _ rfl
              have q3 : wr.cell? ⟨g, n * 6 + 3, none⟩ = some (.int .i64 x3) := HXR.out 3 _ rfl
              have q4 : wr.cell? ⟨g, n * 6 + 4, none⟩ = some (.int .i64 x4) := HXR.out 4 _ rfl
              have q5 : wr.cell? ⟨g, n * 6 + 5, none⟩ = some (.int .i64 x5) := HXR.out 5 _ rfl
              have d0 : wr.cell? ⟨w.heap.size + 1, 0, none⟩ = some (.int .i64 v0) := HVR.out 0 _ rfl
              have d1 : wr.cell? ⟨w.heap.size + 1, 1, none⟩ = some (.int .i64 v1) := HVR.out 1 _ rfl
              have d2 : wr.cell? ⟨w.heap.size + 1, 2, none⟩ = some (.int .i64 v2) := HVR.out 2 _ rfl
              have d3 : wr.cell? ⟨w.heap.size + 1, 3, none⟩ = some (.int .i64 v3) := HVR.out 3 _ rfl
              have d4 : wr.cell? ⟨w.heap.size + 1, 4, none⟩ = some (.int .i64 v4) := HVR.out 4 _ rfl
              have d5 : wr.cell? ⟨w.heap.size + 1, 5, none⟩ = some (.int .i64 v5) := HVR.out 5 _ rfl
              clear HS HSH HNIL HLG HVL HVA HKJ HCC HFA HB6 HS6 HV6 HOK HX HCH HROW HST HF HSZ HBA HB7 HRUN HG HGB HMI HGR HBR HXX PL HXR HVR hdl
              refine ⟨?_, ?_, ?_, ?_, ?_, ?_, ?_, ?_, trivial⟩
              all_goals (show Sem.run _ _ _ = _; go_simp)
            · clear hb'
              clear HS HSH HNIL HLG HVL HVA HKJ HCC HFA HB6 HS6 HV6 HOK HX HCH HROW HST HF HSZ HBA HB7 HRUN HG HGB HMI HGR HBR HXX PL HXR HVR hdl
              refine ⟨?_, ?_, ?_, ?_, ?_, ?_, trivial⟩
              all_goals (show Sem.run _ _ _ = _; go_simp)
            · exact trivial
          case hacts =>
            refine ⟨?_, ?_, trivial⟩
            · rintro _ W (⟨_, rfl⟩ | ⟨h, _⟩ | ⟨h, _⟩)
              · refine ActV.call 10 #[.agg #[.int .i64 x0, .int .i64 x1, .int .i64 x2, .int .i64 x3, .int .i64 x4, .int .i64 x5], .agg #[.int .i64 v0, .int .i64 v1, .int .i64 v2, .int .i64 v3, .int .i64 v4, .int .i64 v5]] ?_ ((PL.out _).mono ?_)
                · clear HS HSH HNIL HLG HVL HVA HKJ HCC HFA HB6 HS6 HV6 HOK HX HCH HROW HST HF HSZ HBA HB7 HRUN HG HGB HMI HGR HBR HXX PL HXR HVR hdl
                  go_simp
                · rintro e w' ⟨rfl, hb⟩
                  exact ⟨_, (), rfl, rfl, .inr (.inl ⟨rfl, (Below.refl _ wr).drew.trans hb⟩)⟩
              all_goals exact absurd h (by simp)
            · rintro _ W (⟨h, _⟩ | ⟨_, hb'⟩ | ⟨h, _⟩)
              · exact absurd h (by simp)
              · refine ActV.store _ (exec_store_mid 29 (.tmp 97) (.tmp 96) rfl g (n * 6) #[.int .i64 r0, .int .i64 r1, .int .i64 r2, .int .i64 r3, .int .i64 r4, .int .i64 r5] rfl rfl ((HGR.out.of (hb'.block g hgw)).there (i := n) (by rw [hll]; exact hlt)) (by kernel_rfl) (by kernel_rfl)) rfl (.inr (.inr ⟨rfl, W, hb', rfl⟩))
              · exact absurd h (by simp)
          case hQ =>
            rintro _ W (⟨h, _⟩ | ⟨h, _⟩ | ⟨_, W1, hb', rfl⟩)
            · exact absurd h (by simp)
            · exact absurd h (by simp)
            · have hgr2 := (HGR.out.of (hb'.block g hgw)).store Vc.len (i := n) (by rw [hll]; exact hlt) ⟨r0, r1, r2, r3, r4, r5⟩
              have hbr2 : Below w6.heap.size w6 (W1.setCells g (n * 6) (Vc.cells ⟨r0, r1, r2, r3, r4, r5⟩)) := below_cells _ HGB.out _ _ (HBR.out.trans (hb'.mono HBR.out.size))
              have HN1 := Lib.hid hgr2
              have HN2 := Lib.hid hbr2
              clear hgr2 hbr2 hb'
              generalize World.setCells W1 g _ _ = W9 at *
              go_wp2
              exact ⟨⟨n + 1, _, by go_num, by omega, .inl (by omega), HMS, HN1, HN2⟩, by simp only [intOf]; omega⟩
        · have HS8 := Lib.hid (rangeAt_below HBR.out (by omega) HS6.out)
          have HB8 : Hid (Below w.heap.size w wr) := HB6.out.trans (HBR.out.mono HB6.out.size)
          have BR := Lib.hid (brokens_any s ⟨o1, k1, o2, k2, o3, k3⟩ (some ⟨g, 0, none⟩) l cap wr (HS.out.below HB8.out) HGR.out.rowAt (by rw [HMI.out.1]; omega) (HLG.out.below HB8.out))
          rw [HMI.out.1] at BR
          dsimp only [Sc.cells] at BR
          have c0 : wr.cell? ⟨w.heap.size, 0, none⟩ = some (.int .i64 s.v) := HS8.out 0 _ rfl
          have c1 : wr.cell? ⟨w.heap.size, 1, none⟩ = some (.slice o1 s.n.length k1) := HS8.out 1 _ rfl
          have c2 : wr.cell? ⟨w.heap.size, 2, none⟩ = some (.slice o2 s.p.length k2) := HS8.out 2 _ rfl
          have c3 : wr.cell? ⟨w.heap.size, 3, none⟩ = some (.slice o3 s.c.length k3) := HS8.out 3 _ rfl
          have hd1 : decide ((n : Int) < (sh.length : Int)) = false := by simp; omega
          go_wp2_with fail
          refine BR.out.mono ?_
          rintro e w9 ⟨hb, ⟨_, rfl⟩ | ⟨_, _, rfl⟩ | ⟨hok, ys, lc2, o', kb2, hy, hch2, rfl, hrow2, hst2⟩⟩
          · have HB9 := Lib.hid hb
            clear hb
            go_wp2
            go_ret
            exact ⟨rfl, HB8.out.trans (HB9.out.mono HB8.out.size)⟩
          · have HB9 := Lib.hid hb
            clear hb
            go_wp2
            go_ret
            exact ⟨rfl, HB8.out.trans (HB9.out.mono HB8.out.size)⟩
          · have HB9 : Hid (Below w.heap.size w w9) := HB8.out.trans (hb.mono HB8.out.size)
            have hb69 : Below w6.heap.size w6 w9 := HBR.out.trans (hb.mono HBR.out.size)
            have hlen : ∀ (zs : List Vc) (q : List ChL), q.map ChL.c = chainsOf s zs → q.length ≤ 10000 ∧ ∀ z ∈ q, z.c.s.length ≤ 10000 := fun zs q hq => by
              have h1 : q.length = (chainsOf s zs).length := by rw [← hq]; simp
              have h2 := chains_len s zs
              have h3 := HSZ.out
              refine ⟨by omega, fun z hz => ?_⟩
              obtain ⟨p, _, hp⟩ := chains_mem (s := s) (xs := zs) (c := z.c) (by rw [← hq]; exact List.mem_map_of_mem hz)
              rw [hp]
              have := way_len s p.a p.b
              omega
            have h1 := hlen xs lc HCH.out
            have h2 := hlen ys lc2 hch2
            have hjj : j' = j := by have := HKJ.out; omega
            have hm := mid_end HMI.out (by omega)
            have heq : lc.map ChL.c = lc2.map ChL.c := by
              rw [HCH.out, hch2]
              exact free_law HVA.out HF.out HCC.out (hjj ▸ hm) HX.out hy
            have SC := same_chains o o' lc lc2 kb kb2 w9 (HROW.out.below hb69) hrow2 (fun z hz => ⟨(HST.out z hz).below hb69, h1.2 z hz⟩) (fun z hz => ⟨hst2 z hz, h2.2 z hz⟩) h1.1 h2.1
            rw [decide_eq_true heq] at SC
            have SCC := Lib.hid SC
            clear hb hb69 hlen h1 h2 hm heq SC hy hch2 hrow2 hst2 hok hjj
            go_wp2_with (go_at_call 11; refine SCC.out.mono ?_; rintro e w10 ⟨rfl, m, rfl⟩)
            go_ret
            exact ⟨rfl, HB9.out.trans ((below_drewN w9 m).mono HB9.out.size)⟩
end Go.Sc
