/- edition.part. -/
import Derived.Test.YtjpbfggfoahoeaaGreatDoorScX
import Derived.Deep.AppendLies
import Derived.Deep.CutRange
namespace Go.Sc
open Go.RowKit Go.Proofs

/-- How many notes are in the part. -/
def nOf (s : Sc) (k : Nat) : Nat := match s.c[k]? with
  | some c => (s.n.takeWhile (fun x => decide (x.fr < c))).length
  | none => s.n.length
/-- The part of a score. -/
def partS (s : Sc) (k : Nat) : Sc := ⟨s.v, s.n.take (nOf s k), s.p.filter (fun p => decide (p.b < nOf s k)), s.c.take k⟩
theorem begins_len {c : Int} : ∀ {l : List Nt} {n : Nat}, BeginsAt l c n → (l.takeWhile (fun x => decide (x.fr < c))).length = n
  | [], n, h => by have := h.1; simp at this; simp [this]
  | x :: l, 0, h => by
    have := h.2.2 0 x (Nat.le_refl _) rfl
    rw [List.takeWhile_cons, if_neg (by simpa using this)]
    rfl
  | x :: l, n + 1, h => by
    have := h.2.1 0 x (by omega) rfl
    rw [List.takeWhile_cons, if_pos (by simpa using this), List.length_cons, begins_len (l := l) (n := n) ⟨by have := h.1; simp at this; omega, fun i y hi hy => h.2.1 (i + 1) y (by omega) (by simpa using hy), fun i y hi hy => h.2.2 (i + 1) y (by omega) (by simpa using hy)⟩]
theorem nOf_ge {s : Sc} {k : Nat} (h : s.c.length ≤ k) : nOf s k = s.n.length := by
  unfold nOf
  rw [List.getElem?_eq_none h]
theorem nOf_le (s : Sc) (k : Nat) : nOf s k ≤ s.n.length := by
  unfold nOf
  split
  · exact (List.takeWhile_sublist _).length_le
  · exact Nat.le_refl _
theorem nOf_first {s : Sc} {k n : Nat} {er : Int} (h : FirstIs s ((k : Int) + 1) n er) (hv : validOk s) (hk : k < s.c.length) : n = nOf s k := by
  rcases h with ⟨h1, _, _⟩ | ⟨_, _, h | h | ⟨j, c, hj, hc, hb⟩⟩
  · exact absurd ⟨hv, by omega, by omega⟩ h1
  · omega
  · omega
  · have : j = k := by omega
    subst this
    unfold nOf
    rw [hc]
    exact (begins_len hb).symm
/-- Cells in a row, element by element. -/
theorem flat_at {α : Type} {size : Nat} {cells : α → List Value} (hc : ∀ x, (cells x).length = size) : ∀ (l : List α) (k j : Nat) (x : α) (u : Value), l[k]? = some x → (cells x)[j]? = some u → (l.flatMap cells)[k * size + j]? = some u
  | [], k, _, _, _, h, _ => by simp at h
  | y :: l, 0, j, x, u, h, hu => by
    simp at h
    subst h
    have hj := (List.getElem?_eq_some_iff.1 hu).1
    rw [List.flatMap_cons, List.getElem?_append_left (by omega)]
    simpa using hu
  | y :: l, k + 1, j, x, u, h, hu => by
    have hk : (k + 1) * size = size + k * size := by rw [Nat.add_mul]; omega
    rw [List.flatMap_cons, List.getElem?_append_right (by rw [hc]; omega), hc, hk, show size + k * size + j - size = k * size + j by omega]
    exact flat_at hc l k j x u (by simpa using h) hu
/-- What the call owns lies in memory. -/
theorem RowAt.own {α : Type} {size : Nat} {cells : α → List Value} (hc : ∀ x, (cells x).length = size) {w : World} {base : Nat} {e : TypeId} {v : Value} {l : List α} (h : w.ownsRow base e size v l.length (l.flatMap cells)) :
    ∃ (o : Option Addr) (cap : Nat), v = .slice o l.length cap ∧ RowAt size cells w o l := by
  rcases h.2 with ⟨hv, h0⟩ | ⟨g, cap, cur, hv, hb, hg, hrest⟩
  · refine ⟨none, 0, by rw [hv, h0], ?_⟩
    have : l = [] := List.length_eq_zero_iff.1 h0
    subst this
    intro k n hk
    simp at hk
  · refine ⟨_, cap, hv, fun k n hk => ⟨g, 0, rfl, (Array.getElem?_eq_some_iff.1 hg).1, fun j u hu => ?_⟩⟩
    have h1 := h.cells (g := g) (by rw [hv]; rfl) (k * size + j) u (flat_at hc l k j n u hk hu)
    have hadd : (⟨g, 0, none⟩ : Addr).add (k * size + j) = ⟨g, 0 + k * size + j, none⟩ := by unfold Addr.add; split <;> simp_all
    rwa [hadd] at h1
theorem RowAt.take {α : Type} {size : Nat} {cells : α → List Value} {w : World} {o : Option Addr} {l : List α} (h : RowAt size cells w o l) (n : Nat) : RowAt size cells w o (l.take n) := fun k x hk =>
  h k x (by rw [List.getElem?_take] at hk; split at hk <;> first | exact hk | cases hk)
theorem take_filter_in {n : Int} {P : List Pr} {q : Nat} {p : Pr} (h : P[q]? = some p) (hp : p.b < n) : (P.take (q + 1)).filter (fun p => decide (p.b < n)) = (P.take q).filter (fun p => decide (p.b < n)) ++ [p] := by
  rw [List.take_add_one, h, List.filter_append]
  simp [hp]
theorem take_filter_out {n : Int} {P : List Pr} {q : Nat} {p : Pr} (h : P[q]? = some p) (hp : ¬ p.b < n) : (P.take (q + 1)).filter (fun p => decide (p.b < n)) = (P.take q).filter (fun p => decide (p.b < n)) := by
  rw [List.take_add_one, h, List.filter_append]
  simp [hp]
/-- The pairs that have been taken over behind q rounds. -/
def got (n : Nat) (P : List Pr) (q : Nat) : List Pr := (P.take q).filter (fun p => decide (p.b < n))
theorem got_len (n : Nat) (P : List Pr) (q : Nat) : (got n P q).length ≤ q := by
  have h1 := List.length_filter_le (fun p : Pr => decide (p.b < n)) (P.take q)
  have h2 := List.length_take_le q P
  unfold got
  omega
/-- The pairs that the call owns. -/
def OwnP (w : World) (base : Nat) (v : Value) (l : List Pr) : Prop := w.ownsRow base 43 9 v l.length (l.flatMap Pr.cells)
theorem info43 : (Tryz.prog.info? 43).map (fun i => (i.zero, i.size, i.bytes)) = some (some (.agg #[.int .i64 0, .int .i64 0, .int .i64 0, .int .i64 0, .int .i64 0, .int .i64 0, .int .i64 0, .int .i64 0, .int .i64 0]), 9, 72) := by kernel_rfl
/-- The part under way, in the block A: its fields. -/
def OutAt (wr : World) (A : Nat) (V : Int) (b c d : Value) : Prop := wr.cell? ⟨A, 0, none⟩ = some (.int .i64 V) ∧ wr.cell? ⟨A, 1, none⟩ = some b ∧ wr.cell? ⟨A, 2, none⟩ = some c ∧ wr.cell? ⟨A, 3, none⟩ = some d ∧ wr.frozen? ⟨A, 1, none⟩ = false ∧ wr.frozen? ⟨A, 2, none⟩ = false
theorem cell_two {wr : World} {o1 o2 : Obj} {p : Addr} (h : p.block < wr.heap.size) : ((wr.alloc o1).alloc o2).cell? p = wr.cell? p :=
  (((Below.refl wr.heap.size wr).alloc (Nat.le_refl _) o1).alloc (by simp) o2).cell h
theorem frozen_two {wr : World} {o1 o2 : Obj} {p : Addr} (h : p.block < wr.heap.size) : ((wr.alloc o1).alloc o2).frozen? p = wr.frozen? p :=
  (((Below.refl wr.heap.size wr).alloc (Nat.le_refl _) o1).alloc (by simp) o2).frozen h
abbrev Z26 : Obj := .cells #[.int .i64 0, .slice none 0 0, .slice none 0 0, .slice none 0 0] 26
/-- The capacities. -/
def CapOk (s : Sc) (y : Lay) : Prop := s.n.length ≤ y.k1 ∧ s.c.length ≤ y.k3
set_option maxRecDepth 100000 in
set_option maxHeartbeats 8000000 in
theorem part_any (s : Sc) (y : Lay) (k : Nat) (hk : k ≤ 140737488351232) (w : World) (h : ScAt w s y) (hc : CapOk s y) (hv : validOk s) :
    Calls Tryz.prog 48 #[.agg (s.cells y), .int .i64 k] w (fun e w' => ∃ y', e = .returned (.agg ((partS s k).cells y')) ∧ ScAt w' (partS s k) y' ∧ Below w.heap.size w w') := by
  obtain ⟨V, N, P, C⟩ := s
  obtain ⟨o1, k1, o2, k2, o3, k3⟩ := y
  have hC : C.length ≤ 140737488351232 := h.2.2.2.2.2
  have hNl : N.length ≤ 140737488351232 := h.2.2.2.1
  have hc1 : N.length ≤ k1 := hc.1
  have hc3 : C.length ≤ k3 := hc.2
  have HS : Hid (ScAt w ⟨V, N, P, C⟩ ⟨o1, k1, o2, k2, o3, k3⟩) := h
  have HV := Lib.hid hv
  clear h hv hc
  show Calls Tryz.prog 48 #[.agg #[.int .i64 V, .slice o1 N.length k1, .slice o2 P.length k2, .slice o3 C.length k3], .int .i64 k] w _
  obtain ⟨m, hm1, hm2⟩ : ∃ m : Nat, (∀ W, (Builtin.min_ #[3, 3] 3 #[.int .i64 k, .int .i64 C.length]).run Tryz.prog W = .ok (.int .i64 m) W) ∧ m = min k C.length := by
    refine ⟨min k C.length, fun W => ?_, rfl⟩
    simp only [Builtin.min_, Builtin.min2, List.foldlM_cons, List.foldlM_nil, Sem.run_bind, Sem.run_pure, Result.andThen_ok]
    congr 2
    split <;> omega
  have HM := Lib.hid hm2
  have m1 : (0 : Int) ≤ m := by omega
  have m2 : (m : Int) ≤ k3 := by omega
  clear hm2
  have q5 : ((m : Int)).toNat = m := by omega
  go_enter Tryz.func48, Tryz.ntmps48
  go_upto_region 1 with (fail)
  go_cut [5] from 10 to 22 (fun o wx => o = .pointer (some ⟨w.heap.size + 1 + 1, 0, none⟩) ∧ wx = (((w.alloc (.cells #[.int .i64 V, .slice o1 N.length k1, .slice o2 P.length k2, .slice o3 C.length k3] 26)).alloc (.cells #[.int .i64 0, .slice none 0 0, .slice none 0 0, .slice none 0 0] 26)).alloc (.cells #[.int .i64 V, .slice o1 N.length k1, .slice none 0 0, .slice o3 m k3] 26)).drew)
  case first =>
    go_region_held3 (fun W => W.cell? ⟨w.heap.size, 0, none⟩ = some (.int .i64 V) ∧ W.cell? ⟨w.heap.size, 1, none⟩ = some (.slice o1 N.length k1) ∧ W.cell? ⟨w.heap.size, 3, none⟩ = some (.slice o3 C.length k3)) (go_keep) (fail)
    all_goals go_wp2_with fail
    all_goals go_meet
    all_goals exact ⟨rfl, rfl⟩
  case rest =>
    obtain ⟨rfl, rfl⟩ := hcut
    go_upto_if 27 with (fail)
    go_cut [5] from 6 to 39 (fun o wx => o = .pointer (some ⟨w.heap.size + 1 + 1, 0, none⟩) ∧ Hid (OutAt wx (w.heap.size + 1 + 1) V (.slice o1 (nOf ⟨V, N, P, C⟩ k) k1) (.slice none 0 0) (.slice o3 m k3)) ∧ Hid (Below (w.heap.size + 2) ((w.alloc (.cells #[.int .i64 V, .slice o1 N.length k1, .slice o2 P.length k2, .slice o3 C.length k3] 26)).alloc Z26) wx) ∧ w.heap.size + 3 ≤ wx.heap.size)
    case first =>
      have hB0 : Below w.heap.size w (((w.alloc (.cells #[.int .i64 V, .slice o1 N.length k1, .slice o2 P.length k2, .slice o3 C.length k3] 26)).alloc (.cells #[.int .i64 0, .slice none 0 0, .slice none 0 0, .slice none 0 0] 26)).alloc (.cells #[.int .i64 V, .slice o1 N.length k1, .slice none 0 0, .slice o3 m k3] 26)).drew :=
        ((((Below.refl _ w).alloc (Nat.le_refl _) _).alloc (by simp) _).alloc (by simp; omega) _).drew
      have HB0 := Lib.hid hB0
      clear hB0
      go_wp2_with fail
      · have hlt : k < C.length := by omega
        refine (first_any ⟨V, N, P, C⟩ ⟨o1, k1, o2, k2, o3, k3⟩ _ (by omega) _ (HS.out.below HB0.out)).mono ?_
        rintro e w' ⟨n, er, hF, rfl, hb2⟩
        have hn := nOf_first hF HV.out hlt
        have hnl : n ≤ N.length := by rw [hn]; exact nOf_le _ _
        have HN := Lib.hid hn
        have HB2 := Lib.hid hb2
        have hz2 : w.heap.size + 3 ≤ w'.heap.size := by have := hb2.size; simp at this; omega
        have c1 : w'.cell? ⟨w.heap.size, 1, none⟩ = some (.slice o1 N.length k1) := ((bcell hb2).1 _ _ (by simp; omega)).trans (by go_simp)
        have d0 : w'.cell? ⟨w.heap.size + 1 + 1, 0, none⟩ = some (.int .i64 V) := ((bcell hb2).1 _ _ (by simp)).trans (by go_simp)
        have d1 : w'.cell? ⟨w.heap.size + 1 + 1, 1, none⟩ = some (.slice o1 N.length k1) := ((bcell hb2).1 _ _ (by simp)).trans (by go_simp)
        have d2 : w'.cell? ⟨w.heap.size + 1 + 1, 2, none⟩ = some (.slice none 0 0) := ((bcell hb2).1 _ _ (by simp)).trans (by go_simp)
        have d3 : w'.cell? ⟨w.heap.size + 1 + 1, 3, none⟩ = some (.slice o3 m k3) := ((bcell hb2).1 _ _ (by simp)).trans (by go_simp)
        have f1 : w'.frozen? ⟨w.heap.size + 1 + 1, 1, none⟩ = false := ((bcell hb2).2 _ _ (by simp)).trans (by go_simp)
        have f2 : w'.frozen? ⟨w.heap.size + 1 + 1, 2, none⟩ = false := ((bcell hb2).2 _ _ (by simp)).trans (by go_simp)
        have n0 : (0 : Int) ≤ n := by omega
        have n1 : (n : Int) ≤ k1 := by omega
        have n2 : ((n : Int)).toNat = n := by omega
        clear hF hn hb2
        go_wp2_with fail
        all_goals go_meet
        refine ⟨rfl, ⟨by go_simp, by rw [← HN.out]; go_simp, by go_simp, by go_simp, by go_simp, by go_simp⟩, ((((Below.refl _ _).alloc (by simp) _).drew).trans (HB2.out.mono (by simp))).setCell (by simp) _, by simp; omega⟩
      · have hlt : C.length ≤ k := by omega
        go_meet
        refine ⟨rfl, ⟨by go_simp, by rw [nOf_ge (s := ⟨V, N, P, C⟩) hlt]; go_simp, by go_simp, by go_simp, by go_simp, by go_simp⟩, ((Below.refl _ _).alloc (by simp) _).drew, by simp⟩
    case rest =>
      obtain ⟨rfl, HO, HB, hz⟩ := hcut
      obtain ⟨n, hn⟩ : ∃ n, nOf ⟨V, N, P, C⟩ k = n := ⟨_, rfl⟩
      rw [hn] at HO
      have HN := Lib.hid hn
      clear hn
      have hP : P.length ≤ 400 := by
        have h1 : sizesOk V N.length P.length C.length := HV.out.1
        unfold sizesOk at h1
        omega
      have b2 : wc.cell? ⟨w.heap.size, 2, none⟩ = some (.slice o2 P.length k2) := (HB.out.cell (p := ⟨w.heap.size, 2, none⟩) (by simp)).trans (by go_simp)
      go_wp2_with fail
      clear b2
      obtain ⟨i0, hi, hz0, hz1, hz2⟩ := info_parts info43
      have HI := Lib.hid hi
      have HI0 := Lib.hid hz0
      have HI1 := Lib.hid hz1
      have HI2 := Lib.hid hz2
      clear hi hz0 hz1 hz2
      go_loopw [43] (fun i wr => ∃ (q : Nat) (ov : Option Addr) (cv : Nat), q ≤ P.length ∧ i = .int .i64 q ∧ Hid (OwnP wr (w.heap.size + 3) (.slice ov (got n P q).length cv) (got n P q)) ∧ Hid (OutAt wr (w.heap.size + 1 + 1) V (.slice o1 n k1) (.slice ov (got n P q).length cv) (.slice o3 m k3)) ∧ Hid (Below (w.heap.size + 2) ((w.alloc (.cells #[.int .i64 V, .slice o1 N.length k1, .slice o2 P.length k2, .slice o3 C.length k3] 26)).alloc Z26) wr) ∧ w.heap.size + 3 ≤ wr.heap.size) (fun i _ => P.length - (intOf i).toNat)
      case atStart => exact ⟨0, none, 0, by omega, rfl, World.ownsRow_nil _ _ _ _, HO, HB, hz⟩
      case round =>
        obtain ⟨q, ov, cv, hq, rfl, HW, HO2, HB2, hz3⟩ := hrel
        clear HO HB hz
        have HBw : Hid (Below w.heap.size w wr) := below_two HB2.out
        obtain ⟨d0, d1, d2, d3, f1, f2⟩ := HO2.out
        have hz4 : w.heap.size + 1 + 1 < wr.heap.size := by omega
        by_cases hlt : q < P.length
        · obtain ⟨⟨pa, pb, w0, w1, w2, w3, w4, w5, bd⟩, hn⟩ := get_of_lt hlt
          obtain ⟨b, off, rfl, hb, hr⟩ := HS.out.2.1 q _ hn
          have hr2 : Hid (wr.rangeAt b (off + q * 9) [.int .i64 pa, .int .i64 pb, .int .i64 w0, .int .i64 w1, .int .i64 w2, .int .i64 w3, .int .i64 w4, .int .i64 w5, .int .i64 bd]) := rangeAt_below HBw.out hb hr
          have HNN : Hid (P[q]? = some ⟨pa, pb, w0, w1, w2, w3, w4, w5, bd⟩) := hn
          clear hn hr
          by_cases hp : pb < n
          · have hpd : decide (pb < (n : Int)) = true := by simpa using hp
            have hlen := got_len n P q
            have hnews : Hid (∀ j u, [.int .i64 pa, .int .i64 pb, .int .i64 w0, .int .i64 w1, .int .i64 w2, .int .i64 w3, .int .i64 w4, .int .i64 w5, .int .i64 bd][j]? = some u → ((wr.alloc (.cells #[.int .i64 pa, .int .i64 pb, .int .i64 w0, .int .i64 w1, .int .i64 w2, .int .i64 w3, .int .i64 w4, .int .i64 w5, .int .i64 bd] 43)).alloc (.cells #[.int .i64 pa, .int .i64 pb, .int .i64 w0, .int .i64 w1, .int .i64 w2, .int .i64 w3, .int .i64 w4, .int .i64 w5, .int .i64 bd] 43)).cell? ((⟨wr.heap.size + 1, 0, none⟩ : Addr).add j) = some u) := by
              have h := World.alloc_heap_new' (wr.alloc (.cells #[.int .i64 pa, .int .i64 pb, .int .i64 w0, .int .i64 w1, .int .i64 w2, .int .i64 w3, .int .i64 w4, .int .i64 w5, .int .i64 bd] 43)) (.cells #[.int .i64 pa, .int .i64 pb, .int .i64 w0, .int .i64 w1, .int .i64 w2, .int .i64 w3, .int .i64 w4, .int .i64 w5, .int .i64 bd] 43)
              rw [World.size_alloc] at h
              exact World.news_of_block h
            go_wp2_with (first
              | (refine wpList_load_mid rfl 43 (.tmp 45) rfl b (off + q * 9) rfl _ _ hr2.out Tryz.underlying43 rfl (by kernel_rfl) ?_)
              | (refine wpList_append_lies _ rfl (.tmp 54) (.tmp 56) 23 rfl (w.heap.size + 3) 43 i0 (.agg #[.int .i64 0, .int .i64 0, .int .i64 0, .int .i64 0, .int .i64 0, .int .i64 0, .int .i64 0, .int .i64 0, .int .i64 0]) 9 72 Tryz.underlying23 HI.out HI0.out HI1.out HI2.out rfl (by decide) (.slice ov (got n P q).length cv) (got n P q).length _ rfl ((HW.out.alloc _).alloc _) ⟨wr.heap.size + 1, 0, none⟩ 1 1 [.int .i64 pa, .int .i64 pb, .int .i64 w0, .int .i64 w1, .int .i64 w2, .int .i64 w3, .int .i64 w4, .int .i64 w5, .int .i64 bd] rfl rfl hnews.out (by simp [Value.oneCell']) (by decide) (by unfold maxLen; omega) (by omega) (by simp; omega) _ rfl ?_; intro g cap W9 hown1 hgrow hat hglt; clear hat; have hne : some (w.heap.size + 1 + 1) ≠ (Value.slice ov (got n P q).length cv).ownBlock := (fun e => by have := (HW.out.lt _ e.symm).1; omega); have D0 : W9.cell? ⟨w.heap.size + 1 + 1, 0, none⟩ = some (.int .i64 V) := (hgrow.cell_far _ (by simp; omega) hne).trans ((cell_two (p := ⟨w.heap.size + 1 + 1, 0, none⟩) hz4).trans d0); have D1 : W9.cell? ⟨w.heap.size + 1 + 1, 1, none⟩ = some (.slice o1 n k1) := (hgrow.cell_far _ (by simp; omega) hne).trans ((cell_two (p := ⟨w.heap.size + 1 + 1, 1, none⟩) hz4).trans d1); have D2 : W9.cell? ⟨w.heap.size + 1 + 1, 2, none⟩ = some (.slice ov (got n P q).length cv) := (hgrow.cell_far _ (by simp; omega) hne).trans ((cell_two (p := ⟨w.heap.size + 1 + 1, 2, none⟩) hz4).trans d2); have D3 : W9.cell? ⟨w.heap.size + 1 + 1, 3, none⟩ = some (.slice o3 m k3) := (hgrow.cell_far _ (by simp; omega) hne).trans ((cell_two (p := ⟨w.heap.size + 1 + 1, 3, none⟩) hz4).trans d3); have F1 : W9.frozen? ⟨w.heap.size + 1 + 1, 1, none⟩ = false := (hgrow.frozen_far _ (by simp; omega) hne).trans ((frozen_two (p := ⟨w.heap.size + 1 + 1, 1, none⟩) hz4).trans f1); have F2 : W9.frozen? ⟨w.heap.size + 1 + 1, 2, none⟩ = false := (hgrow.frozen_far _ (by simp; omega) hne).trans ((frozen_two (p := ⟨w.heap.size + 1 + 1, 2, none⟩) hz4).trans f2); have HG := Lib.hid hgrow; have HO1 := Lib.hid hown1; clear hgrow hown1))
            go_roundw
            case rel =>
              have E : got n P (q + 1) = got n P q ++ [⟨pa, pb, w0, w1, w2, w3, w4, w5, bd⟩] := take_filter_in HNN.out hp
              have HS1 := HG.out.size
              refine ⟨q + 1, some ⟨g, 0, none⟩, cap, by omega, by go_num, ?_, ⟨by go_simp, by go_simp, by rw [E]; go_simp, by go_simp, by go_simp, by go_simp⟩, (((HB2.out.alloc (by omega) _).alloc (by simp; omega) _).grown HG.out (by simp; omega) (fun b e => by have := (HW.out.lt _ e).1; omega)).setCell (by simp) _, by simp at HS1 ⊢; omega⟩
              have := ownsRow_setCell_below HO1.out (a := ⟨w.heap.size + 1 + 1, 2, none⟩) (by simp) (.slice (some ⟨g, 0, none⟩) ((got n P q).length + 1) cap)
              show World.ownsRow _ _ _ _ _ _ _
              rw [E, List.length_append, List.flatMap_append]
              simp only [List.length_singleton, List.flatMap_cons, List.flatMap_nil, List.append_nil]
              exact this
            case measure => simp [intOf]; omega
          · have hpd : decide (pb < (n : Int)) = false := by simpa using hp
            go_wp2_with (refine wpList_load_mid rfl 43 (.tmp 45) rfl b (off + q * 9) rfl _ _ hr2.out Tryz.underlying43 rfl (by kernel_rfl) ?_)
            go_roundw
            case rel =>
              have E : got n P (q + 1) = got n P q := take_filter_out HNN.out hp
              refine ⟨q + 1, ov, cv, by omega, by go_num, ?_, ?_, HB2.out.alloc (by omega) _, by simp; omega⟩
              · have := HW.out.alloc (.cells #[.int .i64 pa, .int .i64 pb, .int .i64 w0, .int .i64 w1, .int .i64 w2, .int .i64 w3, .int .i64 w4, .int .i64 w5, .int .i64 bd] 43)
                show World.ownsRow _ _ _ _ _ _ _
                rw [E]
                exact this
              · exact ⟨by go_simp, by go_simp, by rw [E]; go_simp, by go_simp, by go_simp, by go_simp⟩
            case measure => simp [intOf]; omega
        · have t0 : wr.cell? ⟨w.heap.size + 1, 0, none⟩ = some (.int .i64 0) := (HB2.out.cell (p := ⟨w.heap.size + 1, 0, none⟩) (by simp)).trans (by go_simp)
          have t1 : wr.cell? ⟨w.heap.size + 1, 1, none⟩ = some (.slice none 0 0) := (HB2.out.cell (p := ⟨w.heap.size + 1, 1, none⟩) (by simp)).trans (by go_simp)
          have t2 : wr.cell? ⟨w.heap.size + 1, 2, none⟩ = some (.slice none 0 0) := (HB2.out.cell (p := ⟨w.heap.size + 1, 2, none⟩) (by simp)).trans (by go_simp)
          have t3 : wr.cell? ⟨w.heap.size + 1, 3, none⟩ = some (.slice none 0 0) := (HB2.out.cell (p := ⟨w.heap.size + 1, 3, none⟩) (by simp)).trans (by go_simp)
          have g0 : wr.frozen? ⟨w.heap.size + 1, 0, none⟩ = false := (HB2.out.frozen (p := ⟨w.heap.size + 1, 0, none⟩) (by simp)).trans (by go_simp)
          have g1 : wr.frozen? ⟨w.heap.size + 1, 1, none⟩ = false := (HB2.out.frozen (p := ⟨w.heap.size + 1, 1, none⟩) (by simp)).trans (by go_simp)
          have g2 : wr.frozen? ⟨w.heap.size + 1, 2, none⟩ = false := (HB2.out.frozen (p := ⟨w.heap.size + 1, 2, none⟩) (by simp)).trans (by go_simp)
          have g3 : wr.frozen? ⟨w.heap.size + 1, 3, none⟩ = false := (HB2.out.frozen (p := ⟨w.heap.size + 1, 3, none⟩) (by simp)).trans (by go_simp)
          go_wp2_with fail
          have hkl : q = P.length := by omega
          subst hkl
          have hgot : got n P P.length = (partS ⟨V, N, P, C⟩ k).p := by
            show (P.take P.length).filter _ = P.filter _
            rw [List.take_length, HN.out]
          have HW4 := ownsRow_setCell_below (ownsRow_setCell_below (ownsRow_setCell_below (ownsRow_setCell_below HW.out (a := ⟨w.heap.size + 1, 0, none⟩) (by simp) (.int .i64 V)) (a := ⟨w.heap.size + 1, 1, none⟩) (by simp) (.slice o1 n k1)) (a := ⟨w.heap.size + 1, 2, none⟩) (by simp) (.slice ov (got n P P.length).length cv)) (a := ⟨w.heap.size + 1, 3, none⟩) (by simp) (.slice o3 m k3)
          have HB4 := (((HBw.out.setCell (p := ⟨w.heap.size + 1, 0, none⟩) (by simp) (.int .i64 V)).setCell (p := ⟨w.heap.size + 1, 1, none⟩) (by simp) (.slice o1 n k1)).setCell (p := ⟨w.heap.size + 1, 2, none⟩) (by simp) (.slice ov (got n P P.length).length cv)).setCell (p := ⟨w.heap.size + 1, 3, none⟩) (by simp) (.slice o3 m k3)
          obtain ⟨o2', k2', hv, hrow⟩ := RowAt.own (cells := Pr.cells) (fun _ => rfl) HW4
          cases hv
          refine bodyPost_ret (v := .agg #[.int .i64 V, .slice o1 n k1, .slice ov (got n P P.length).length cv, .slice o3 m k3]) (by simp [results, Tryz.results48, go_sem, t0, t1, t2, t3]) rfl ⟨⟨o1, k1, ov, cv, o3, k3⟩, ?_, ?_, ?_⟩
          · have e1 : (N.take (nOf ⟨V, N, P, C⟩ k)).length = n := by rw [HN.out, List.length_take]; have := nOf_le ⟨V, N, P, C⟩ k; rw [HN.out] at this; exact Nat.min_eq_left this
            have e3 : (C.take k).length = m := by rw [HM.out, List.length_take]
            show _ = Ending.returned (.agg #[.int .i64 V, .slice o1 (N.take (nOf ⟨V, N, P, C⟩ k)).length k1, .slice ov (partS ⟨V, N, P, C⟩ k).p.length cv, .slice o3 (C.take k).length k3])
            rw [e1, e3, ← hgot]
          · refine ⟨(HS.out.1.below HB4).take _, hgot ▸ hrow, (HS.out.2.2.1.below HB4).take _, ?_, ?_, ?_⟩
            · have := nOf_le ⟨V, N, P, C⟩ k
              show (N.take _).length ≤ _
              rw [List.length_take]
              omega
            · rw [← hgot]
              have := got_len n P P.length
              omega
            · show (C.take k).length ≤ _
              rw [List.length_take]
              omega
          · exact HB4
end Go.Sc
