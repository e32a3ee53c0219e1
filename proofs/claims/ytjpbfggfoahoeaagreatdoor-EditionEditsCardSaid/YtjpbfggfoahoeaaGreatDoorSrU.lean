/- Go's stable sort brings back a pair that was left out and put behind: for up to 30 pairs by reckoning with places. What the edits make of a score: the plain laws of EditionLate and EditionEdits. The section in which a note begins: schismaref19.Of, and the law's own function. -/
import Derived.Test.YtjpbfggfoahoeaaGreatDoorSrJ
import Derived.Test.YtjpbfggfoahoeaaGreatDoorSrN
import Derived.Test.YtjpbfggfoahoeaaGreatDoorScT
namespace Go.So
def ltN (i j : Nat) : Bool := Nat.blt i j
/-- Of n places, place k is left out, then put behind. -/
def back (n k : Nat) : Bool := stable ltN (stable ltN ((List.range n).eraseIdx k) ++ [k]) == List.range n
def backs (n : Nat) : Bool := (List.range n).all (back n)
set_option maxRecDepth 1000000
theorem backs_00 : backs 0 = true := by kernel_rfl
theorem backs_01 : backs 1 = true := by kernel_rfl
theorem backs_02 : backs 2 = true := by kernel_rfl
theorem backs_03 : backs 3 = true := by kernel_rfl
theorem backs_04 : backs 4 = true := by kernel_rfl
theorem backs_05 : backs 5 = true := by kernel_rfl
theorem backs_06 : backs 6 = true := by kernel_rfl
theorem backs_07 : backs 7 = true := by kernel_rfl
theorem backs_08 : backs 8 = true := by kernel_rfl
theorem backs_09 : backs 9 = true := by kernel_rfl
theorem backs_10 : backs 10 = true := by kernel_rfl
theorem backs_11 : backs 11 = true := by kernel_rfl
theorem backs_12 : backs 12 = true := by kernel_rfl
theorem backs_13 : backs 13 = true := by kernel_rfl
theorem backs_14 : backs 14 = true := by kernel_rfl
theorem backs_15 : backs 15 = true := by kernel_rfl
theorem backs_16 : backs 16 = true := by kernel_rfl
theorem backs_17 : backs 17 = true := by kernel_rfl
theorem backs_18 : backs 18 = true := by kernel_rfl
theorem backs_19 : backs 19 = true := by kernel_rfl
theorem backs_20 : backs 20 = true := by kernel_rfl
theorem backs_21 : backs 21 = true := by kernel_rfl
theorem backs_22 : backs 22 = true := by kernel_rfl
theorem backs_23 : backs 23 = true := by kernel_rfl
theorem backs_24 : backs 24 = true := by kernel_rfl
theorem backs_25 : backs 25 = true := by kernel_rfl
theorem backs_26 : backs 26 = true := by kernel_rfl
theorem backs_27 : backs 27 = true := by kernel_rfl
theorem backs_28 : backs 28 = true := by kernel_rfl
theorem backs_29 : backs 29 = true := by kernel_rfl
theorem backs_30 : backs 30 = true := by kernel_rfl
theorem backs_all : ∀ n : Nat, n ≤ 30 → backs n = true
  | 0, _ => backs_00
  | 1, _ => backs_01
  | 2, _ => backs_02
  | 3, _ => backs_03
  | 4, _ => backs_04
  | 5, _ => backs_05
  | 6, _ => backs_06
  | 7, _ => backs_07
  | 8, _ => backs_08
  | 9, _ => backs_09
  | 10, _ => backs_10
  | 11, _ => backs_11
  | 12, _ => backs_12
  | 13, _ => backs_13
  | 14, _ => backs_14
  | 15, _ => backs_15
  | 16, _ => backs_16
  | 17, _ => backs_17
  | 18, _ => backs_18
  | 19, _ => backs_19
  | 20, _ => backs_20
  | 21, _ => backs_21
  | 22, _ => backs_22
  | 23, _ => backs_23
  | 24, _ => backs_24
  | 25, _ => backs_25
  | 26, _ => backs_26
  | 27, _ => backs_27
  | 28, _ => backs_28
  | 29, _ => backs_29
  | 30, _ => backs_30
  | n + 31, h => by omega
theorem back_all {n k : Nat} (hn : n ≤ 30) (hk : k < n) : stable ltN (stable ltN ((List.range n).eraseIdx k) ++ [k]) = List.range n := by
  have h := List.all_eq_true.1 (backs_all n hn) k (List.mem_range.2 hk)
  exact eq_of_beq h
theorem erase_map {α β : Type} (f : α → β) : ∀ (l : List α) (k : Nat), (l.map f).eraseIdx k = (l.eraseIdx k).map f
  | [], _ => rfl
  | _ :: _, 0 => rfl
  | x :: l, k + 1 => by rw [List.map_cons, List.eraseIdx_cons_succ, erase_map f l k, List.eraseIdx_cons_succ, List.map_cons]
theorem map_val_inj {n : Nat} : ∀ (l r : List (Fin n)), l.map Fin.val = r.map Fin.val → l = r
  | [], [], _ => rfl
  | [], _ :: _, h => by simp at h
  | _ :: _, [], h => by simp at h
  | x :: l, y :: r, h => by
    rw [List.map_cons, List.map_cons, List.cons.injEq] at h
    rw [Fin.ext h.1, map_val_inj l r h.2]
/-- The same at any list whose order is that of the places. -/
theorem stable_back {α : Type} (lt : α → α → Bool) (l : List α) (hl : ∀ (i j : Nat) (x y : α), l[i]? = some x → l[j]? = some y → lt x y = decide (i < j)) (hn : l.length ≤ 30) {k : Nat} {p : α} (hp : l[k]? = some p) :
    stable lt (stable lt (l.eraseIdx k) ++ [p]) = l := by
  have hk : k < l.length := (List.getElem?_eq_some_iff.1 hp).1
  have hf : (List.finRange l.length).map l.get = l := by
    refine List.ext_getElem (by simp) fun i h1 h2 => by simp
  have he : l.eraseIdx k = ((List.finRange l.length).eraseIdx k).map l.get := by rw [← erase_map, hf]
  have hlt : (fun i j : Fin l.length => lt (l.get i) (l.get j)) = fun i j : Fin l.length => ltN i.val j.val := by
    funext i j
    have h0 := hl i.val j.val (l.get i) (l.get j) (List.getElem?_eq_getElem i.isLt) (List.getElem?_eq_getElem j.isLt)
    rw [h0]
    show decide (i.val < j.val) = Nat.blt i.val j.val
    rw [Bool.eq_iff_iff]
    simp [Nat.blt_eq]
  have hg : p = l.get ⟨k, hk⟩ := by
    have := List.getElem?_eq_some_iff.1 hp
    exact this.2.symm
  have h1 : stable lt (stable lt (l.eraseIdx k) ++ [p]) = (stable (fun i j : Fin l.length => ltN i.val j.val) (stable (fun i j : Fin l.length => ltN i.val j.val) ((List.finRange l.length).eraseIdx k) ++ [⟨k, hk⟩])).map l.get := by
    rw [he, map_stable l.get lt, hlt, hg, ← List.map_singleton (f := l.get), ← List.map_append, map_stable l.get lt, hlt]
  have h2 : (stable (fun i j : Fin l.length => ltN i.val j.val) (stable (fun i j : Fin l.length => ltN i.val j.val) ((List.finRange l.length).eraseIdx k) ++ [⟨k, hk⟩])).map Fin.val = (List.finRange l.length).map Fin.val := by
    rw [← map_stable Fin.val ltN, List.map_append, ← map_stable Fin.val ltN, ← erase_map, show (List.finRange l.length).map Fin.val = List.range l.length from List.ext_getElem (by simp) fun i h1 h2 => by simp]
    exact back_all hn hk
  rw [h1, map_val_inj _ _ h2, hf]
end Go.So

/-! What the edits make of a score: the plain laws of EditionLate and EditionEdits. -/
namespace Go.Sc
open Go.RowKit Go.Proofs

theorem ltP_trans {a b c : Pr} (h : ltP a b) (k : ltP b c) : ltP a c := by unfold ltP at *; omega
theorem ltP_asymm {a b : Pr} (h : ltP a b) (k : ltP b a) : False := by unfold ltP at *; omega
/-- A rising list rises from each element to each later one. -/
theorem rising_all {α : Type} {lt : α → α → Prop} (ht : ∀ a b c, lt a b → lt b c → lt a c) {l : List α} (h : rising lt l) : ∀ (i j : Nat) (a b : α), i < j → l[i]? = some a → l[j]? = some b → lt a b := by
  intro i j
  induction j with
  | zero => intro a b hij; omega
  | succ j ih =>
    intro a b hij ha hb
    rcases Nat.lt_or_ge i j with h1 | h1
    · obtain ⟨c, hc⟩ := get_of_lt (l := l) (k := j) (by have := (List.getElem?_eq_some_iff.1 hb).1; omega)
      exact ht _ _ _ (ih a c h1 ha hc) (h j c b hc hb)
    · have : i = j := by omega
      subst this
      exact h i a b ha hb
theorem rising_pairwise {α : Type} {lt : α → α → Prop} (ht : ∀ a b c, lt a b → lt b c → lt a c) {l : List α} (h : rising lt l) : l.Pairwise lt := by
  rw [List.pairwise_iff_getElem]
  intro i j hi hj hij
  exact rising_all ht h i j _ _ hij (List.getElem?_eq_getElem hi) (List.getElem?_eq_getElem hj)
theorem perm_pairs {l r : List Pr} (hp : l.Perm r) (hl : l.Pairwise ltP) (hr : r.Pairwise ltP) : l = r :=
  hp.eq_of_pairwise (fun _ _ _ _ h k => (ltP_asymm h k).elim) hl hr

/-- How many cadences are not behind a tick. -/
def ofI (c : List Int) (t : Int) : Int := ((c.filter (fun x => decide (x ≤ t))).length : Int)
/-- The section in which a note begins. -/
def secI (s : Sc) (n : Int) : Int := if 0 ≤ n ∧ n < s.n.length then (match s.n[n.toNat]? with | some x => ofI s.c x.fr | none => 100) else 100
theorem filter_get {t : Int} : ∀ {c : List Int}, c.Pairwise ltI → ∀ {j : Nat}, (j : Int) < ofI c t → ∃ x, c[j]? = some x ∧ x ≤ t
  | [], _, j, h => by simp [ofI] at h; omega
  | a :: c, hp, j, h => by
    obtain ⟨h1, h2⟩ := List.pairwise_cons.1 hp
    by_cases ha : a ≤ t
    · cases j with
      | zero => exact ⟨a, rfl, ha⟩
      | succ j =>
        refine filter_get (j := j) h2 ?_
        unfold ofI at h ⊢
        rw [List.filter_cons_of_pos (by simpa using ha), List.length_cons] at h
        omega
    · exfalso
      have : (a :: c).filter (fun x => decide (x ≤ t)) = [] := List.filter_eq_nil_iff.2 (fun x hx => by
        rcases List.mem_cons.1 hx with rfl | hx
        · simpa using ha
        · have := h1 x hx
          unfold ltI at this
          simp; omega)
      unfold ofI at h
      rw [this] at h
      simp at h
      omega
theorem ofI_le (c : List Int) (t : Int) : ofI c t ≤ c.length := by
  have := List.length_filter_le (fun x : Int => decide (x ≤ t)) c
  unfold ofI
  omega
theorem cad_pairwise {s : Sc} (h : validOk s) : s.c.Pairwise ltI := rising_pairwise (fun a b c => by unfold ltI; omega) h.2.2.2.2.2
theorem while_le {α : Type} {p : α → Bool} : ∀ {l : List α} {n : Nat} {x : α}, l[n]? = some x → p x = false → (l.takeWhile p).length ≤ n
  | [], n, x, h, _ => by simp
  | a :: l, 0, x, h, hp => by
    simp at h
    subst h
    rw [List.takeWhile_cons, if_neg (by rw [hp]; decide)]
    exact Nat.le_refl _
  | a :: l, n + 1, x, h, hp => by
    rw [List.takeWhile_cons]
    split
    · rw [List.length_cons]
      have := while_le (l := l) (n := n) (by simpa using h) hp
      omega
    · exact Nat.zero_le _
theorem while_set {α : Type} {p : α → Bool} : ∀ {l : List α} {n : Nat} {x y : α}, l[n]? = some x → p x = false → p y = false → (l.set n y).takeWhile p = l.takeWhile p
  | [], n, x, y, h, _, _ => by simp at h
  | a :: l, 0, x, y, h, hp, hq => by
    simp at h
    subst h
    rw [List.set_cons_zero, List.takeWhile_cons, List.takeWhile_cons, if_neg (by rw [hq]; decide), if_neg (by rw [hp]; decide)]
  | a :: l, n + 1, x, y, h, hp, hq => by
    rw [List.set_cons_succ, List.takeWhile_cons, List.takeWhile_cons, while_set (by simpa using h) hp hq]
theorem take_while {α : Type} (p : α → Bool) : ∀ (l : List α), l.take (l.takeWhile p).length = l.takeWhile p
  | [] => rfl
  | a :: l => by
    rw [List.takeWhile_cons]
    split
    · rw [List.length_cons, List.take_succ_cons, take_while p l]
    · rfl
/-- Before the section in which it begins, a note is not counted. -/
theorem nOf_late {s : Sc} (hv : validOk s) {n : Nat} {x : Nt} (hx : s.n[n]? = some x) {j : Nat} (hj : (j : Int) < ofI s.c x.fr) : nOf s j ≤ n := by
  obtain ⟨c, hc, hle⟩ := filter_get (cad_pairwise hv) hj
  unfold nOf
  rw [hc]
  exact while_le hx (decide_eq_false (by omega))
theorem sec_some {s : Sc} {n : Int} {x : Nt} (h0 : 0 ≤ n) (hx : s.n[n.toNat]? = some x) : secI s n = ofI s.c x.fr := by
  unfold secI
  rw [if_pos ⟨h0, by have := (List.getElem?_eq_some_iff.1 hx).1; omega⟩, hx]
/-- Parts that agree up to a section keep First from it. -/
theorem FirstE.least {a b : Sc} {k : Int} (h : FirstE a b k 0) {K : Int} (hK : K ≤ 1000) (hp : ∀ j : Nat, (j : Int) < K → partS a j = partS b j) : K ≤ farI k := by
  rcases h with ⟨h1, h2, h3⟩ | ⟨h1, h2, h3, ⟨h4, h5⟩ | ⟨n, h4, h5, h6, h7⟩⟩
  · omega
  · unfold farI
    rw [if_pos (by omega)]
    exact hK
  · unfold farI
    rw [if_neg (by omega), h4]
    rcases Int.lt_or_le (n : Int) K with h | h
    · exact absurd (hp n h) h6
    · exact h
/-- The pairs that a part keeps. -/
theorem part_pairs {s : Sc} {q : List Pr} {j : Nat} (hs : rising ltP s.p) (hy : rising ltP (So.stable ltQ q)) (hq : q.filter (fun p : Pr => decide (p.b < (nOf s j : Int))) = s.p.filter (fun p : Pr => decide (p.b < (nOf s j : Int)))) :
    partS s j = partS ⟨s.v, s.n, So.stable ltQ q, s.c⟩ j := by
  have hn : nOf ⟨s.v, s.n, So.stable ltQ q, s.c⟩ j = nOf s j := rfl
  unfold partS
  rw [hn]
  have h1 : ((So.stable ltQ q).filter (fun p : Pr => decide (p.b < (nOf s j : Int)))).Perm (s.p.filter (fun p : Pr => decide (p.b < (nOf s j : Int)))) := by
    rw [← hq]
    exact (So.perm_stable ltQ q).filter _
  rw [perm_pairs h1.symm ((rising_pairwise (lt := ltP) (fun _ _ _ => ltP_trans) hs).filter _) ((rising_pairwise (lt := ltP) (fun _ _ _ => ltP_trans) hy).filter _)]
theorem set_filter {α : Type} (f : α → Bool) : ∀ {l : List α} {i : Nat} {x y : α}, l[i]? = some x → f x = false → f y = false → (l.set i y).filter f = l.filter f
  | [], i, x, y, h, _, _ => by simp at h
  | a :: l, 0, x, y, h, hp, hq => by
    simp at h
    subst h
    rw [List.set_cons_zero, List.filter_cons_of_neg (by rw [hq]; decide), List.filter_cons_of_neg (by rw [hp]; decide)]
  | a :: l, i + 1, x, y, h, hp, hq => by
    rw [List.set_cons_succ, List.filter_cons, List.filter_cons, set_filter f (by simpa using h) hp hq]
theorem erase_filter {α : Type} (f : α → Bool) : ∀ {l : List α} {i : Nat} {x : α}, l[i]? = some x → f x = false → (l.eraseIdx i).filter f = l.filter f
  | [], i, x, h, _ => by simp at h
  | a :: l, 0, x, h, hp => by
    simp at h
    subst h
    rw [List.eraseIdx_cons_zero, List.filter_cons_of_neg (by rw [hp]; decide)]
  | a :: l, i + 1, x, h, hp => by
    rw [List.eraseIdx_cons_succ, List.filter_cons, List.filter_cons, erase_filter f (by simpa using h) hp]
theorem stable_rising {s : Sc} (hs : rising ltP s.p) (hy : rising ltP (So.stable ltQ s.p)) : So.stable ltQ s.p = s.p :=
  perm_pairs (So.perm_stable ltQ s.p) (rising_pairwise (lt := ltP) (fun _ _ _ => ltP_trans) hy) (rising_pairwise (lt := ltP) (fun _ _ _ => ltP_trans) hs)
theorem notb {s : Sc} (hv : validOk s) {p : Pr} (hp : pairOk s.n p) {j : Nat} (hj : (j : Int) < secI s p.b) : decide (p.b < (nOf s j : Int)) = false := by
  have h0 : 0 ≤ p.b := by have := hp.1; have := hp.2.1; omega
  obtain ⟨x, hx⟩ := get_of_lt (l := s.n) (k := p.b.toNat) (by have := hp.2.2.1; omega)
  rw [sec_some h0 hx] at hj
  have := nOf_late hv hx hj
  exact decide_eq_false (by omega)
theorem sec_le {s : Sc} (hv : validOk s) (n : Int) : secI s n ≤ 1000 := by
  unfold secI
  split
  · split
    · have h1 := ofI_le s.c
      have := valid_c hv
      rename_i x _
      have := h1 x.fr
      omega
    · omega
  · omega

/-- What the law EditionLate claims of an edit that left a valid score. -/
def Late (s y : Sc) (x : Ed) (k : Int) : Prop :=
  if x.k = 1 then min (secI s x.i) (secI y x.i) ≤ farI k
  else if x.k = 2 then (∃ p, 0 ≤ x.i ∧ s.p[x.i.toNat]? = some p ∧ min (secI s p.b) (secI s x.p.b) ≤ farI k)
  else if x.k = 3 then (∃ p, 0 ≤ x.i ∧ s.p[x.i.toNat]? = some p ∧ secI s p.b ≤ farI k)
  else x.k = 4 ∧ min 100 (secI s x.p.b) ≤ farI k
theorem late_law {s y y0 : Sc} {x : Ed} {k : Int} (hs : validOk s) (hy : validOk y) (he : editF s x = some y0) (hsort : sortF y0 = y) (hf : FirstE s y k 0) : Late s y x k := by
  subst hsort
  unfold editF at he
  unfold Late
  by_cases h1 : x.k = 1
  · rw [if_pos h1] at he ⊢
    split at he
    case isFalse => cases he
    rename_i hi
    obtain rfl := Option.some.inj he
    obtain ⟨z, hz⟩ := get_of_lt (l := s.n) (k := x.i.toNat) (by omega)
    have hz2 : (sortF ⟨s.v, s.n.set x.i.toNat x.n, s.p, s.c⟩).n[x.i.toNat]? = some x.n := by
      show (s.n.set x.i.toNat x.n)[x.i.toNat]? = _
      rw [List.getElem?_set_self (by omega)]
    rw [sec_some hi.1 hz, sec_some hi.1 hz2]
    show min (ofI s.c z.fr) (ofI s.c x.n.fr) ≤ _
    have hst : So.stable ltQ s.p = s.p := stable_rising hs.2.2.2.1.2 hy.2.2.2.1.2
    refine hf.least (by have := ofI_le s.c z.fr; have := valid_c hs; omega) fun j hj => ?_
    obtain ⟨c, hc, hle⟩ := filter_get (cad_pairwise hs) (show (j : Int) < ofI s.c z.fr by omega)
    obtain ⟨c', hc', hle'⟩ := filter_get (cad_pairwise hs) (show (j : Int) < ofI s.c x.n.fr by omega)
    rw [hc] at hc'
    cases hc'
    have hw : (s.n.set x.i.toNat x.n).takeWhile (fun z : Nt => decide (z.fr < c)) = s.n.takeWhile (fun z : Nt => decide (z.fr < c)) := while_set hz (decide_eq_false (by omega)) (decide_eq_false (by omega))
    have n1 : nOf s j = (s.n.takeWhile (fun z : Nt => decide (z.fr < c))).length := by unfold nOf; rw [hc]
    have n2 : nOf (sortF ⟨s.v, s.n.set x.i.toNat x.n, s.p, s.c⟩) j = (s.n.takeWhile (fun z : Nt => decide (z.fr < c))).length := by
      unfold nOf
      show (match s.c[j]? with | some c => ((s.n.set x.i.toNat x.n).takeWhile (fun z : Nt => decide (z.fr < c))).length | none => _) = _
      rw [hc]
      exact congrArg List.length hw
    unfold partS
    rw [n1, n2]
    show _ = (⟨s.v, (s.n.set x.i.toNat x.n).take _, (So.stable ltQ s.p).filter _, s.c.take j⟩ : Sc)
    rw [hst, take_while]
    have := take_while (fun z : Nt => decide (z.fr < c)) (s.n.set x.i.toNat x.n)
    rw [hw] at this
    rw [this]
  · rw [if_neg h1] at he ⊢
    have key : ∀ (q : List Pr), y0 = ⟨s.v, s.n, q, s.c⟩ → ∀ K : Int, K ≤ 1000 → (∀ j : Nat, (j : Int) < K → q.filter (fun p : Pr => decide (p.b < (nOf s j : Int))) = s.p.filter (fun p : Pr => decide (p.b < (nOf s j : Int)))) → K ≤ farI k := by
      intro q hq K hK hfil
      subst hq
      exact hf.least hK fun j hj => part_pairs hs.2.2.2.1.2 hy.2.2.2.1.2 (hfil j hj)
    have mem : ∀ (q : List Pr), y0 = ⟨s.v, s.n, q, s.c⟩ → ∀ p ∈ q, pairOk s.n p := by
      intro q hq p hp
      subst hq
      exact hy.2.2.2.1.1 p ((So.perm_stable ltQ q).mem_iff.2 hp)
    by_cases h2 : x.k = 2
    · rw [if_pos h2] at he ⊢
      split at he
      case isFalse => cases he
      rename_i hi
      have hy0 := (Option.some.inj he).symm
      obtain ⟨p, hp⟩ := get_of_lt (l := s.p) (k := x.i.toNat) (by omega)
      have o1 := hs.2.2.2.1.1 p (mem_of_get hp)
      have o2 := mem _ hy0 x.p (List.mem_iff_getElem?.2 ⟨x.i.toNat, by rw [List.getElem?_set_self (by omega)]⟩)
      refine ⟨p, hi.1, hp, key _ hy0 _ (by have := sec_le hs p.b; omega) fun j hj => set_filter _ hp (notb hs o1 (by omega)) (notb hs o2 (by omega))⟩
    · rw [if_neg h2] at he ⊢
      by_cases h3 : x.k = 3
      · rw [if_pos h3] at he ⊢
        split at he
        case isFalse => cases he
        rename_i hi
        have hy0 := (Option.some.inj he).symm
        obtain ⟨p, hp⟩ := get_of_lt (l := s.p) (k := x.i.toNat) (by omega)
        have o1 := hs.2.2.2.1.1 p (mem_of_get hp)
        refine ⟨p, hi.1, hp, key _ hy0 _ (by have := sec_le hs p.b; omega) fun j hj => erase_filter _ hp (notb hs o1 (by omega))⟩
      · rw [if_neg h3] at he ⊢
        split at he
        case isFalse => cases he
        rename_i h4
        have hy0 := (Option.some.inj he).symm
        have o2 := mem _ hy0 x.p (by simp)
        refine ⟨h4, key _ hy0 _ (by have := sec_le hs x.p.b; omega) fun j hj => ?_⟩
        rw [List.filter_append, List.filter_cons_of_neg (by rw [notb hs o2 (by omega)]; decide)]
        simp

/-- What edition.Apply answers: the score, the error. -/
def zeroSc : Sc := ⟨0, [], [], []⟩
def ApplyE (s : Sc) (l : List Ed) (r : Sc) (er : Int) : Prop :=
  (¬ (validOk s ∧ l.length ≤ 200 ∧ (editsF s l).isSome) ∧ r = zeroSc ∧ er = 1) ∨
  (validOk s ∧ l.length ≤ 200 ∧ ∃ s', editsF s l = some s' ∧ ((validOk s' ∧ r = s' ∧ er = 0) ∨ (¬ validOk s' ∧ r = zeroSc ∧ er = 6)))
theorem ApplyE.unique {s : Sc} {l : List Ed} {r r' : Sc} {er er' : Int} (h : ApplyE s l r er) (h' : ApplyE s l r' er') : r = r' ∧ er = er' := by
  rcases h with ⟨h1, h2, h3⟩ | ⟨h1, h2, s', h3, h4⟩ <;> rcases h' with ⟨g1, g2, g3⟩ | ⟨g1, g2, t', g3, g4⟩
  · exact ⟨by rw [h2, g2], by omega⟩
  · exact absurd ⟨g1, g2, by rw [g3]; rfl⟩ h1
  · exact absurd ⟨h1, h2, by rw [h3]; rfl⟩ g1
  · rw [h3] at g3
    cases g3
    rcases h4 with ⟨a, b, c⟩ | ⟨a, b, c⟩ <;> rcases g4 with ⟨a', b', c'⟩ | ⟨a', b', c'⟩
    · exact ⟨by rw [b, b'], by omega⟩
    · exact absurd a a'
    · exact absurd a' a
    · exact ⟨by rw [b, b'], by omega⟩
/-- Without edits: the score, if it is valid. -/
theorem ApplyE.none {s r : Sc} {er : Int} (h : ApplyE s [] r er) : (¬ validOk s ∧ er = 1) ∨ (validOk s ∧ r = s ∧ er = 0) := by
  rcases h with ⟨h1, h2, h3⟩ | ⟨h1, h2, s', h3, h4⟩
  · exact .inl ⟨fun h => h1 ⟨h, by simp, rfl⟩, h3⟩
  · simp only [editsF, Option.some.injEq] at h3
    subst h3
    rcases h4 with ⟨a, b, c⟩ | ⟨a, b, c⟩
    · exact .inr ⟨h1, b, c⟩
    · exact absurd h1 a
/-- Edits in two parts. -/
theorem ApplyE.parts {s x r r' : Sc} {a b : List Ed} {er er' : Int} (h : ApplyE s a x 0) (h1 : ApplyE x b r er) (h2 : ApplyE s (a ++ b) r' er') (ha : a.length ≤ 20) (hb : b.length ≤ 20) : r = r' ∧ er = er' := by
  rcases h with ⟨_, _, h3⟩ | ⟨hv, _, s', hs, ⟨h4, h5, _⟩ | ⟨_, _, h3⟩⟩
  · omega
  · subst h5
    have he : editsF s (a ++ b) = editsF x b := by rw [editsF_append, hs]; rfl
    refine ApplyE.unique h1 ?_
    unfold ApplyE at h2 ⊢
    rw [he, List.length_append] at h2
    rcases h2 with ⟨g1, g2⟩ | ⟨g1, g2, g3⟩
    · exact .inl ⟨fun g => g1 ⟨hv, by omega, g.2.2⟩, g2⟩
    · exact .inr ⟨h4, by omega, g3⟩
  · omega
/-- A pair is left out and put in again. -/
theorem ApplyE.back {s r : Sc} {er : Int} {x y : Ed} {k : Nat} {p : Pr} (hv : validOk s) (h30 : s.p.length ≤ 30) (hp : s.p[k]? = some p) (x1 : x.k = 3) (x2 : x.i = k) (y1 : y.k = 4) (y2 : y.p = p) (h : ApplyE s [x, y] r er) : r = s ∧ er = 0 := by
  have hk : k < s.p.length := (List.getElem?_eq_some_iff.1 hp).1
  have hlt : ∀ (i j : Nat) (a b : Pr), s.p[i]? = some a → s.p[j]? = some b → ltQ a b = decide (i < j) := by
    intro i j a b ha hb
    have hr := rising_all (lt := ltP) (fun _ _ _ => ltP_trans) hv.2.2.2.1.2
    have hq : ∀ a b : Pr, ltQ a b = true ↔ ltP a b := by
      intro a b
      unfold ltQ orI cmpI ltP
      rw [decide_eq_true_iff]
      repeat' split
      all_goals omega
    rcases Nat.lt_trichotomy i j with h | h | h
    · rw [decide_eq_true h]
      exact (hq a b).2 (hr i j a b h ha hb)
    · subst h
      rw [ha] at hb
      cases hb
      rw [decide_eq_false (by omega)]
      exact Bool.eq_false_iff.2 fun h => ltP_asymm ((hq a a).1 h) ((hq a a).1 h)
    · rw [decide_eq_false (by omega)]
      exact Bool.eq_false_iff.2 fun h' => ltP_asymm ((hq a b).1 h') (hr j i b a h hb ha)
  have hb := So.stable_back ltQ s.p hlt h30 hp
  have he : editsF s [x, y] = some s := by
    have e1 : editF s x = some ⟨s.v, s.n, s.p.eraseIdx k, s.c⟩ := by
      unfold editF
      rw [if_neg (by omega), if_neg (by omega), if_pos x1, if_pos (by omega), x2]
      rfl
    have e2 : editF (sortF ⟨s.v, s.n, s.p.eraseIdx k, s.c⟩) y = some ⟨s.v, s.n, So.stable ltQ (s.p.eraseIdx k) ++ [p], s.c⟩ := by
      unfold editF
      rw [if_neg (by omega), if_neg (by omega), if_neg (by omega), if_pos y1, y2]
      rfl
    rw [editsF, e1]
    simp only
    rw [editsF, e2]
    simp only [editsF, sortF]
    rw [hb]
  rcases h with ⟨h1, _⟩ | ⟨_, _, s', h3, h4⟩
  · exact absurd ⟨hv, by simp, by rw [he]; rfl⟩ h1
  · rw [he] at h3
    cases h3
    rcases h4 with ⟨_, b, c⟩ | ⟨a, _⟩
    · exact ⟨b, c⟩
    · exact absurd hv a
end Go.Sc

/-! The section in which a note begins: schismaref19.Of, and the law's own function. -/
namespace Go.Sc
open Go.RowKit Go.Proofs

theorem ofI_step {c : List Int} {t x : Int} {k : Nat} (hx : c[k]? = some x) : ofI (c.take (k + 1)) t = ofI (c.take k) t + (if x ≤ t then 1 else 0) := by
  unfold ofI
  rw [List.take_add_one, hx, List.filter_append, List.length_append]
  split
  · rename_i h
    rw [Option.toList_some, List.filter_cons_of_pos (by simpa using h)]
    simp
  · rename_i h
    rw [Option.toList_some, List.filter_cons_of_neg (by simpa using h)]
    simp
set_option maxRecDepth 100000 in
set_option maxHeartbeats 4000000 in
theorem of_any (s : Sc) (y : Lay) (t : Int) (w : World) (h : ScAt w s y) : Calls Tryz.prog 33 #[.agg (s.cells y), .int .i64 t] w fun e w' => e = .returned (.int .i64 (ofI s.c t)) ∧ Below w.heap.size w w' := by
  obtain ⟨V, N, P, C⟩ := s
  obtain ⟨o1, k1, o2, k2, o3, k3⟩ := y
  have HN : Hid (IntsAt w o3 C) := h.2.2.1
  have hl : C.length ≤ 140737488351232 := h.2.2.2.2.2
  clear h
  show Calls Tryz.prog 33 #[.agg #[.int .i64 V, .slice o1 N.length k1, .slice o2 P.length k2, .slice o3 C.length k3], .int .i64 t] w _
  dsimp only
  go_enter Tryz.func33, Tryz.ntmps33
  go_wp2
  go_loopw [5, 6] (fun c i wr => ∃ k q : Nat, k ≤ C.length ∧ q ≤ k ∧ i = .int .i64 k ∧ c = .int .i64 q ∧ Hid ((q : Int) = ofI (C.take k) t) ∧ Hid (Below (w.heap.size + 1) (w.alloc (.cells #[.int .i64 V, .slice o1 N.length k1, .slice o2 P.length k2, .slice o3 C.length k3] 26)) wr)) (fun _ i _ => C.length - (intOf i).toNat)
  case atStart => exact ⟨0, 0, by omega, by omega, rfl, rfl, (by simp [ofI] : ((0 : Nat) : Int) = ofI (C.take 0) t), (Below.refl _ _ : Below _ _ _)⟩
  case round =>
    obtain ⟨k, q, hk, hqk, rfl, rfl, HU, HB⟩ := hrel
    have c3 : wr.cell? ⟨w.heap.size, 3, none⟩ = some (.slice o3 C.length k3) := (HB.out.cell (p := ⟨w.heap.size, 3, none⟩) (by simp)).trans (by go_simp)
    have HBw : Hid (Below w.heap.size w wr) := below_loop HB.out
    by_cases hlt : k < C.length
    · obtain ⟨x, hx⟩ := get_of_lt hlt
      obtain ⟨b, off, rfl, hb, hr⟩ := HN.out k _ hx
      have HX : Hid (C[k]? = some x) := hx
      have e1 : wr.cell? ⟨b, off + k, none⟩ = some (.int .i64 x) := cell_int (rangeAt_below HBw.out hb hr)
      clear hx hr hb
      by_cases hxt : x ≤ t
      · have HS : Hid (((q + 1 : Nat) : Int) = ofI (C.take (k + 1)) t) := by
          have := HU.out
          show _ = _
          rw [ofI_step HX.out, if_pos hxt]
          omega
        go_wp2
        go_roundw
        case rel => exact ⟨k + 1, q + 1, by omega, by omega, by go_num, by go_num, HS, HB⟩
        case measure => simp [intOf]; omega
      · have HS : Hid ((q : Int) = ofI (C.take (k + 1)) t) := by
          have := HU.out
          show _ = _
          rw [ofI_step HX.out, if_neg hxt]
          omega
        go_wp2
        go_roundw
        case rel => exact ⟨k + 1, q, by omega, by omega, by go_num, rfl, HS, HB⟩
        case measure => simp [intOf]; omega
    · have hkl : k = C.length := by omega
      have HE : Hid ((q : Int) = ofI C t) := by
        have := HU.out
        rw [hkl, List.take_length] at this
        exact this
      clear hkl
      go_wp2
      go_ret
      exact ⟨by rw [HE.out]; rfl, HBw.out⟩
set_option maxRecDepth 100000 in
set_option maxHeartbeats 4000000 in
/-- The section of a note. -/
theorem section_any (s : Sc) (y : Lay) (n : Int) (w : World) (h : ScAt w s y) : Calls Tryz.prog 12 #[.agg (s.cells y), .int .i64 n] w fun e w' => e = .returned (.int .i64 (secI s n)) ∧ Below w.heap.size w w' := by
  have HA := Lib.hid h
  clear h
  obtain ⟨r, hr⟩ : ∃ r, secI s n = r := ⟨_, rfl⟩
  have HR := Lib.hid hr
  rw [hr]
  clear hr
  obtain ⟨V, N, P, C⟩ := s
  obtain ⟨o1, k1, o2, k2, o3, k3⟩ := y
  have hl : N.length ≤ 140737488351232 := HA.out.2.2.2.1
  show Calls Tryz.prog 12 #[.agg #[.int .i64 V, .slice o1 N.length k1, .slice o2 P.length k2, .slice o3 C.length k3], .int .i64 n] w _
  by_cases hneg : n < 0
  · have hd : decide (n < 0) = true := decide_eq_true hneg
    have hr := HR.out
    unfold secI at hr
    rw [if_neg (by omega)] at hr
    subst hr
    go_enter Tryz.func12, Tryz.ntmps12
    go_wp2
    go_ret
    exact ⟨rfl, (Below.refl _ _).alloc (Nat.le_refl _) _⟩
  · have hd : decide (n < 0) = false := decide_eq_false hneg
    by_cases hlt : n < (N.length : Int)
    · have hge : decide (n ≥ (N.length : Int)) = false := decide_eq_false (by omega)
      have hge2 : ¬ (N.length : Int) ≤ n := by omega
      obtain ⟨k, rfl⟩ : ∃ k : Nat, n = (k : Int) := ⟨n.toNat, by omega⟩
      obtain ⟨x, hx⟩ := get_of_lt (l := N) (k := k) (by omega)
      have hr := HR.out
      rw [sec_some (x := x) (by omega) (by simpa using hx)] at hr
      dsimp only at hr
      have HRX := Lib.hid hr
      obtain ⟨b, off, rfl, hb, hrange⟩ := HA.out.1 k _ hx
      go_enter Tryz.func12, Tryz.ntmps12
      go_wp2
      obtain ⟨W0, hW⟩ : ∃ W0, W0 = w.alloc (.cells #[.int .i64 V, .slice (some ⟨b, off, none⟩) N.length k1, .slice o2 P.length k2, .slice o3 C.length k3] 26) := ⟨_, rfl⟩
      rw [← hW]
      have hB : Below w.heap.size w W0 := by rw [hW]; exact (Below.refl _ _).alloc (Nat.le_refl _) _
      have hbox := rangeAt_new w #[.int .i64 V, .slice (some ⟨b, off, none⟩) N.length k1, .slice o2 P.length k2, .slice o3 C.length k3] 26
      rw [← hW] at hbox
      have HBOX := Lib.hid (show W0.drew.rangeAt w.heap.size 0 [.int .i64 V, .slice (some ⟨b, off, none⟩) N.length k1, .slice o2 P.length k2, .slice o3 C.length k3] from hbox)
      have e1 : W0.drew.cell? ⟨w.heap.size, 1, none⟩ = some (.slice (some ⟨b, off, none⟩) N.length k1) := by simpa using hbox 1 _ rfl
      have e2 : W0.drew.cell? ⟨b, off + k * 10 + 1, none⟩ = some (.int .i64 x.fr) := rangeAt_below hB hb hrange 1 _ rfl
      have HS := Lib.hid (HA.out.below hB.drew)
      have HB := Lib.hid hB.drew
      clear hB hW hbox hb hrange hr hx
      refine wp_region_still_tail 7 (by kernel_rfl) (by kernel_rfl) ?_
      simp only [List.take_succ_cons, List.take_zero, List.drop_succ_cons, List.drop_zero]
      change wpStill _ _ W0.drew _ _ _
      have q2 : (0 : Int) ≤ (k : Int) := by omega
      refine still_load rfl 26 (.tmp 2) rfl w.heap.size 0 ?_ _ _ HBOX.out Tryz.underlying26 rfl (by kernel_rfl) ?_
      · rfl
      iterate 6 still_step
      refine wpStill_nil ?_
      change wpList _ _ _ _ _ W0.drew
      generalize W0.drew = W2 at *
      go_wp2_with (go_at_call 33; refine (of_any ⟨V, N, P, C⟩ ⟨some ⟨b, off, none⟩, k1, o2, k2, o3, k3⟩ x.fr _ HS.out).mono ?_; rintro e w' ⟨rfl, hb⟩; have HB2 := Lib.hid (HB.out.trans (hb.mono HB.out.size)); clear hb)
      go_ret
      exact ⟨by rw [HRX.out]; rfl, HB2.out⟩
    · have hge : decide (n ≥ (N.length : Int)) = true := decide_eq_true (by omega)
      have hge2 : (N.length : Int) ≤ n := by omega
      have hr := HR.out
      unfold secI at hr
      rw [if_neg (by dsimp only; omega)] at hr
      subst hr
      go_enter Tryz.func12, Tryz.ntmps12
      go_wp2
      go_ret
      exact ⟨rfl, (Below.refl _ _).alloc (Nat.le_refl _) _⟩
end Go.Sc
