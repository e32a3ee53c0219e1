/- The way up from a note, plainly. -/
import Derived.Test.YtpbpeoijejocaaaGreatDoorPtB
import Derived.Test.YtpbpeoijejocaaaGreatDoorScX
namespace Go.Sc
open Go.RowKit Go.Proofs

def Nt.at (n : Nt) : Vc := ⟨n.a0, n.a1, n.a2, n.a3, n.a4, n.a5⟩
def Pr.want (p : Pr) : Vc := ⟨p.w0, p.w1, p.w2, p.w3, p.w4, p.w5⟩
/-- A step. -/
structure St where
  f : Int
  t : Int
  k : Int
  deriving DecidableEq
def St.cells (x : St) : List Value := [.int .i64 x.f, .int .i64 x.t, .int .i64 x.k]
def St.turn (x : St) : St := ⟨x.t, x.f, x.k⟩
/-- The last one of the first k notes of a voice that ends at a tick; 0 if there is none. -/
def endOf (l : List Nt) : Nat → Int → Int → Int
  | 0, _, _ => 0
  | k + 1, v, t => match l[k]? with
    | some n => if n.v = v ∧ n.un = t then (k : Int) else endOf l k v t
    | none => endOf l k v t
/-- The pair that gives a note its parent. -/
def byPair (l : List Pr) (n : Nat) : Option Pr := l.find? (fun p => decide (p.bd = 0 ∧ p.b = (n : Int)))
def upOf (s : Sc) (n : Nat) : St := match s.n[n]? with
  | some x => if x.td = true then ⟨endOf s.n s.n.length x.v x.fr, n, 1⟩ else match byPair s.p n with
    | some p => ⟨p.a, n, 2⟩
    | none => ⟨-1, n, 3⟩
  | none => ⟨-1, n, 3⟩
def prodOf (s : Sc) (n : Nat) : Vc := match s.n[n]? with
  | some x => if x.td = true then Vc.zero else match byPair s.p n with
    | some p => p.want
    | none => Vc.zero
  | none => Vc.zero
/-- The section of a tick. -/
def secOf (c : List Int) (t : Int) : Nat := (c.takeWhile (fun x => decide (x ≤ t))).length
def SecIs (c : List Int) (t : Int) (k : Nat) : Prop := k ≤ c.length ∧ (∀ (i : Nat) (x : Int), i < k → c[i]? = some x → x ≤ t) ∧ ∀ (i : Nat) (x : Int), k ≤ i → c[i]? = some x → t < x
theorem secOf_eq {c : List Int} {t : Int} : ∀ {k : Nat}, SecIs c t k → secOf c t = k := by
  unfold secOf
  induction c with
  | nil => intro k h; have := h.1; simp at this; simp [this]
  | cons a c ih =>
    intro k h
    cases k with
    | zero =>
      have h0 := h.2.2 0 a (by omega) rfl
      rw [List.takeWhile_cons_of_neg (by simp; omega)]
      rfl
    | succ k =>
      have h0 := h.2.1 0 a (by omega) rfl
      rw [List.takeWhile_cons_of_pos (by simp; omega), List.length_cons, ih (k := k) ⟨by have := h.1; simp at this; omega, fun i x hi hx => h.2.1 (i + 1) x (by omega) hx, fun i x hi hx => h.2.2 (i + 1) x (by omega) hx⟩]
theorem secOf_is {c : List Int} (hc : rising ltI c) (t : Int) : SecIs c t (secOf c t) := by
  induction c with
  | nil => exact ⟨by simp [secOf], fun i x _ hx => by simp at hx, fun i x _ hx => by simp at hx⟩
  | cons a c ih =>
    have hr : rising ltI c := fun i x y hx hy => hc (i + 1) x y hx hy
    have hall : ∀ (i : Nat) (x : Int), c[i]? = some x → a < x := by
      intro i
      induction i with
      | zero => intro x hx; exact hc 0 a x rfl hx
      | succ i ihh =>
        intro x hx
        obtain ⟨z, hz⟩ := get_of_lt (l := c) (k := i) (by have := (List.getElem?_eq_some_iff.1 hx).1; omega)
        have h1 := ihh z hz
        have h2 : z < x := hr i z x hz hx
        omega
    by_cases h : a ≤ t
    · obtain ⟨h1, h2, h3⟩ := ih hr
      have e : secOf (a :: c) t = secOf c t + 1 := by unfold secOf; rw [List.takeWhile_cons_of_pos (by simpa using h)]; rfl
      rw [e]
      refine ⟨by simp; omega, fun i x hi hx => ?_, fun i x hi hx => ?_⟩
      · cases i with
        | zero => simp at hx; omega
        | succ i => exact h2 i x (by omega) hx
      · cases i with
        | zero => omega
        | succ i => exact h3 i x (by omega) hx
    · have e : secOf (a :: c) t = 0 := by unfold secOf; rw [List.takeWhile_cons_of_neg (by simpa using h)]; rfl
      rw [e]
      refine ⟨by omega, fun i x hi => by omega, fun i x hi hx => ?_⟩
      cases i with
      | zero => simp at hx; omega
      | succ i => have := hall i x hx; omega
/-- The section is before the one that a cadence begins exactly if the tick is. -/
theorem secOf_lt {c : List Int} (hc : rising ltI c) {t x : Int} {j : Nat} (hx : c[j]? = some x) : secOf c t ≤ j ↔ t < x := by
  obtain ⟨h1, h2, h3⟩ := secOf_is hc t
  constructor
  · intro h; exact h3 j x h hx
  · intro h
    rcases Nat.lt_or_ge j (secOf c t) with hh | hh
    · have := h2 j x hh hx; omega
    · exact hh
theorem secOf_mono {c : List Int} (hc : rising ltI c) {t u : Int} (h : t ≤ u) : secOf c t ≤ secOf c u := by
  obtain ⟨h1, h2, h3⟩ := secOf_is hc t
  obtain ⟨g1, g2, g3⟩ := secOf_is hc u
  rcases Nat.lt_or_ge (secOf c u) (secOf c t) with hh | hh
  · obtain ⟨x, hx⟩ := get_of_lt (l := c) (k := secOf c u) (by omega)
    have a := h2 _ x hh hx
    have b := g3 _ x (Nat.le_refl _) hx
    omega
  · exact hh
/-- The product of the parent step, with the place and the shift of a root. -/
def itemOf (s : Sc) (sh : List Vc) (n : Nat) : Vc := if (upOf s n).k = 3 then (match s.n[n]? with
    | some x => x.at.add (sh[secOf s.c x.fr]?.getD Vc.zero) 1
    | none => Vc.zero) else prodOf s n
def parOf (xs : List Vc) (f : Int) : Vc := if f < 0 then Vc.zero else xs[f.toNat]?.getD Vc.zero
/-- The pitches of the first notes, as far as they are tuned; none if one is out of range. -/
def tuneTo (s : Sc) (sh : List Vc) : Nat → Option (List Vc)
  | 0 => some []
  | n + 1 => match tuneTo s sh n with
    | none => none
    | some xs => match s.n[n]? with
      | none => some xs
      | some x => if sh.length ≤ secOf s.c x.fr then some xs else
        if ((parOf xs (upOf s n).f).add (itemOf s sh n) 1).lim 32 then some (xs ++ [(parOf xs (upOf s n).f).add (itemOf s sh n) 1]) else none
def excOf (xs : List Vc) (p : Pr) : Vc := ((parOf xs p.b).add (parOf xs p.a) (-1)).add p.want (-1)
def loI (e lo hi : Int) : Int := if e < 0 then e * hi else e * lo
def hiI (e lo hi : Int) : Int := if e < 0 then e * lo else e * hi
def loOf (e : Vc) : Int := loI e.x0 1000000000 1000000000 + loI e.x1 1584962500 1584962501 + loI e.x2 2321928094 2321928095 + loI e.x3 2807354922 2807354923 + loI e.x4 3459431618 3459431619 + loI e.x5 3700439718 3700439719
def hiOf (e : Vc) : Int := hiI e.x0 1000000000 1000000000 + hiI e.x1 1584962500 1584962501 + hiI e.x2 2321928094 2321928095 + hiI e.x3 2807354922 2807354923 + hiI e.x4 3459431618 3459431619 + hiI e.x5 3700439718 3700439719
/-- The interval is surely no more than the bound. -/
def nearOf (e : Vc) (bd : Int) : Prop := -(10000 * bd) ≤ loOf e.twelve ∧ hiOf e.twelve ≤ 10000 * bd
instance (e : Vc) (bd : Int) : Decidable (nearOf e bd) := by unfold nearOf; infer_instance
def brkOf (xs : List Vc) (p : Pr) : Prop := p.b < xs.length ∧ (if p.bd = 0 then excOf xs p ≠ Vc.zero else ¬ nearOf (excOf xs p) p.bd)
instance (xs : List Vc) (p : Pr) : Decidable (brkOf xs p) := by unfold brkOf; infer_instance
/-- The steps from a note up to the anchor. -/
def pathTo (s : Sc) : Nat → Int → List St
  | 0, _ => []
  | m + 1, n => if n < 0 then [] else upOf s n.toNat :: pathTo s m (upOf s n.toNat).f
def pathOf (s : Sc) (n : Int) : List St := pathTo s (s.n.length + 1) n
def wayOf (s : Sc) (a b : Int) : List St :=
  let above := b :: (pathOf s b).map (·.f)
  let out := ((pathOf s a).takeWhile (fun p => !above.contains p.t)).map St.turn
  let meet := (out.getLast?.map (·.t)).getD a
  out ++ ((pathOf s b).takeWhile (fun p => p.t != meet)).reverse
/-- A chain. -/
structure Ch where
  p : Int
  s : List St
  c : Vc
def chainsOf (s : Sc) (xs : List Vc) : List Ch := (List.range s.p.length).filterMap fun (i : Nat) => match s.p[i]? with
  | some p => if brkOf xs p then some ⟨i, wayOf s p.a p.b, excOf xs p⟩ else none
  | none => none

theorem lastOf_spec (l : List Nt) : ∀ (k : Nat) (v : Int), lastOf l k v = zN ∨ ∃ m, m < k ∧ l[m]? = some (lastOf l k v) ∧ (lastOf l k v).v = v := by
  intro k v
  induction k with
  | zero => exact .inl rfl
  | succ k ih =>
    simp only [lastOf]
    cases hk : l[k]? with
    | none =>
      simp only
      rcases ih with h | ⟨m, h1, h2⟩
      · exact .inl h
      · exact .inr ⟨m, by omega, h2⟩
    | some n =>
      simp only
      by_cases e : n.v = v
      · rw [if_pos e]; exact .inr ⟨k, by omega, hk, e⟩
      · rw [if_neg e]
        rcases ih with h | ⟨m, h1, h2⟩
        · exact .inl h
        · exact .inr ⟨m, by omega, h2⟩
theorem endOf_spec (l : List Nt) (v t : Int) : ∀ (k m : Nat) (x : Nt), m < k → l[m]? = some x → x.v = v → x.un = t → ∃ (j : Nat) (z : Nt), j < k ∧ endOf l k v t = j ∧ l[j]? = some z ∧ z.v = v ∧ z.un = t := by
  intro k
  induction k with
  | zero => intro m x h; omega
  | succ k ih =>
    intro m x hm hx hv hu
    simp only [endOf]
    cases hk : l[k]? with
    | none =>
      simp only
      have : m ≠ k := fun e => by subst e; rw [hk] at hx; cases hx
      obtain ⟨j, z, h1, h2⟩ := ih m x (by omega) hx hv hu
      exact ⟨j, z, by omega, h2⟩
    | some n =>
      simp only
      by_cases e : n.v = v ∧ n.un = t
      · rw [if_pos e]; exact ⟨k, n, by omega, rfl, hk, e.1, e.2⟩
      · rw [if_neg e]
        have : m ≠ k := fun em => by subst em; rw [hk] at hx; cases hx; exact e ⟨hv, hu⟩
        obtain ⟨j, z, h1, h2⟩ := ih m x (by omega) hx hv hu
        exact ⟨j, z, by omega, h2⟩
/-- A tied note's parent: an earlier note, which ends where it begins. -/
theorem tied_parent {s : Sc} (hv : validOk s) {n : Nat} {x : Nt} (hx : s.n[n]? = some x) (ht : x.td = true) : ∃ (m : Nat) (z : Nt), m < n ∧ endOf s.n s.n.length x.v x.fr = m ∧ s.n[m]? = some z ∧ z.v = x.v ∧ z.un = x.fr := by
  obtain ⟨_, ⟨hn, hr⟩, hvo, _⟩ := hv
  have h1 := hvo n x hx
  obtain ⟨_, h2⟩ := h1
  obtain ⟨h3, h4, _⟩ := h2 ht
  have hlt : n < s.n.length := (List.getElem?_eq_some_iff.1 hx).1
  rcases lastOf_spec s.n n x.v with h | ⟨m, hm, h5, h6⟩
  · rw [h] at h4; exact absurd rfl h4
  · obtain ⟨j, z, g1, g2, g3, g4, g5⟩ := endOf_spec s.n x.v x.fr s.n.length m _ (by omega) h5 h6 h3
    refine ⟨j, z, ?_, g2, g3, g4, g5⟩
    rcases Nat.lt_or_ge j n with hh | hh
    · exact hh
    · have a := rising_fr hr n j x z hh hx g3
      have b := (hn z (mem_of_get g3)).2.2.2.1
      omega
theorem byPair_spec {l : List Pr} {n : Nat} {p : Pr} (h : byPair l n = some p) : p ∈ l ∧ p.bd = 0 ∧ p.b = n := by
  unfold byPair at h
  have h1 := List.mem_of_find?_eq_some h
  have h2 := List.find?_some h
  simp at h2
  exact ⟨h1, h2⟩
/-- A section is free: nothing joins what is before it to what follows. -/
def FreeAt (s : Sc) (c : Int) (n0 : Nat) : Prop := BeginsAt s.n c n0 ∧ (∀ x ∈ s.n, ¬ ((x.fr < c ∧ c < x.un) ∨ (x.fr = c ∧ x.td = true))) ∧ ∀ p ∈ s.p, ¬ (p.a < n0 ∧ (n0 : Int) ≤ p.b)
theorem parent_side {s : Sc} (hv : validOk s) {c : Int} {n0 : Nat} (hf : FreeAt s c n0) {n : Nat} {x : Nt} (hx : s.n[n]? = some x) :
    ((upOf s n).k = 3 ∧ (upOf s n).f = -1) ∨ ((upOf s n).k ≠ 3 ∧ ∃ m : Nat, (upOf s n).f = m ∧ m < n ∧ (m < n0 ↔ n < n0)) := by
  obtain ⟨hb, hh, hp⟩ := hf
  unfold upOf
  rw [hx]
  simp only
  by_cases ht : x.td = true
  · rw [if_pos ht]
    refine .inr ⟨(by decide : (1 : Int) ≠ 3), ?_⟩
    obtain ⟨m, z, h1, h2, h3, h4, h5⟩ := tied_parent hv hx ht
    refine ⟨m, h2, h1, fun h6 => ?_, fun h6 => by omega⟩
    rcases Nat.lt_or_ge n n0 with h7 | h7
    · exact h7
    · have a := hb.2.1 m z h6 h3
      have b := hb.2.2 n x h7 hx
      have d := hh z (mem_of_get h3)
      have e := hh x (mem_of_get hx)
      exfalso
      rcases Int.lt_or_eq_of_le b with g | g
      · exact d (.inl ⟨a, by omega⟩)
      · exact e (.inr ⟨g.symm, ht⟩)
  · rw [if_neg ht]
    cases hq : byPair s.p n with
    | none => exact .inl ⟨rfl, rfl⟩
    | some p =>
      refine .inr ⟨(by decide : (2 : Int) ≠ 3), ?_⟩
      obtain ⟨h1, h2, h3⟩ := byPair_spec hq
      have h4 := hv.2.2.2.1.1 p h1
      obtain ⟨h5, h6, _⟩ := h4
      have h7 := hp p h1
      refine ⟨p.a.toNat, ?_, by omega, fun h => ?_, fun h => by omega⟩
      · show p.a = _; omega
      · rcases Nat.lt_or_ge n n0 with h8 | h8
        · exact h8
        · exact absurd ⟨by omega, by omega⟩ h7
/-- The shifts from a section on are moved. -/
def MovedFrom (k : Nat) (d : Vc) (a b : List Vc) : Prop := a.length = b.length ∧ ∀ (j : Nat) (x y : Vc), a[j]? = some x → b[j]? = some y → y = if j < k then x else x.add d 1
theorem add_side (q a d : Vc) : q.add (a.add d 1) 1 = (q.add a 1).add d 1 := by
  apply Vc.ext' <;> simp only [Vc.add] <;> omega
theorem add_side2 (q a d : Vc) : (q.add d 1).add a 1 = (q.add a 1).add d 1 := by
  apply Vc.ext' <;> simp only [Vc.add] <;> omega
theorem parOf_root (xs : List Vc) : parOf xs (-1) = Vc.zero := by unfold parOf; rw [if_pos (by decide)]
theorem parOf_nat (xs : List Vc) (m : Nat) : parOf xs (m : Int) = xs[m]?.getD Vc.zero := by unfold parOf; rw [if_neg (by omega), Int.toNat_natCast]
theorem tune_len (s : Sc) (sh : List Vc) : ∀ (n : Nat) (xs : List Vc), n ≤ s.n.length → tuneTo s sh n = some xs → xs.length ≤ n ∧ (xs.length = n ∨ ∃ (m : Nat) (x : Nt), m < n ∧ s.n[m]? = some x ∧ sh.length ≤ secOf s.c x.fr) := by
  intro n
  induction n with
  | zero => intro xs _ h; simp [tuneTo] at h; subst h; simp
  | succ n ih =>
    intro xs hn h
    simp only [tuneTo] at h
    cases hq : tuneTo s sh n with
    | none => rw [hq] at h; cases h
    | some xs0 =>
      obtain ⟨h1, h2⟩ := ih xs0 (by omega) hq
      obtain ⟨x, hx⟩ := get_of_lt (l := s.n) (k := n) (by omega)
      rw [hq, hx] at h
      simp only at h
      by_cases e : sh.length ≤ secOf s.c x.fr
      · rw [if_pos e] at h
        cases h
        exact ⟨by omega, .inr ⟨n, x, by omega, hx, e⟩⟩
      · rw [if_neg e] at h
        split at h
        · cases h
          refine ⟨by simp; omega, ?_⟩
          rcases h2 with h2 | ⟨m, z, g1, g2, g3⟩
          · exact .inl (by simp [h2])
          · exact .inr ⟨m, z, by omega, g2, g3⟩
        · cases h
theorem tune_moved {s : Sc} (hv : validOk s) {c : Int} {n0 k : Nat} (hf : FreeAt s c n0) (hk : s.c[k]? = some c) {a b : List Vc} {d : Vc} (hm : MovedFrom (k + 1) d a b) :
    ∀ (n : Nat) (xs ys : List Vc), n ≤ s.n.length → tuneTo s a n = some xs → tuneTo s b n = some ys → xs.length = ys.length ∧ ∀ (j : Nat) (x y : Vc), xs[j]? = some x → ys[j]? = some y → y = if j < n0 then x else x.add d 1 := by
  intro n
  induction n with
  | zero => intro xs ys _ h1 h2; simp [tuneTo] at h1 h2; subst h1; subst h2; simp
  | succ n ih =>
    intro xs ys hn h1 h2
    simp only [tuneTo] at h1 h2
    cases hq1 : tuneTo s a n with
    | none => rw [hq1] at h1; cases h1
    | some xs0 =>
    cases hq2 : tuneTo s b n with
    | none => rw [hq2] at h2; cases h2
    | some ys0 =>
      obtain ⟨hl, hr⟩ := ih xs0 ys0 (by omega) hq1 hq2
      obtain ⟨x, hx⟩ := get_of_lt (l := s.n) (k := n) (by omega)
      rw [hq1, hx] at h1
      rw [hq2, hx] at h2
      simp only at h1 h2
      rw [← hm.1] at h2
      by_cases e : a.length ≤ secOf s.c x.fr
      · rw [if_pos e] at h1 h2
        cases h1; cases h2
        exact ⟨hl, hr⟩
      · rw [if_neg e] at h1 h2
        split at h1
        case isFalse => cases h1
        split at h2
        case isFalse => cases h2
        cases h1; cases h2
        refine ⟨by simp [hl], fun j u v hu hw => ?_⟩
        -- the list is as long as the notes so far
        have hlen : xs0.length = n := by
          obtain ⟨_, g | ⟨m, z, g1, g2, g3⟩⟩ := tune_len s a n xs0 (by omega) hq1
          · exact g
          · have := secOf_mono hv.2.2.2.2.2 (rising_fr hv.2.1.2 m n z x (by omega) g2 hx)
            omega
        rcases Nat.lt_or_ge j xs0.length with hj | hj
        · rw [List.getElem?_append_left hj] at hu
          rw [List.getElem?_append_left (by omega)] at hw
          exact hr j u v hu hw
        · have hjn : j = n := by
            have := (List.getElem?_eq_some_iff.1 hu).1
            simp at this
            omega
          subst hjn
          rw [List.getElem?_append_right (by omega), hlen] at hu
          rw [List.getElem?_append_right (by omega), ← hl, hlen] at hw
          simp at hu hw
          subst hu; subst hw
          rcases parent_side hv hf hx with ⟨h3, hf1⟩ | ⟨h3, m, hf1, hmn, hside⟩
          · -- a root
            have hsec : secOf s.c x.fr < k + 1 ↔ j < n0 := by
              have h4 := secOf_lt hv.2.2.2.2.2 (t := x.fr) hk
              constructor
              · intro h
                rcases Nat.lt_or_ge j n0 with g | g
                · exact g
                · have := hf.1.2.2 j x g hx
                  have := h4.1 (by omega)
                  omega
              · intro h
                have := hf.1.2.1 j x h hx
                have := h4.2 this
                omega
            obtain ⟨p, hp⟩ := get_of_lt (l := a) (k := secOf s.c x.fr) (by omega)
            obtain ⟨q, hq⟩ := get_of_lt (l := b) (k := secOf s.c x.fr) (by have := hm.1; omega)
            have hpq := hm.2 _ p q hp hq
            rw [hf1]
            simp only [itemOf, if_pos h3, hx, hp, hq, Option.getD_some, parOf_root]
            by_cases g : j < n0
            · rw [if_pos (hsec.2 g)] at hpq
              rw [if_pos g, hpq]
            · rw [if_neg (fun h => g (hsec.1 h))] at hpq
              rw [if_neg g, hpq, add_side x.at p d, add_side Vc.zero]
          · -- a note that follows from another one
            obtain ⟨p, hp⟩ := get_of_lt (l := xs0) (k := m) (by omega)
            obtain ⟨q, hq⟩ := get_of_lt (l := ys0) (k := m) (by omega)
            have hpq := hr m p q hp hq
            have hi : itemOf s a j = itemOf s b j := by simp only [itemOf, if_neg h3]
            rw [hf1, ← hi]
            simp only [parOf_nat, hp, hq, Option.getD_some]
            by_cases g : j < n0
            · rw [if_pos (hside.2 g)] at hpq
              rw [if_pos g, hpq]
            · rw [if_neg (fun h => g (hside.1 h))] at hpq
              rw [if_neg g, hpq, add_side2]
/-- The chains are the same. -/
theorem free_law {s : Sc} (hv : validOk s) {c : Int} {n0 k : Nat} (hf : FreeAt s c n0) (hk : s.c[k]? = some c) {a b : List Vc} {d : Vc} (hm : MovedFrom (k + 1) d a b) {xs ys : List Vc}
    (h1 : tuneTo s a s.n.length = some xs) (h2 : tuneTo s b s.n.length = some ys) : chainsOf s xs = chainsOf s ys := by
  obtain ⟨hl, hr⟩ := tune_moved hv hf hk hm _ xs ys (Nat.le_refl _) h1 h2
  unfold chainsOf
  congr 1
  funext i
  cases hp : s.p[i]? with
  | none => rfl
  | some p =>
    simp only
    have hpo := hv.2.2.2.1.1 p (mem_of_get hp)
    obtain ⟨g1, g2, g3, _⟩ := hpo
    by_cases hb : p.b < xs.length
    · have hc := hf.2.2 p (mem_of_get hp)
      obtain ⟨u, hu⟩ := get_of_lt (l := xs) (k := p.b.toNat) (by omega)
      obtain ⟨u', hu'⟩ := get_of_lt (l := ys) (k := p.b.toNat) (by omega)
      obtain ⟨v, hw⟩ := get_of_lt (l := xs) (k := p.a.toNat) (by omega)
      obtain ⟨v', hw'⟩ := get_of_lt (l := ys) (k := p.a.toNat) (by omega)
      have e1 := hr _ u u' hu hu'
      have e2 := hr _ v v' hw hw'
      have he : excOf xs p = excOf ys p := by
        unfold excOf parOf
        rw [if_neg (by omega), if_neg (by omega), if_neg (by omega), if_neg (by omega), hu, hu', hw, hw']
        simp only [Option.getD_some]
        by_cases g : p.b.toNat < n0
        · rw [if_pos g] at e1
          rw [if_pos (by omega)] at e2
          rw [e1, e2]
        · rw [if_neg g] at e1
          rw [if_neg (fun h => hc ⟨by omega, by omega⟩)] at e2
          rw [e1, e2]
          apply Vc.ext' <;> simp only [Vc.add] <;> omega
      have hbb : brkOf xs p ↔ brkOf ys p := by unfold brkOf; rw [he, hl]
      by_cases hx : brkOf xs p
      · rw [if_pos hx, if_pos (hbb.1 hx), he]
      · rw [if_neg hx, if_neg (fun h => hx (hbb.2 h))]
    · rw [if_neg (fun h => hb h.1), if_neg (fun h => hb (by rw [hl]; exact h.1))]
/-! What the walks want of these. -/
theorem tune_none {s : Sc} {sh : List Vc} {n : Nat} (h : tuneTo s sh n = none) : ∀ m, n ≤ m → tuneTo s sh m = none := by
  intro m
  induction m with
  | zero => intro hm; have e : n = 0 := (by omega); subst e; exact h
  | succ m ih =>
    intro hm
    by_cases e : n = m + 1
    · subst e; exact h
    · simp only [tuneTo, ih (by omega)]
theorem tune_stop {s : Sc} (hv : validOk s) {sh : List Vc} {n : Nat} {x : Nt} (hx : s.n[n]? = some x) (hs : sh.length ≤ secOf s.c x.fr) {xs : List Vc} (h : tuneTo s sh n = some xs) : ∀ m, n ≤ m → tuneTo s sh m = some xs := by
  intro m
  induction m with
  | zero => intro hm; have e : n = 0 := (by omega); subst e; exact h
  | succ m ih =>
    intro hm
    by_cases e : n = m + 1
    · subst e; exact h
    · simp only [tuneTo, ih (by omega)]
      cases hy : s.n[m]? with
      | none => rfl
      | some y =>
        have := secOf_mono hv.2.2.2.2.2 (rising_fr hv.2.1.2 n m x y (by omega) hx hy)
        simp only
        rw [if_pos (by omega)]
theorem up_t {s : Sc} (n : Nat) : (upOf s n).t = n := by
  unfold upOf
  split
  · split
    · rfl
    · split <;> rfl
  · rfl
/-- A note's parent is an earlier note, or the anchor. -/
theorem parent_lt {s : Sc} (hv : validOk s) {n : Nat} {x : Nt} (hx : s.n[n]? = some x) : -1 ≤ (upOf s n).f ∧ (upOf s n).f < n := by
  unfold upOf
  rw [hx]
  simp only
  by_cases ht : x.td = true
  · rw [if_pos ht]
    obtain ⟨m, z, h1, h2, _⟩ := tied_parent hv hx ht
    simp only
    omega
  · rw [if_neg ht]
    cases hq : byPair s.p n with
    | none => simp only; omega
    | some p =>
      obtain ⟨h1, h2, h3⟩ := byPair_spec hq
      obtain ⟨h5, h6, _⟩ := hv.2.2.2.1.1 p h1
      simp only
      omega
theorem lim_mono {a b : Int} (h : a ≤ b) {v : Vc} (hv : v.lim a) : v.lim b := by
  unfold Vc.lim okV okE at *
  omega
theorem lim_zero {a : Int} (h : 0 ≤ a) : Vc.zero.lim a := by
  unfold Vc.lim okV okE Vc.zero
  dsimp only
  omega
theorem lim_add {a b : Int} {u v : Vc} (hu : u.lim a) (hv : v.lim b) {n : Int} (hn : n = 1 ∨ n = -1) : (u.add v n).lim (a + b) := by
  unfold Vc.lim okV okE at *
  rcases hn with rfl | rfl <;> simp only [Vc.add] <;> omega
theorem tune_lim {s : Sc} {sh : List Vc} : ∀ (n : Nat) (xs : List Vc), tuneTo s sh n = some xs → ∀ x ∈ xs, x.lim 32 := by
  intro n
  induction n with
  | zero => intro xs h; simp [tuneTo] at h; subst h; simp
  | succ n ih =>
    intro xs h
    simp only [tuneTo] at h
    cases hq : tuneTo s sh n with
    | none => rw [hq] at h; cases h
    | some xs0 =>
      rw [hq] at h
      simp only at h
      cases hx : s.n[n]? with
      | none => rw [hx] at h; cases h; exact ih _ hq
      | some x =>
        rw [hx] at h
        simp only at h
        split at h
        · cases h; exact ih _ hq
        · split at h
          · rename_i hl
            cases h
            intro y hy
            rcases List.mem_append.1 hy with hy | hy
            · exact ih _ hq y hy
            · simp at hy; subst hy; exact hl
          · cases h
theorem par_lim {xs : List Vc} (h : ∀ x ∈ xs, x.lim 32) (f : Int) : (parOf xs f).lim 32 := by
  unfold parOf
  split
  · exact lim_zero (by decide)
  · cases hg : xs[f.toNat]? with
    | none => exact lim_zero (by decide)
    | some x => exact h x (List.mem_of_getElem? hg)
theorem at_lim {s : Sc} (hv : validOk s) {x : Nt} (hx : x ∈ s.n) : x.at.lim 24 := (hv.2.1.1 x hx).2.2.2.2.2
theorem want_lim {s : Sc} (hv : validOk s) {p : Pr} (hp : p ∈ s.p) : p.want.lim 16 := (hv.2.2.2.1.1 p hp).2.2.2.1
theorem prod_lim {s : Sc} (hv : validOk s) (n : Nat) : (prodOf s n).lim 16 := by
  unfold prodOf
  split
  · split
    · exact lim_zero (by decide)
    · split
      · rename_i hq
        exact want_lim hv (byPair_spec hq).1
      · exact lim_zero (by decide)
  · exact lim_zero (by decide)
theorem item_lim {s : Sc} (hv : validOk s) {sh : List Vc} (hs : ∀ v ∈ sh, v.lim 48) (n : Nat) : (itemOf s sh n).lim 72 := by
  unfold itemOf
  split
  · split
    · rename_i x hx
      have h1 := at_lim hv (mem_of_get hx)
      have h2 : (sh[secOf s.c x.fr]?.getD Vc.zero).lim 48 := by
        cases hg : sh[secOf s.c x.fr]? with
        | none => exact lim_zero (by decide)
        | some v => exact hs v (List.mem_of_getElem? hg)
      exact lim_add h1 h2 (.inl rfl)
    · exact lim_zero (by decide)
  · exact lim_mono (by decide) (prod_lim hv n)
/-- The pairs from an index on that give a note its parent. -/
def byFrom (l : List Pr) (i n : Nat) : Option Pr := (l.drop i).find? (fun p => decide (p.bd = 0 ∧ p.b = (n : Int)))
theorem byFrom_zero (l : List Pr) (n : Nat) : byFrom l 0 n = byPair l n := rfl
theorem byFrom_end (l : List Pr) (n : Nat) : byFrom l l.length n = none := by unfold byFrom; rw [List.drop_length]; rfl
theorem byFrom_step {l : List Pr} {i : Nat} {p : Pr} (hp : l[i]? = some p) (n : Nat) : byFrom l i n = if p.bd = 0 ∧ p.b = (n : Int) then some p else byFrom l (i + 1) n := by
  unfold byFrom
  obtain ⟨hi, he⟩ := List.getElem?_eq_some_iff.1 hp
  rw [List.drop_eq_getElem_cons hi, he, List.find?_cons]
  by_cases h : p.bd = 0 ∧ p.b = (n : Int)
  · rw [if_pos h, decide_eq_true h]
  · rw [if_neg h, decide_eq_false h]
end Go.Sc

namespace Go.Sc
open Go.RowKit Go.Proofs

/-- The notes on the way up from a note; -1 behind the last one. -/
def nodeOf (s : Sc) (n : Int) : Nat → Int
  | 0 => n
  | k + 1 => (upOf s (nodeOf s n k).toNat).f
/-- The last note on the way up. -/
def LastUp (s : Sc) (n : Int) (M : Nat) : Prop := (∀ k, k ≤ M → 0 ≤ nodeOf s n k ∧ nodeOf s n k < s.n.length) ∧ nodeOf s n (M + 1) = -1
theorem nodeOf_shift (s : Sc) (n : Int) (k : Nat) : nodeOf s n (k + 1) = nodeOf s (upOf s n.toNat).f k := by
  induction k with
  | zero => rfl
  | succ k ih =>
    show (upOf s (nodeOf s n (k + 1)).toNat).f = (upOf s (nodeOf s (upOf s n.toNat).f k).toNat).f
    rw [ih]
theorem up_of_lt {s : Sc} (hv : validOk s) {n : Int} (h0 : 0 ≤ n) (h1 : n < s.n.length) : -1 ≤ (upOf s n.toNat).f ∧ (upOf s n.toNat).f < n := by
  obtain ⟨x, hx⟩ := get_of_lt (l := s.n) (k := n.toNat) (by omega)
  have h := parent_lt hv hx
  omega
/-- There is a last one, and the steps are those of the path. -/
theorem lastUp {s : Sc} (hv : validOk s) : ∀ (m : Nat) (n : Int), 0 ≤ n → n < s.n.length → n < m → ∃ M, LastUp s n M ∧ ∀ q : Nat, n < q → pathTo s q n = (List.range (M + 1)).map fun k => upOf s (nodeOf s n k).toNat := by
  intro m
  induction m with
  | zero => intro n h0 _ h; omega
  | succ m ih =>
    intro n h0 h1 hm
    obtain ⟨h2, h3⟩ := up_of_lt hv h0 h1
    by_cases hf : (upOf s n.toNat).f = -1
    · refine ⟨0, ⟨fun k hk => by have e : k = 0 := (by omega); subst e; exact ⟨h0, h1⟩, hf⟩, fun q hq => ?_⟩
      obtain ⟨q, rfl⟩ : ∃ r, q = r + 1 := ⟨q - 1, by omega⟩
      simp only [pathTo]
      rw [if_neg (by omega), hf]
      have e : pathTo s q (-1) = [] := by cases q <;> simp [pathTo]
      rw [e]
      rfl
    · obtain ⟨M, ⟨g1, g2⟩, g3⟩ := ih (upOf s n.toNat).f (by omega) (by omega) (by omega)
      refine ⟨M + 1, ⟨fun k hk => ?_, by rw [nodeOf_shift]; exact g2⟩, fun q hq => ?_⟩
      · cases k with
        | zero => exact ⟨h0, h1⟩
        | succ k => rw [nodeOf_shift]; exact g1 k (by omega)
      · obtain ⟨q, rfl⟩ : ∃ r, q = r + 1 := ⟨q - 1, by omega⟩
        simp only [pathTo]
        rw [if_neg (by omega), g3 q (by omega), List.range_succ_eq_map (n := M + 1), List.map_cons, List.map_map]
        congr 1
        apply List.map_congr_left
        intro k _
        show _ = upOf s (nodeOf s n (k + 1)).toNat
        rw [nodeOf_shift]
theorem path_is {s : Sc} (hv : validOk s) {n : Int} (h0 : 0 ≤ n) (h1 : n < s.n.length) : ∃ M, LastUp s n M ∧ pathOf s n = (List.range (M + 1)).map fun k => upOf s (nodeOf s n k).toNat := by
  obtain ⟨M, h2, h3⟩ := lastUp hv (s.n.length + 1) n h0 h1 (by omega)
  exact ⟨M, h2, h3 _ (by omega)⟩
end Go.Sc
