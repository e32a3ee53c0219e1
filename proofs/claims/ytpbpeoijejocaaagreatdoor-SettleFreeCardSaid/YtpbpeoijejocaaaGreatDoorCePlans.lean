/- A check of a drawn region's plan. -/
import Derived.Test.YtpbpeoijejocaaaGreatDoorCeDraw
import Derived.Test.YtpbpeoijejocaaaGreatDoorCeCode
namespace Go.Ce
open Go.RowKit

def allI {α : Type} (f : Nat → α → Bool) : Nat → List α → Bool
  | _, [] => true
  | i, x :: xs => f i x && allI f (i + 1) xs
def anyI {α : Type} (f : Nat → α → Bool) : Nat → List α → Bool
  | _, [] => false
  | i, x :: xs => f i x || anyI f (i + 1) xs
theorem allI_get {α : Type} {f : Nat → α → Bool} : ∀ {l : List α} {k : Nat}, allI f k l = true → ∀ i x, l[i]? = some x → f (k + i) x = true
  | [], _, _, i, x, hx => by simp at hx
  | y :: ys, k, h, i, x, hx => by
    simp only [allI, Bool.and_eq_true] at h
    cases i with
    | zero => simp at hx; subst hx; exact h.1
    | succ i =>
      have := allI_get h.2 i x (by simpa using hx)
      rwa [show k + 1 + i = k + (i + 1) by omega] at this
theorem anyI_get {α : Type} {f : Nat → α → Bool} : ∀ {l : List α} {k : Nat}, anyI f k l = true → ∃ i x, l[i]? = some x ∧ f (k + i) x = true
  | [], _, h => by cases h
  | y :: ys, k, h => by
    simp only [anyI, Bool.or_eq_true] at h
    rcases h with h | h
    · exact ⟨0, y, by simp, h⟩
    · obtain ⟨i, x, h1, h2⟩ := anyI_get h
      exact ⟨i + 1, x, by simpa using h1, by rwa [show k + (i + 1) = k + 1 + i by omega]⟩

def rkL : List PI → Nat → Nat
  | _, 0 => 0
  | [], _ + 1 => 0
  | p :: ps, i + 1 => (if p.kd = 1 then 1 else 0) + rkL ps i
theorem rkL_succ : ∀ {l : List PI} {i : Nat} {p : PI}, l[i]? = some p → rkL l (i + 1) = rkL l i + (if p.kd = 1 then 1 else 0)
  | [], i, p, h => by simp at h
  | q :: qs, 0, p, h => by simp at h; subst h; simp [rkL]
  | q :: qs, i + 1, p, h => by
    simp only [rkL]
    rw [rkL_succ (l := qs) (i := i) (p := p) (by simpa using h)]
    omega

/-- Ancestors from masks. -/
def ancM (ms : List Nat) (i j : Nat) : Bool := Nat.blt j ms.length && Nat.testBit (ms.getD i 0) j
def isK (p : PI) (k : Nat) : Bool := Nat.beq p.kd k
theorem isK_iff {p : PI} {k : Nat} : isK p k = true ↔ p.kd = k := beq_iff

def planOk (n : Nat) (ops : List Oper) (pis : List PI) (ms : List Nat) : Bool :=
  Nat.beq pis.length ops.length && (Nat.beq ms.length ops.length && (
  allI (fun _ o => match o.dst with | some d => Nat.blt d n | none => true) 0 ops && (
  allI (fun _ p => isK p 0 || (isK p 1 || isK p 2)) 0 pis && (
  allI (fun e p => !isK p 1 || allI (fun f q => !isK q 2 || (memN f p.pf == Nat.beq q.pr (rkL pis e))) 0 pis) 0 pis && (
  allI (fun e p => !isK p 1 || p.pf.all fun f => ancM ms e f) 0 pis && (
  allI (fun f q => !isK q 2 || (Nat.ble (rkL pis ops.length) q.pr || anyI (fun e p => isK p 1 && (Nat.beq (rkL pis e) q.pr && ancM ms e f)) 0 pis)) 0 pis && (
  allI (fun f q => !isK q 2 || (Nat.ble (rkL pis f) q.pr && Nat.blt q.b (countF pis))) 0 pis && (
  allI (fun f p => !isK p 2 || allI (fun g q => !isK q 2 || (!Nat.beq p.b q.b || Nat.beq f g)) 0 pis) 0 pis && (
  allI (fun i p => !isK p 0 || ((Nat.beq p.lo 0 || anyI (fun e q => isK q 1 && (Nat.beq (rkL pis e + 1) p.lo && ancM ms i e)) 0 pis) && (Nat.ble (rkL pis ops.length) p.hi || anyI (fun e q => isK q 1 && (Nat.beq (rkL pis e) p.hi && ancM ms e i)) 0 pis))) 0 pis && (
  allI (fun i o => (List.range ms.length).all fun j => !ancM ms i j || o.after.toList.any fun e => Region.binds .any e && (Nat.blt e.on i && (Nat.beq j e.on || ancM ms e.on j))) 0 ops && (
  allI (fun i o => o.after.toList.all fun e => !Region.binds .any e || Nat.blt e.on i) 0 ops && (
  allI (fun i p => !isK p 1 || allI (fun j q => !isK q 1 || (!Nat.blt i j || ancM ms j i)) 0 pis) 0 pis && (
  allI (fun i o => allI (fun p q => match q.dst with | some d => !memN d (o.looksAt ops.toArray) || (Nat.beq p i || (ancM ms i p || ancM ms p i)) | none => true) 0 ops) 0 ops &&
  allI (fun i o => match o.dst with | some d => allI (fun j q => match q.dst with | some c => !Nat.beq d c || Nat.beq i j | none => true) 0 ops | none => true) 0 ops)))))))))))))

theorem ancM_lt {ms : List Nat} {i j : Nat} (h : ancM ms i j = true) : j < ms.length := by
  unfold ancM at h
  rw [Bool.and_eq_true] at h
  exact blt_iff.1 h.1

theorem planOk_sound {n : Nat} {ops : Array Oper} {pis : List PI} {ms : List Nat} (h : planOk n ops.toList pis ms = true) : PlanOk n ops pis (ancM ms) (rkL pis) := by
  unfold planOk at h
  simp only [Bool.and_eq_true] at h
  obtain ⟨a1, a2, a3, a4, a5, a6, a7, a8, a9, a10, a11, a12, a13, a14, a15⟩ := h
  have hl : ∀ {i : Nat} {o : Oper}, ops[i]? = some o → ops.toList[i]? = some o := fun h => by simpa using h
  have b2 := beq_iff.1 a2
  exact {
    len := by simpa using beq_iff.1 a1
    dsts := fun i o d ho hd => by
      have := allI_get a3 i o (hl ho)
      rw [hd] at this
      exact blt_iff.1 this
    kinds := fun i p hp => by
      have := allI_get a4 i p hp
      simpa [isK_iff] using this
    puts := fun e f p q hp hq hk hk2 => by
      have h1 := allI_get a5 e p hp
      rw [isK_iff.2 hk] at h1
      have h2 := allI_get (by simpa using h1) f q hq
      rw [isK_iff.2 hk2] at h2
      simp only [Bool.not_true, Bool.false_or, Nat.zero_add, beq_iff_eq] at h2
      rw [← memN_iff, h2, beq_iff]
    puts_anc := fun e f p hp hk hf => by
      have h1 := allI_get a6 e p hp
      rw [isK_iff.2 hk] at h1
      simp only [Bool.not_true, Bool.false_or, Nat.zero_add, List.all_eq_true] at h1
      exact h1 f hf
    soon := fun f q hq hk => by
      have h1 := allI_get a7 f q hq
      rw [isK_iff.2 hk] at h1
      simp only [Bool.not_true, Bool.false_or, Nat.zero_add, Bool.or_eq_true] at h1
      rcases h1 with h1 | h1
      · exact .inl (by simpa using ble_iff.1 h1)
      · obtain ⟨e, p, c1, c2⟩ := anyI_get h1
        simp only [Nat.zero_add, Bool.and_eq_true] at c2
        exact .inr ⟨e, p, c1, isK_iff.1 c2.1, beq_iff.1 c2.2.1, c2.2.2⟩
    late := fun f q hq hk => by
      have h1 := allI_get a8 f q hq
      rw [isK_iff.2 hk] at h1
      simp only [Bool.not_true, Bool.false_or, Nat.zero_add, Bool.and_eq_true] at h1
      exact ble_iff.1 h1.1
    rk0 := by cases pis <;> rfl
    rk1 := fun i p hp => rkL_succ hp
    names := fun f g p q hp hq hk hk2 he => by
      have h1 := allI_get a9 f p hp
      rw [isK_iff.2 hk] at h1
      have h2 := allI_get (by simpa using h1) g q hq
      rw [isK_iff.2 hk2] at h2
      simp only [Bool.not_true, Bool.false_or, Nat.zero_add, Bool.or_eq_true, Bool.not_eq_true'] at h2
      rcases h2 with h2 | h2
      · rw [beq_iff.2 he] at h2; cases h2
      · exact beq_iff.1 h2
    room := fun f q hq hk => by
      have h1 := allI_get a8 f q hq
      rw [isK_iff.2 hk] at h1
      simp only [Bool.not_true, Bool.false_or, Nat.zero_add, Bool.and_eq_true] at h1
      exact blt_iff.1 h1.2
    low := fun i p hp hk => by
      have h1 := allI_get a10 i p hp
      rw [isK_iff.2 hk] at h1
      simp only [Bool.not_true, Bool.false_or, Nat.zero_add, Bool.and_eq_true, Bool.or_eq_true] at h1
      rcases h1.1 with h1 | h1
      · exact .inl (beq_iff.1 h1)
      · obtain ⟨e, q, c1, c2⟩ := anyI_get h1
        simp only [Nat.zero_add, Bool.and_eq_true] at c2
        exact .inr ⟨e, q, c1, isK_iff.1 c2.1, beq_iff.1 c2.2.1, c2.2.2⟩
    high := fun i p hp hk => by
      have h1 := allI_get a10 i p hp
      rw [isK_iff.2 hk] at h1
      simp only [Bool.not_true, Bool.false_or, Nat.zero_add, Bool.and_eq_true, Bool.or_eq_true] at h1
      rcases h1.2 with h1 | h1
      · exact .inl (by simpa using ble_iff.1 h1)
      · obtain ⟨e, q, c1, c2⟩ := anyI_get h1
        simp only [Nat.zero_add, Bool.and_eq_true] at c2
        exact .inr ⟨e, q, c1, isK_iff.1 c2.1, beq_iff.1 c2.2.1, c2.2.2⟩
    anc_edge := fun i j o ho ha => by
      have h1 := allI_get a11 i o (hl ho)
      simp only [Nat.zero_add, List.all_eq_true, List.mem_range] at h1
      have h2 := h1 j (ancM_lt ha)
      rw [ha] at h2
      simp only [Bool.not_true, Bool.false_or, List.any_eq_true, Bool.and_eq_true, Bool.or_eq_true] at h2
      obtain ⟨e, c1, c2, c3, c4⟩ := h2
      exact ⟨e, by simpa using c1, c2, blt_iff.1 c3, c4.imp beq_iff.1 id⟩
    back := fun i o ho e he hb => by
      have h1 := allI_get a12 i o (hl ho)
      simp only [Nat.zero_add, List.all_eq_true] at h1
      have h2 := h1 e (by simpa using he)
      rw [hb] at h2
      exact blt_iff.1 (by simpa using h2)
    acts := fun i j p q hp hq hk hk2 hlt => by
      have h1 := allI_get a13 i p hp
      rw [isK_iff.2 hk] at h1
      have h2 := allI_get (by simpa using h1) j q hq
      rw [isK_iff.2 hk2] at h2
      simp only [Bool.not_true, Bool.false_or, Nat.zero_add, Bool.or_eq_true, Bool.not_eq_true'] at h2
      rcases h2 with h2 | h2
      · rw [blt_iff.2 hlt] at h2; cases h2
      · exact h2
    flow := fun i o p q d ho hq hd hm => by
      have h1 := allI_get a14 i o (hl ho)
      have h2 := allI_get h1 p q (hl hq)
      rw [hd] at h2
      simp only [Nat.zero_add, Bool.or_eq_true, Bool.not_eq_true'] at h2
      rcases h2 with h2 | h2 | h2 | h2
      · rw [memN_iff.2 (by simpa using hm)] at h2; cases h2
      · exact .inl (beq_iff.1 h2)
      · exact .inr (.inl h2)
      · exact .inr (.inr h2)
    uniq := fun i j o q d ho hq hd hd2 => by
      have h1 := allI_get a15 i o (hl ho)
      rw [hd] at h1
      have h2 := allI_get h1 j q (hl hq)
      rw [hd2] at h2
      simp only [Nat.zero_add, Bool.or_eq_true, Bool.not_eq_true'] at h2
      rcases h2 with h2 | h2
      · rw [beq_iff.2 rfl] at h2; cases h2
      · exact beq_iff.1 h2 }
end Go.Ce

/- The plans of a function. -/
namespace Go.Ce
open Go.RowKit

/-- The plans of the regions that draw, by the region's number: the plan and the masks of the ancestors. -/
abbrev Plans := List (Nat × List PI × List Nat)
def planAt : Plans → Nat → Option (List PI × List Nat)
  | [], _ => none
  | (i, p) :: ps, id => cond (Nat.beq i id) (some p) (planAt ps id)
def plansB (pl : Plans) (n : Nat) : Code → Bool
  | .seq a b => plansB pl n a && plansB pl n b
  | .cond _ a b => plansB pl n a && plansB pl n b
  | .block _ c => plansB pl n c
  | .loop c => plansB pl n c
  | .scope c => plansB pl n c
  | .region id ops true => match planAt pl id with
    | some (pis, ms) => planOk n ops.toList pis ms
    | none => true
  | _ => true
theorem plansB_sound {pl : Plans} {n : Nat} : ∀ {c : Code}, plansB pl n c = true → PlansOk (fun id => (planAt pl id).map (·.1)) n c
  | .seq a b, h => by
    simp only [plansB, Bool.and_eq_true] at h
    exact ⟨plansB_sound h.1, plansB_sound h.2⟩
  | .cond _ a b, h => by
    simp only [plansB, Bool.and_eq_true] at h
    exact ⟨plansB_sound h.1, plansB_sound h.2⟩
  | .block _ c, h => by
    simp only [plansB] at h
    exact plansB_sound (c := c) h
  | .loop c, h => by
    simp only [plansB] at h
    exact plansB_sound (c := c) h
  | .scope c, h => by
    simp only [plansB] at h
    exact plansB_sound (c := c) h
  | .region id ops true, h => by
    intro pis hp
    dsimp only at hp
    simp only [plansB] at h
    cases hpl : planAt pl id with
    | none => rw [hpl] at hp; cases hp
    | some q =>
      obtain ⟨p, ms⟩ := q
      rw [hpl] at hp h
      cases hp
      exact ⟨_, _, planOk_sound h⟩
  | .region id ops false, _ => trivial
  | .skip, _ => trivial
  | .exit _, _ => trivial
  | .goto _, _ => trivial
  | .label _, _ => trivial
  | .ret, _ => trivial
  | .rangeFunc .., _ => trivial
  | .refuse _, _ => trivial
theorem plansB_none {n : Nat} : ∀ {c : Code}, PlansOk (fun _ => none) n c
  | .seq a b => ⟨plansB_none, plansB_none⟩
  | .cond _ a b => ⟨plansB_none, plansB_none⟩
  | .block _ c => plansB_none (c := c)
  | .loop c => plansB_none (c := c)
  | .region id ops true => fun pis hp => by cases hp
  | .region id ops false => trivial
  | .skip => trivial
  | .exit _ => trivial
  | .goto _ => trivial
  | .label _ => trivial
  | .ret => trivial
  | .rangeFunc .. => trivial
  | .scope c => plansB_none (c := c)
  | .refuse _ => trivial
end Go.Ce
