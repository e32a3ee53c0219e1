/- A region that draws its order, in a round of a range over a function: reads in any order, and two stores. -/
import Derived.Test.YtpbpeoijejocaaaGreatDoorPtW
import Derived.Laws.MakeOwn
import Derived.OrdersIn
import Derived.Maps.Own
import Derived.Maps.OwnIn
import Derived.WideKeyPair
import Derived.DeepKeys4
namespace Go.Sc
open Go.RowKit Go.Proofs

section
theorem getD_set (l : Array Bool) {i : Nat} (hi : i < l.size) (p : Nat) : (l.setIfInBounds i true).getD p false = if p = i then true else l.getD p false := by
  rw [Array.getD_eq_getD_getElem?, Array.getD_eq_getD_getElem?]
  by_cases h : p = i
  · subst h
    rw [if_pos rfl, Array.getElem?_setIfInBounds_self_of_lt hi]
    rfl
  · rw [if_neg h, Array.getElem?_setIfInBounds_ne (Ne.symm h)]
theorem put_here (act : Act) {t : Nat} (v : Value) (h : t < act.tmps.size) : (act.put (some t) v).tmps.getD t undef = v := by
  simp only [Act.put]
  rw [Array.getD_eq_getD_getElem?, Array.getElem?_setIfInBounds_self_of_lt h]
  rfl
theorem put_there (act : Act) {d : Option Tmp} {t : Nat} (v : Value) (h : d ≠ some t) : (act.put d v).tmps.getD t undef = act.tmps.getD t undef := by
  cases d with
  | none => rfl
  | some d =>
    simp only [Act.put]
    rw [Array.getD_eq_getD_getElem?, Array.getD_eq_getD_getElem?, Array.getElem?_setIfInBounds_ne (fun e => h (by rw [e]))]
theorem put_size (act : Act) (d : Option Tmp) (v : Value) : (act.put d v).tmps.size = act.tmps.size := by cases d <;> simp [Act.put]
theorem put_defers (act : Act) (d : Option Tmp) (v : Value) : (act.put d v).defers = act.defers := by cases d <;> rfl
def putAll (a : Act) : List Oper → List Value → Act
  | o :: os, v :: vs => putAll (a.put o.dst v) os vs
  | _, _ => a
theorem putAll_size : ∀ (os : List Oper) (vs : List Value) (a : Act), (putAll a os vs).tmps.size = a.tmps.size
  | [], _, _ => by simp [putAll]
  | _ :: _, [], _ => by simp [putAll]
  | o :: os, v :: vs, a => by rw [putAll, putAll_size os vs, put_size]
theorem putAll_defers : ∀ (os : List Oper) (vs : List Value) (a : Act), (putAll a os vs).defers = a.defers
  | [], _, _ => by simp [putAll]
  | _ :: _, [], _ => by simp [putAll]
  | o :: os, v :: vs, a => by rw [putAll, putAll_defers os vs, put_defers]
theorem putAll_other {t : Nat} : ∀ (os : List Oper) (vs : List Value) (a : Act), (∀ o ∈ os, o.dst ≠ some t) → (putAll a os vs).tmps.getD t undef = a.tmps.getD t undef
  | [], _, _, _ => by simp [putAll]
  | _ :: _, [], _, _ => by simp [putAll]
  | o :: os, v :: vs, a, h => by rw [putAll, putAll_other os vs _ (fun q hq => h q (.tail _ hq)), put_there a v (h o (.head _))]
def noCallB : Op → Bool
  | .call _ | .defer _ | .go _ | .select .. => false
  | _ => true
def afterB (o : Oper) (j : Nat) : Bool := o.after.any fun e => Region.binds .any e && e.on == j
/-- What is to be seen of the region's text. -/
def drawnOk (n : Nat) (ops : Array Oper) (e1 e2 : Nat) : Bool :=
  (List.range ops.size).all fun i => match ops[i]? with
    | none => false
    | some o => o.guard.isNone && noCallB o.op && (match o.dst with | some t => decide (t < n) | none => i == e1 || i == e2) && (o.dst.isNone == (i == e1 || i == e2)) &&
      (o.after.all fun e => !Region.binds .any e || decide (e.on < i)) &&
      ((List.range ops.size).all fun j => match ops[j]? with
        | none => false
        | some q => (i == j || q.dst.isNone || q.dst != o.dst) && (q.dst.isNone || afterB o j || o.op.operands.all fun x => match x, q.dst with | .tmp t, some d => t != d | _, _ => true)) &&
      (i != e2 || afterB o e1)
structure DrawnOk (n : Nat) (ops : Array Oper) (e1 e2 i : Nat) (o : Oper) : Prop where
  guard : o.guard = none
  call : noCallB o.op = true
  lt : ∀ t, o.dst = some t → t < n
  none : o.dst = none ↔ i = e1 ∨ i = e2
  back : ∀ e ∈ o.after, Region.binds .any e = true → e.on < i
  uniq : ∀ j q t, ops[j]? = some q → q.dst = some t → o.dst = some t → i = j
  flow : ∀ j q t, ops[j]? = some q → q.dst = some t → Operand.tmp t ∈ o.op.operands → ∃ e ∈ o.after, Region.binds .any e = true ∧ e.on = j
  two : i = e2 → ∃ e ∈ o.after, Region.binds .any e = true ∧ e.on = e1
theorem afterB_iff {o : Oper} {j : Nat} (h : afterB o j = true) : ∃ e ∈ o.after, Region.binds .any e = true ∧ e.on = j := by
  unfold afterB at h
  obtain ⟨e, he, h⟩ := Array.any_eq_true'.1 h
  simp only [Bool.and_eq_true, beq_iff_eq] at h
  exact ⟨e, he, h⟩
theorem drawnOk_iff {n : Nat} {ops : Array Oper} {e1 e2 : Nat} (h : drawnOk n ops e1 e2 = true) {i : Nat} {o : Oper} (ho : ops[i]? = some o) : DrawnOk n ops e1 e2 i o := by
  have hi := (Array.getElem?_eq_some_iff.1 ho).1
  unfold drawnOk at h
  have h := List.all_eq_true.1 h i (List.mem_range.2 hi)
  rw [ho] at h
  simp only [Bool.and_eq_true] at h
  obtain ⟨⟨⟨⟨⟨⟨g, c⟩, lt⟩, nn⟩, bk⟩, fl⟩, tw⟩ := h
  refine ⟨by simpa using g, c, fun t ht => ?_, ?_, fun e he hb => ?_, fun j q t hq hd hd' => ?_, fun j q t hq hd hx => ?_, fun he => ?_⟩
  · rw [ht] at lt; simpa using lt
  · have nn : o.dst.isNone = (i == e1 || i == e2) := by simpa using nn
    rw [← Option.isNone_iff_eq_none, nn]
    simp
  · have := Array.all_eq_true'.1 bk e he
    rw [hb] at this
    simpa using this
  · have hj := (Array.getElem?_eq_some_iff.1 hq).1
    have := List.all_eq_true.1 fl j (List.mem_range.2 hj)
    rw [hq] at this
    simp only [Bool.and_eq_true] at this
    have := this.1
    rw [hd, hd'] at this
    simpa using this
  · have hj := (Array.getElem?_eq_some_iff.1 hq).1
    have := List.all_eq_true.1 fl j (List.mem_range.2 hj)
    rw [hq] at this
    simp only [Bool.and_eq_true, Bool.or_eq_true] at this
    rcases this.2 with (h1 | h1) | h1
    · rw [hd] at h1; cases h1
    · exact afterB_iff h1
    · have := Array.all_eq_true'.1 h1 _ hx
      rw [hd] at this
      simp at this
  · rw [he] at tw
    simp at tw
    exact afterB_iff tw
/-- All operations but the two stores read, and turn nothing. -/
def AllReads (P : Program) (af : Act) (W : World) : List Oper → Prop
  | [] => True
  | o :: os => (o.dst = none ∨ ∃ t, o.dst = some t ∧ (execOp af.eval o).run P W = .ok (.value (af.tmps.getD t undef)) W) ∧ AllReads P af W os
theorem AllReads.mem {P : Program} {af : Act} {W : World} : ∀ {l : List Oper}, AllReads P af W l → ∀ o ∈ l, o.dst = none ∨ ∃ t, o.dst = some t ∧ (execOp af.eval o).run P W = .ok (.value (af.tmps.getD t undef)) W
  | [], _, o, ho => absurd ho (by simp)
  | q :: os, h, o, ho => by
    rcases List.mem_cons.1 ho with e | ho
    · rw [e]; exact h.1
    · exact AllReads.mem (l := os) h.2 o ho
theorem ready_iff {ops : Array Oper} {l : Array Bool} (hsz : l.size = ops.size) {i : Nat} : i ∈ Region.ready .any ops l ↔ ∃ o, ops[i]? = some o ∧ l.getD i false = false ∧ ∀ e ∈ o.after, Region.binds .any e = true → l.getD e.on false = true := by
  have any : ∀ {i : Nat}, i < l.size → ∀ a b : Bool, l.getD i a = l.getD i b := fun h a b => by
    rw [Array.getD_eq_getD_getElem?, Array.getD_eq_getD_getElem?]
    simp [h]
  unfold Region.ready
  rw [List.mem_filter, List.mem_range]
  constructor
  · rintro ⟨h1, h2⟩
    obtain ⟨o, ho⟩ : ∃ o, ops[i]? = some o := ⟨ops[i], by simp [h1]⟩
    rw [ho] at h2
    simp only [Option.map_some, Option.getD_some, Bool.and_eq_true, Bool.not_eq_true'] at h2
    refine ⟨o, ho, by rw [any (by omega) false true]; exact h2.1, fun e he hb => ?_⟩
    have := Array.all_eq_true'.1 h2.2 e he
    rw [hb] at this
    simpa using this
  · rintro ⟨o, ho, h1, h2⟩
    have hi := (Array.getElem?_eq_some_iff.1 ho).1
    refine ⟨hi, ?_⟩
    rw [ho]
    simp only [Option.map_some, Option.getD_some, Bool.and_eq_true, Bool.not_eq_true']
    refine ⟨by rw [any (by omega) true false]; exact h1, Array.all_eq_true'.2 (fun e he => ?_)⟩
    cases hb : Region.binds .any e with
    | false => rfl
    | true => simpa using h2 e he hb
theorem filter_fewer {p q : Nat → Bool} : ∀ {L : List Nat}, (∀ x, q x = true → p x = true) → (∃ x ∈ L, p x = true ∧ q x = false) → (L.filter q).length < (L.filter p).length
  | [], _, h => by obtain ⟨x, hx, _⟩ := h; cases hx
  | y :: L, h1, ⟨x, hx, hp, hq⟩ => by
    have hle : ∀ L : List Nat, (L.filter q).length ≤ (L.filter p).length := by
      intro L
      induction L with
      | nil => simp
      | cons z L ih =>
        simp only [List.filter_cons]
        cases hz : q z with
        | true => rw [h1 z hz]; simpa using ih
        | false => cases p z <;> simp <;> omega
    simp only [List.filter_cons]
    rcases List.mem_cons.1 hx with rfl | hx
    · rw [hp, hq]
      have := hle L
      simp
      omega
    · have := filter_fewer h1 ⟨x, hx, hp, hq⟩
      cases hy : q y with
      | true => rw [h1 y hy]; simpa using this
      | false => cases p y <;> simp <;> omega
def unlisted (ops : Array Oper) (l : Array Bool) : Nat := ((List.range ops.size).filter fun i => !l.getD i false).length
/-- On the way. -/
structure OnWay (ops : Array Oper) (e1 e2 : Nat) (W0 W1 W2 : World) (a af : Act) (l : Array Bool) (b : Act) (W : World) : Prop where
  lsz : l.size = ops.size
  size : b.tmps.size = a.tmps.size
  defers : b.defers = a.defers
  new : ∀ i o t, ops[i]? = some o → o.dst = some t → l.getD i false = true → b.tmps.getD t undef = af.tmps.getD t undef
  old : ∀ t, (∀ i o, ops[i]? = some o → l.getD i false = true → o.dst ≠ some t) → b.tmps.getD t undef = a.tmps.getD t undef
  two : l.getD e2 false = true → l.getD e1 false = true
  world : W = if l.getD e2 false = true then W2 else if l.getD e1 false = true then W1 else W0
variable {F : Fence} {n : Nat} {P : Program} {ops : Array Oper} {Q : Exit → Act → World → Prop} {e1 e2 : Nat} {W0 W1 W2 : World} {a af : Act}
theorem OnWay.step {l : Array Bool} {b : Act} {W W' : World} (h : OnWay ops e1 e2 W0 W1 W2 a af l b W) {i : Nat} {o : Oper} (ho : ops[i]? = some o) (hok : DrawnOk a.tmps.size ops e1 e2 i o) (hr : ∀ e ∈ o.after, Region.binds .any e = true → l.getD e.on false = true)
    {v : Value} (hv : ∀ t, o.dst = some t → v = af.tmps.getD t undef) (hw : W' = if (l.setIfInBounds i true).getD e2 false = true then W2 else if (l.setIfInBounds i true).getD e1 false = true then W1 else W0) :
    OnWay ops e1 e2 W0 W1 W2 a af (l.setIfInBounds i true) (b.put o.dst v) W' := by
  have hiN : i < l.size := by rw [h.lsz]; exact (Array.getElem?_eq_some_iff.1 ho).1
  refine ⟨by simpa using h.lsz, (put_size b o.dst v).trans h.size, (put_defers b o.dst v).trans h.defers, fun p q t hq hd hl => ?_, fun t ht => ?_, fun h2 => ?_, hw⟩
  · rw [getD_set l hiN] at hl
    by_cases hpi : p = i
    · subst hpi
      rw [ho] at hq
      cases hq
      rw [hd, put_here b v (by rw [h.size]; exact hok.lt t hd)]
      exact hv t hd
    · rw [if_neg hpi] at hl
      rw [put_there b v (fun e => hpi (hok.uniq p q t hq hd e).symm)]
      exact h.new p q t hq hd hl
  · have hdi : o.dst ≠ some t := ht i o ho (by rw [getD_set l hiN, if_pos rfl])
    rw [put_there b v hdi]
    exact h.old t (fun p q hq hl => ht p q hq (by rw [getD_set l hiN]; split <;> simp [hl]))
  · rw [getD_set l hiN] at h2 ⊢
    split
    · rfl
    · by_cases e : e2 = i
      · subst e
        obtain ⟨e, he, hb, h3⟩ := hok.two rfl
        rw [← h3]
        exact hr e he hb
      · rw [if_neg e] at h2
        exact h.two h2
theorem OnWay.any {F : Fence} {n : Nat} {P : Program} {ops : Array Oper} {Q : Exit → Act → World → Prop} {e1 e2 : Nat} {W0 W1 W2 : World} {a af : Act} (hck : drawnOk a.tmps.size ops e1 e2 = true) (hne : e1 ≠ e2) (hot : ∀ t, (∀ o ∈ ops.toList, o.dst ≠ some t) → af.tmps.getD t undef = a.tmps.getD t undef)
    {o1 o2 : Oper} (h1 : ops[e1]? = some o1) (h2 : ops[e2]? = some o2) (hreads : ∀ W, W = W0 ∨ W = W1 ∨ W = W2 → AllReads P af W ops.toList)
    (hs1 : (execOp af.eval o1).run P W0 = .ok .skip W1) (hs2 : (execOp af.eval o2).run P W1 = .ok .skip W2)
    (hQ : ∀ l b W, OnWay ops e1 e2 W0 W1 W2 a af l b W → (∀ i, i < ops.size → l.getD i false = true) → Q .normal b W) :
    ∀ (fuel : Nat) (l : Array Bool) (b : Act) (W : World), OnWay ops e1 e2 W0 W1 W2 a af l b W → unlisted ops l ≤ fuel → wpAnyIn F n P .any ops Q fuel l b W
  | 0, l, b, W, hI, hu => by
    have hall : ∀ i, i < ops.size → l.getD i false = true := fun i hi => by
      cases hl : l.getD i false with
      | true => rfl
      | false =>
        have : i ∈ (List.range ops.size).filter fun i => !l.getD i false := List.mem_filter.2 ⟨List.mem_range.2 hi, by simp [hl]⟩
        have := List.length_pos_of_mem this
        unfold unlisted at hu
        omega
    refine ⟨?_, hQ l b W hI hall⟩
    cases hr : Region.ready .any ops l with
    | nil => rfl
    | cons x xs =>
      obtain ⟨o, ho, h1, _⟩ := (ready_iff hI.lsz (i := x)).1 (by rw [hr]; exact .head _)
      rw [hall x (Array.getElem?_eq_some_iff.1 ho).1] at h1
      cases h1
  | fuel + 1, l, b, W, hI, hu => by
    refine ⟨fun hr => hQ l b W hI ?_, fun i hi => ?_⟩
    · intro i
      induction i using Nat.strongRecOn with
      | _ i ih =>
        intro hi
        cases hl : l.getD i false with
        | true => rfl
        | false =>
          have ho : ops[i]? = some ops[i] := by simp [hi]
          have : i ∈ Region.ready .any ops l := (ready_iff hI.lsz).2 ⟨_, ho, hl, fun e he hb => by
            have hlt := (drawnOk_iff hck ho).back e he hb
            exact ih e.on hlt (by omega)⟩
          rw [hr] at this
          cases this
    · obtain ⟨o, ho, hl, hr⟩ := (ready_iff hI.lsz).1 hi
      have hiN := (Array.getElem?_eq_some_iff.1 ho).1
      have hiL : i < l.size := by rw [hI.lsz]; exact hiN
      have hok := drawnOk_iff hck ho
      have hev : ∀ x ∈ o.op.operands, b.eval x = af.eval x := fun x hx => by
        cases x with
        | tmp t =>
          show b.tmps.getD t undef = af.tmps.getD t undef
          by_cases hd : ∃ (j : Nat) (q : Oper), ops[j]? = some q ∧ q.dst = some t
          · obtain ⟨j, q, hq, hd⟩ := hd
            obtain ⟨e, he, hb, hj⟩ := hok.flow j q t hq hd hx
            exact hI.new j q t hq hd (by rw [← hj]; exact hr e he hb)
          · rw [hI.old t (fun j q hq _ hd' => hd ⟨j, q, hq, hd'⟩), hot t (fun q hq hd' => by
              obtain ⟨j, hj⟩ := List.getElem?_of_mem hq
              exact hd ⟨j, q, by simpa using hj, hd'⟩)]
        | const v => rfl
        | global g => rfl
        | func f => rfl
      have hsel : ∀ cs b, o.op ≠ .select cs b := fun cs b e => by have := hok.call; rw [e] at this; cases this
      have hdef : ∀ c, o.op ≠ .defer c := fun c e => by have := hok.call; rw [e] at this; cases this
      have hab : o.about P W b.eval = none := by
        unfold Oper.about
        split
        · rename_i c hc
          have := hok.call
          rw [hc] at this
          cases this
        · rfl
      have hex : execOp b.eval o = execOp af.eval o := execOp_congr o hsel hev
      have hwant : Region.wanted o (yielded ops b.tmps) = true := by simp [Region.wanted, hok.guard]
      have hfew : unlisted ops (l.setIfInBounds i true) ≤ fuel := by
        have : unlisted ops (l.setIfInBounds i true) < unlisted ops l := by
          refine filter_fewer (fun x hx => ?_) ⟨i, List.mem_range.2 hiN, by simp [hl], by rw [getD_set l hiL, if_pos rfl]; rfl⟩
          rw [getD_set l hiL] at hx
          split at hx
          · cases hx
          · exact hx
        omega
      have hE1 : e1 < l.size := by rw [hI.lsz]; exact (Array.getElem?_eq_some_iff.1 h1).1
      have hE2 : e2 < l.size := by rw [hI.lsz]; exact (Array.getElem?_eq_some_iff.1 h2).1
      unfold wpOpIn
      simp only [ho, hwant, if_true]
      unfold Oper.wpIn
      refine ⟨(fun f hf => by rw [hab] at hf; cases hf), ?_⟩
      rw [Oper.semAt_plain F _ _ hdef, hex]
      by_cases hi1 : i = e1
      · subst hi1
        rw [h1] at ho
        cases ho
        have hW : W = W0 := by
          rw [hI.world, hl, if_neg (fun h => by have := hI.two h; rw [hl] at this; cases this)]
          simp
        rw [hW, hs1]
        have h20 : l.getD e2 false = false := by
          cases h : l.getD e2 false with
          | false => rfl
          | true => have := hI.two h; rw [hl] at this; cases this
        exact OnWay.any hck hne hot h1 h2 hreads hs1 hs2 hQ fuel _ _ _ (hI.step h1 hok hr (fun t ht => by rw [hok.none.2 (.inl rfl)] at ht; cases ht) (by
          rw [getD_set l hiL, getD_set l hiL, if_neg (show ¬ e2 = i from fun e => hne e.symm), h20]
          simp)) hfew
      · by_cases hi2 : i = e2
        · subst hi2
          rw [h2] at ho
          cases ho
          have h11 : l.getD e1 false = true := by
            obtain ⟨e, he, hb, hj⟩ := hok.two rfl
            rw [← hj]
            exact hr e he hb
          have hW : W = W1 := by
            rw [hI.world, hl, h11]
            simp
          rw [hW, hs2]
          exact OnWay.any hck hne hot h1 h2 hreads hs1 hs2 hQ fuel _ _ _ (hI.step h2 hok hr (fun t ht => by rw [hok.none.2 (.inr rfl)] at ht; cases ht) (by
            rw [getD_set l hiL, if_pos rfl]
            simp)) hfew
        · have hW : W = W0 ∨ W = W1 ∨ W = W2 := by
            have hw := hI.world
            by_cases c2 : l.getD e2 false = true
            · rw [if_pos c2] at hw; exact .inr (.inr hw)
            · rw [if_neg c2] at hw
              by_cases c1 : l.getD e1 false = true
              · rw [if_pos c1] at hw; exact .inr (.inl hw)
              · rw [if_neg c1] at hw; exact .inl hw
          have g2 : (l.setIfInBounds i true).getD e2 false = l.getD e2 false := by rw [getD_set l hiL]; exact if_neg (fun e => hi2 e.symm)
          have g1 : (l.setIfInBounds i true).getD e1 false = l.getD e1 false := by rw [getD_set l hiL]; exact if_neg (fun e => hi1 e.symm)
          rcases (hreads W hW).mem o (by rw [← Array.getElem?_toList] at ho; exact List.mem_of_getElem? ho) with hd | ⟨t, hd, hrun⟩
          · exact absurd (hok.none.1 hd) (fun h => h.elim hi1 hi2)
          · rw [hrun]
            exact OnWay.any hck hne hot h1 h2 hreads hs1 hs2 hQ fuel _ _ _ (hI.step ho hok hr (fun t' ht' => by rw [hd] at ht'; cases ht'; rfl) (by
              rw [g2, g1]
              exact hI.world)) hfew
/-- The region. -/
theorem wpIn_drawn_two {id : Nat} {w : World} (e1 e2 : Nat) (hm : P.follows .mixedOrders = true) (hne : e1 ≠ e2) (hck : drawnOk a.tmps.size ops e1 e2 = true) (vs : List Value) (haf : putAll a ops.toList vs = af)
    {o1 o2 : Oper} (h1 : ops[e1]? = some o1) (h2 : ops[e2]? = some o2) (hreads : ∀ W, W = w.drew ∨ W = W1 ∨ W = W2 → AllReads P af W ops.toList)
    (hs1 : (execOp af.eval o1).run P w.drew = .ok .skip W1) (hs2 : (execOp af.eval o2).run P W1 = .ok .skip W2) (hQ : Q .normal af W2) : (Code.region id ops true).wpIn F n P Q a w := by
  refine wpIn_region_any hm (OnWay.any (W0 := w.drew) (W1 := W1) (W2 := W2) (a := a) (af := af) hck hne (fun t ht => ?_) h1 h2 hreads hs1 hs2 (fun l b W hI hall => ?_) ops.size _ _ _ ⟨by simp, rfl, rfl, fun i o t _ _ hl => ?_, fun t _ => rfl, fun h => ?_, ?_⟩ ?_)
  · rw [← haf]; exact putAll_other _ _ _ ht
  · have hE2 := (Array.getElem?_eq_some_iff.1 h2).1
    have hW : W = W2 := by rw [hI.world, hall e2 hE2, if_pos rfl]
    have hb : b = af := by
      obtain ⟨bt, bd⟩ := b
      obtain ⟨at', ad⟩ := af
      have hd : bd = ad := by
        have e1 : bd = a.defers := hI.defers
        have e2 : ad = a.defers := by have := putAll_defers ops.toList vs a; rw [haf] at this; exact this
        rw [e1, e2]
      have hsz : at'.size = a.tmps.size := by have := putAll_size ops.toList vs a; rw [haf] at this; exact this
      have ht : bt = at' := by
        refine Array.ext (by rw [hsz]; exact hI.size) fun t ht ht' => ?_
        have hh : bt.getD t undef = at'.getD t undef := by
          by_cases hd : ∃ (j : Nat) (q : Oper), ops[j]? = some q ∧ q.dst = some t
          · obtain ⟨j, q, hq, hd⟩ := hd
            exact hI.new j q t hq hd (hall j (Array.getElem?_eq_some_iff.1 hq).1)
          · have e1 : bt.getD t undef = a.tmps.getD t undef := hI.old t (fun j q hq _ hd' => hd ⟨j, q, hq, hd'⟩)
            rw [e1]
            have := putAll_other ops.toList vs a (t := t) (fun q hq hd' => by
              obtain ⟨j, hj⟩ := List.getElem?_of_mem hq
              exact hd ⟨j, q, by simpa using hj, hd'⟩)
            rw [haf] at this
            exact this.symm
        rw [Array.getD_eq_getD_getElem?, Array.getD_eq_getD_getElem?] at hh
        simpa [ht, ht'] using hh
      rw [hd, ht]
    rw [hW, hb]
    exact hQ
  · rw [Array.getD_eq_getD_getElem?, Array.getElem?_replicate] at hl
    split at hl <;> cases hl
  · rw [Array.getD_eq_getD_getElem?, Array.getElem?_replicate] at h
    split at h <;> cases h
  · have hz : ∀ i, (Array.replicate ops.size false).getD i false = false := fun i => by
      rw [Array.getD_eq_getD_getElem?, Array.getElem?_replicate]
      split <;> rfl
    rw [hz, hz]
    simp
  · unfold unlisted
    have := List.length_filter_le (fun i => !(Array.replicate ops.size false).getD i false) (List.range ops.size)
    simpa using this
end

/-! A range over a function that yields M times, M = 0 too. -/
def RanZ (J Jx : Nat → World → Prop) (M : Nat) (e : Ending) (w' : World) : Prop := (∃ v, e = .returned v) ∧ (J M w' ∨ ∃ k, k < M ∧ Jx k w')
theorem wpIn_rangeZ {P : Program} {g : Operand} {ps : Array Tmp} {assign body : Code} {Q : Exit → Act → World → Prop} {a : Act} {w : World} {α : Type}
    {gf : Nat} {lb : Array Value} (hg : a.eval g = .func (.func gf) #[] lb) (eg : ∀ args w, (callFunc gf args).run P w = .ok (.enter gf args) w)
    (d l : Nat) (hd : d = w.heap.size) (hl : l = w.heap.size + 1)
    (encs : α → Array Value) (hps : ∀ x, (encs x).size = ps.size) (Lies : Nat → α → World → Prop) (M : Nat)
    (I Ix : Nat → World → Prop) (hI : ∀ k A B, I k A → But w.heap.size A B → I k B) (hIx : ∀ k A B, Ix k A → But w.heap.size A B → Ix k B) (h0 : I 0 w)
    (iter : ∀ (J Jx : Nat → World → Prop) (W : World), (∀ k A B, J k A → Below A.heap.size A B → J k B) → (∀ k A, J k A → I k A) →
      (∀ k A x, k < M → J k A → Lies k x A → YieldAt Fence.wide 0 P l (encs x) A (Goes (J (k + 1)) (Jx k))) → J 0 W →
      CallsIn Fence.wide 0 P gf (#[.func (.yield l) #[] #[]] ++ lb) W (RanZ J Jx M))
    (Mid : Nat → α → Act → World → Prop) (hMid : ∀ k x a₁ A B, Mid k x a₁ A → But w.heap.size A B → Mid k x a₁ B)
    (hassign : ∀ k x A (K : Act → World → Prop), I k A → Lies k x A → (∀ a₁ A₂, Mid k x a₁ A₂ → Below A.heap.size A A₂ → K a₁ A₂) →
      assign.wpIn (Fence.wide.inRound l) 0 P (Exit.then K (fun _ _ _ => False)) { tmps := (ps.zip (encs x)).foldl (fun t (p, v) => t.setIfInBounds p v) a.tmps, defers := [] } A)
    (hbody : ∀ k x a₁ A, k < M → l < A.heap.size → I k A → Mid k x a₁ A → body.wpIn (Fence.wide.inRound l) 0 P (bodyEnd d l (I (k + 1)) (Ix k) A) a₁ A)
    (hdone : ∀ A, I M A → A.heap[d]? = some (.deferred (some [])) → Q .normal { a with defers := { target := .collected d, args := #[] } :: a.defers } A)
    (hstop : ∀ k A, k < M → Ix k A → A.heap[d]? = some (.deferred (some [])) → Code.ret.wpIn Fence.wide 0 P Q { a with defers := { target := .collected d, args := #[] } :: a.defers } A) :
    (Code.rangeFunc g ps assign body).wpIn Fence.wide 0 P Q a w := by
  subst hd
  subst hl
  refine wpIn_rangeFunc ?_
  intro fn hfn
  obtain ⟨rec, hrec⟩ : ∃ rec : LoopState → Option Code → Loop, rec = fun st pe => { state := st, pending := pe, fn, tmps := a.tmps, params := ps, assign, body, defers := w.heap.size } := ⟨_, rfl⟩
  have hsz : (w.alloc (.deferred (some []))).heap.size = w.heap.size + 1 := by simp
  have e1 : ((w.alloc (.deferred (some []))).alloc (.loop (rec .ready none))).heap[w.heap.size + 1]? = some (.loop (rec .ready none)) := by
    have := World.alloc_heap_new (w.alloc (.deferred (some []))) (.loop (rec .ready none)); rwa [hsz] at this
  have e2 : ((w.alloc (.deferred (some []))).alloc (.loop (rec .ready none))).heap[w.heap.size]? = some (.deferred (some [])) :=
    (Below.heap_alloc _ _ _ (by rw [hsz]; omega)).trans (World.alloc_heap_new w _)
  have e3 : Below w.heap.size w ((w.alloc (.deferred (some []))).alloc (.loop (rec .ready none))) := ((Below.refl _ w).alloc (Nat.le_refl _) _).alloc (by rw [hsz]; omega) _
  have e4 : (Instr.enterLoop fn a.tmps ps assign body Fence.wide.round).run P w = .ok (w.heap.size + 1, [{ target := .collected w.heap.size, args := #[] }]) ((w.alloc (.deferred (some []))).alloc (.loop (rec .ready none))) := by
    rw [hrec]; exact run_enterLoop_outer _ _ _ _ _
  generalize (w.alloc (.deferred (some []))).alloc (.loop (rec .ready none)) = W1 at e1 e2 e3 e4
  refine ⟨w.heap.size + 1, [{ target := .collected w.heap.size, args := #[] }], W1, { target := .fn (.func gf) lb, args := #[.func (.yield (w.heap.size + 1)) #[] #[]] }, W1, gf,
    #[.func (.yield (w.heap.size + 1)) #[] #[]] ++ lb, W1, e4, ?_, fun _ _ => trivial, ?_, fun h => by simp [Fence.wide] at h, ?_⟩
  · simp only [resolve, hg]
    simp [go_sem]
  · simp [invoke, go_sem, eg]
  have key := iter (fun k A => I k A ∧ A.heap[w.heap.size + 1]? = some (.loop (rec .ready none)) ∧ A.heap[w.heap.size]? = some (.deferred (some [])))
    (fun k A => Ix k A ∧ A.heap[w.heap.size + 1]? = some (.loop (rec .done (some .ret))) ∧ A.heap[w.heap.size]? = some (.deferred (some []))) W1
    (fun k A B h hb => ⟨hI k A B h.1 (But.of_below hb), (hb.block _ (Array.getElem?_eq_some_iff.1 h.2.1).1).trans h.2.1, (hb.block _ (Array.getElem?_eq_some_iff.1 h.2.2).1).trans h.2.2⟩)
    (fun k A h => h.1) ?_ ⟨hI 0 w W1 h0 (But.of_below e3), e1, e2⟩
  · refine key.mono ?_
    rintro e B ⟨⟨v, rfl⟩, ⟨hi, hl, hk⟩ | ⟨k, hkM, hi, hl, hk⟩⟩
    · refine ⟨none, _, (run_endLoop (P := P) hl (by rw [hrec]; simp)).trans (by rw [hrec]), hdone _ (hI _ _ _ hi (But.putObj _ hl rfl (by omega))) ((World.putObj_heap_other (by omega)).trans hk)⟩
    · refine ⟨some .ret, _, (run_endLoop (P := P) hl (by rw [hrec]; simp)).trans (by rw [hrec]), hstop k _ hkM (hIx _ _ _ hi (But.putObj _ hl rfl (by omega))) ((World.putObj_heap_other (by omega)).trans hk)⟩
  · rintro k A x hkM ⟨hi, hl, hk⟩ hx
    have hy := run_yield (P := P) (args := encs x) hl (by rw [hrec]; exact hps x)
    rw [hrec] at hy
    refine ⟨fn, _, assign, body, hy, roundIn_of_wpIn hfn (hassign k x A _ hi hx fun a₁ A₂ hm hb => ?_)⟩
    have hl2 : A₂.heap[w.heap.size + 1]? = some (.loop (rec .ready none)) := (hb.block _ (Array.getElem?_eq_some_iff.1 hl).1).trans hl
    have hk2 : A₂.heap[w.heap.size]? = some (.deferred (some [])) := (hb.block _ (Array.getElem?_eq_some_iff.1 hk).1).trans hk
    have hi2 := hI k A A₂ hi (But.of_below hb)
    refine ⟨_, run_beginRound hl2 (by rw [hrec]), ?_⟩
    have hl3 : (A₂.putObj (w.heap.size + 1) (.loop { rec .ready none with state := .busy })).heap[w.heap.size + 1]? = some (.loop { rec .ready none with state := .busy }) := World.putObj_heap_same (Array.getElem?_eq_some_iff.1 hl2).1
    have hk3 : (A₂.putObj (w.heap.size + 1) (.loop { rec .ready none with state := .busy })).heap[w.heap.size]? = some (.deferred (some [])) := (World.putObj_heap_other (by omega)).trans hk2
    refine wpIn_mono (hbody k x a₁ _ hkM (Array.getElem?_eq_some_iff.1 hl3).1 (hI k A₂ _ hi2 (But.putObj _ hl2 rfl (by omega))) (hMid k x a₁ A₂ _ hm (But.putObj _ hl2 rfl (by omega)))) ?_
    have fin : ∀ (jump : Option Code) (B : World), B.heap[w.heap.size + 1]? = some (.loop { rec .ready none with state := .busy }) → B.heap[w.heap.size]? = some (.deferred (some [])) →
        (Instr.endRound (w.heap.size + 1) jump).run P B = .ok (.bool jump.isNone) (B.putObj (w.heap.size + 1) (.loop (rec (if jump.isNone then .ready else .done) jump))) ∧
        (B.putObj (w.heap.size + 1) (.loop (rec (if jump.isNone then .ready else .done) jump))).heap[w.heap.size + 1]? = some (.loop (rec (if jump.isNone then .ready else .done) jump)) ∧
        (B.putObj (w.heap.size + 1) (.loop (rec (if jump.isNone then .ready else .done) jump))).heap[w.heap.size]? = some (.deferred (some [])) := fun jump B hb1 hb2 => by
      have := run_endRound (P := P) jump hb1
      refine ⟨?_, World.putObj_heap_same (Array.getElem?_eq_some_iff.1 hb1).1, (World.putObj_heap_other (by omega)).trans hb2⟩
      rw [hrec] at this ⊢
      exact this
    rintro e a3 B hp
    cases e with
    | normal =>
      obtain ⟨⟨hb1, hb2⟩, hi3⟩ := hp
      obtain ⟨hr, h4, h5⟩ := fin none B (hb1.trans hl3) (hb2.trans hk3)
      exact ⟨_, _, hr, true, rfl, fun _ => ⟨hI _ _ _ hi3 (But.putObj _ (hb1.trans hl3) rfl (by omega)), h4, h5⟩, fun h => by cases h⟩
    | ret =>
      obtain ⟨⟨hb1, hb2⟩, hi3⟩ := hp
      obtain ⟨hr, h4, h5⟩ := fin (some .ret) B (hb1.trans hl3) (hb2.trans hk3)
      exact ⟨_, _, hr, false, rfl, (fun h => by cases h), fun _ => ⟨hIx _ _ _ hi3 (But.putObj _ (hb1.trans hl3) rfl (by omega)), h4, h5⟩⟩
    | exit id => exact hp.elim
    | goto t => exact hp.elim
    | panic ch => exact hp.elim
    | outgrown => exact hp.elim

/-! Rows of structs in blocks of their own. -/
/-- Block g, of room for cap elements of z cells each, holds the elements l. -/
structure GRow {α : Type} (e : TypeId) (z : Nat) (f : α → List Value) (w : World) (g cap : Nat) (l : List α) : Prop where
  len : l.length ≤ cap
  blk : ∃ cur, w.heap[g]? = some (.cells cur e (0, 0)) ∧ cur.size = cap * z ∧ ∀ (i : Nat) (p : α), l[i]? = some p → ∀ (j : Nat) (u : Value), (f p)[j]? = some u → cur[i * z + j]? = some u
section
variable {α : Type} {e : TypeId} {z : Nat} {f : α → List Value} {w w' : World} {g cap : Nat} {l : List α}
theorem GRow.range (h : GRow e z f w g cap l) {i : Nat} {p : α} (hp : l[i]? = some p) : w.rangeAt g (i * z) (f p) := fun j u hu => by
  obtain ⟨cur, h1, _, h3⟩ := h.blk
  rw [cell_of_row w g (i * z + j) cur e (0, 0) h1]
  exact h3 i p hp j u hu
theorem GRow.there (h : GRow e z f w g cap l) {i : Nat} (hi : i < l.length) : w.there g (i * z) z := fun j hj => by
  obtain ⟨cur, h1, h2, _⟩ := h.blk
  have hl := h.len
  have h4 : (i + 1) * z ≤ cap * z := Nat.mul_le_mul_right z (by omega)
  rw [Nat.add_mul, Nat.one_mul] at h4
  rw [cell_of_row w g (i * z + j) cur e (0, 0) h1]
  refine ⟨by rw [Array.getElem?_eq_getElem (by omega)]; rfl, ?_⟩
  unfold World.frozen?
  simp [h1]
theorem GRow.lt (h : GRow e z f w g cap l) : g < w.heap.size := by
  obtain ⟨cur, h1, _⟩ := h.blk
  exact (Array.getElem?_eq_some_iff.1 h1).1
theorem GRow.of (h : GRow e z f w g cap l) (hb : w'.heap[g]? = w.heap[g]?) : GRow e z f w' g cap l := by
  obtain ⟨cur, h1, h2⟩ := h.blk
  exact ⟨h.len, cur, hb.trans h1, h2⟩
theorem GRow.but {N : Nat} (h : GRow e z f w g cap l) (hb : But N w w') : GRow e z f w' g cap l := by
  obtain ⟨cur, h1, h2⟩ := h.blk
  exact ⟨h.len, cur, hb.block g _ h1 (.inr rfl), h2⟩
theorem GRow.store (h : GRow e z f w g cap l) (hz : ∀ p, (f p).length = z) {i : Nat} (hi : i < l.length) (p : α) : GRow e z f (w.setCells g (i * z) (f p)) g cap (l.set i p) := by
  obtain ⟨cur, h1, h2, h3⟩ := h.blk
  obtain ⟨cur', a, b, c, d⟩ := heap_setCells g e (0, 0) (f p) (i * z) w cur h1
  have hl : l.length * z ≤ cur.size := by rw [h2]; exact Nat.mul_le_mul_right z h.len
  rw [hz] at c
  exact { len := by rw [List.length_set]; exact h.len, blk := ⟨cur', a, b.trans h2, cells_set f z hz hi hl p h3 c d⟩ }
theorem GRow.rowAt (h : GRow e z f w g cap l) : RowAt z f w (some ⟨g, 0, none⟩) l := fun k x hk => ⟨g, 0, rfl, h.lt, by rw [Nat.zero_add]; exact h.range hk⟩
theorem setCells_else (g o : Nat) (vs : List Value) (w : World) {k : Nat} (hk : k ≠ g) : (w.setCells g o vs).heap[k]? = w.heap[k]? := by
  induction vs generalizing o w with
  | nil => rfl
  | cons v r ih => rw [World.setCells, ih]; exact Below.heap_setCell w ⟨g, o, none⟩ v k hk
theorem setCells_size (g o : Nat) (vs : List Value) (w : World) : (w.setCells g o vs).heap.size = w.heap.size := size_setCells g vs o w
/-- A row that has just been made. -/
theorem GRow.made {w : World} {cap : Nat} {p0 : α} (hz : (f p0).length = z) (h0 : 0 < z) {zs : Array Value} (hzs : zs.toList = f p0) (hb : w.heap[g]? = some (.cells (madeCells zs (cap * z)) e (0, 0))) : GRow e z f w g cap (List.replicate cap p0) := by
  refine ⟨by simp, _, hb, size_madeCells _ _, fun i p hp j u hu => ?_⟩
  rw [List.getElem?_replicate] at hp
  split at hp
  case isFalse => cases hp
  rename_i hi
  cases hp
  have hj : j < z := by rw [← hz]; exact (List.getElem?_eq_some_iff.1 hu).1
  have h4 : (i + 1) * z ≤ cap * z := Nat.mul_le_mul_right z (by omega)
  rw [Nat.add_mul, Nat.one_mul] at h4
  have hsz : zs.size = z := by rw [← hz, ← hzs]; simp
  unfold madeCells
  rw [Array.getElem?_map, Array.getElem?_range, if_pos (by omega)]
  simp only [Option.map_some]
  rw [hsz, Nat.mul_comm, Nat.mul_add_mod, Nat.mod_eq_of_lt hj]
  rw [← hzs, Array.getElem?_toList] at hu
  have hj' : j < zs.size := by omega
  rw [getElem!_pos zs j hj']
  rw [← hu, Array.getElem?_eq_getElem hj']
end

theorem Vc.len (v : Vc) : v.cells.length = 6 := rfl
/-- A list by its elements. -/
def tab {α : Type} (n : Nat) (f : Nat → α) : List α := (List.range n).map f
theorem tab_len {α : Type} (n : Nat) (f : Nat → α) : (tab n f).length = n := by unfold tab; simp
theorem tab_get {α : Type} {n m : Nat} (f : Nat → α) (h : m < n) : (tab n f)[m]? = some (f m) := by unfold tab; simp [h]
theorem tab_congr {α : Type} {n : Nat} {f g : Nat → α} (h : ∀ m, m < n → f m = g m) : tab n f = tab n g := by
  unfold tab
  exact List.map_congr_left fun m hm => h m (List.mem_range.1 hm)
theorem tab_set {α : Type} {n i : Nat} {f g : Nat → α} {x : α} (hi : i < n) (hg : ∀ m, m < n → g m = if m = i then x else f m) : (tab n f).set i x = tab n g := by
  apply List.ext_getElem?
  intro m
  rcases Nat.lt_or_ge m n with hm | hm
  · rw [tab_get g hm, hg m hm]
    by_cases e : m = i
    · subst e; rw [if_pos rfl, List.getElem?_set_self (by rw [tab_len]; exact hm)]
    · rw [if_neg e, List.getElem?_set_ne (fun h => e h.symm), tab_get f hm]
  · rw [List.getElem?_eq_none (by simp [tab_len]; exact hm), List.getElem?_eq_none (by simp [tab_len]; exact hm)]
theorem tab_same {α : Type} {n : Nat} (x : α) : List.replicate n x = tab n (fun _ => x) := by
  apply List.ext_getElem?
  intro m
  rcases Nat.lt_or_ge m n with hm | hm
  · rw [tab_get _ hm, List.getElem?_replicate, if_pos hm]
  · rw [List.getElem?_eq_none (by simpa using hm), List.getElem?_eq_none (by rw [tab_len]; exact hm)]
end Go.Sc
