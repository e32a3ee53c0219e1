/- Calls whose answers are kept: evaluated once, on what they read alone. -/
import Derived.Test.YtpbpeoijejocaaaGreatDoorCeCode
namespace Go.Ce

mutual
/-- All names lie below M. -/
def belowV (M : Nat) : AV → Bool
  | .ptr b _ => Nat.blt b M
  | .slice b _ _ _ _ => Nat.blt b M
  | .map b => Nat.blt b M
  | .yld b => Nat.blt b M
  | .fn _ a c => belowVs M a && belowVs M c
  | .iface _ v => belowV M v
  | .agg cs => belowVs M cs
  | .tuple cs => belowVs M cs
  | _ => true
def belowVs (M : Nat) : List AV → Bool
  | [] => true
  | a :: l => belowV M a && belowVs M l
end

theorem nm_cut {r r' : Names} {b x : Nat} (h : r' b = r b) (hn : nm r b = some x) : nm r' b = some x := by
  unfold nm at *
  rw [h]
  exact hn
mutual
theorem R.cut {r r' : Names} {M : Nat} (hp : ∀ b, b < M → r' b = r b) : ∀ {a : AV} {v : Value}, R r a v → belowV M a = true → R r' a v
  | _, _, .int k n, _ => .int k n
  | _, _, .bool b, _ => .bool b
  | _, _, .str s, _ => .str s
  | _, _, .ptr b off x h, hb => .ptr b off x (nm_cut (hp b (blt_iff.1 hb)) h)
  | _, _, .nilptr, _ => .nilptr
  | _, _, .slice b off len cap cap' x ex h hl hc he hz, hb => .slice b off len cap cap' x ex (nm_cut (hp b (blt_iff.1 hb)) h) hl hc he (fun e o => by
      have := hz e o
      unfold cp at *
      rw [hp b (blt_iff.1 hb)]
      exact this)
  | _, _, .nilslice, _ => .nilslice
  | _, _, .map b x h, hb => .map b x (nm_cut (hp b (blt_iff.1 hb)) h)
  | _, _, .nilmap, _ => .nilmap
  | _, _, .fn f a c a' c' h1 h2, hb => by
    simp only [belowV, Bool.and_eq_true] at hb
    exact .fn f a c a' c' (Rs.cut hp h1 hb.1) (Rs.cut hp h2 hb.2)
  | _, _, .nilfn, _ => .nilfn
  | _, _, .yld b x h, hb => .yld b x (nm_cut (hp b (blt_iff.1 hb)) h)
  | _, _, .iface t a v h, hb => .iface t a v (R.cut hp h hb)
  | _, _, .nilif, _ => .nilif
  | _, _, .agg a vs h, hb => .agg a vs (Rs.cut hp h hb)
  | _, _, .tuple a vs h, hb => .tuple a vs (Rs.cut hp h hb)
theorem Rs.cut {r r' : Names} {M : Nat} (hp : ∀ b, b < M → r' b = r b) : ∀ {a : List AV} {v : List Value}, Rs r a v → belowVs M a = true → Rs r' a v
  | _, _, .nil, _ => .nil
  | _, _, .cons a v as vs h hs, hb => by
    simp only [belowVs, Bool.and_eq_true] at hb
    exact .cons a v as vs (R.cut hp h hb.1) (Rs.cut hp hs hb.2)
end

/-- A call, what it reads, and its answer. -/
structure Mem where
  f : FuncId
  args : List AV
  m : Nat
  reads : List (Nat × List AV × Bool)
  res : AV
def readsT : List (Nat × List AV × Bool) → PT AB → PT AB
  | [], t => t
  | (b, cs, ex) :: l, t => readsT l (t.set 16 b (.cells cs 0 ex true))
def memH (e : Mem) : AH := ⟨e.m, readsT e.reads .nil⟩
def readsBelow (M : Nat) : List (Nat × List AV × Bool) → Bool
  | [] => true
  | (b, cs, _) :: l => Nat.blt b M && (belowVs M cs && readsBelow M l)
def sameRes (e : Mem) : Option (AV × AH) → Bool
  | some (a, _) => sameV a e.res
  | none => false
def memOk (E : Env) (k : Nat) (e : Mem) : Bool := Nat.ble e.m 65536 && (readsBelow e.m e.reads && (belowVs e.m e.args && (belowV 0 e.res && sameRes e (callA E k e.f e.args (memH e)))))
def sameB (a b : Bool) : Bool := cond a b (!b)
def readsSame (H : AH) : List (Nat × List AV × Bool) → Bool
  | [] => true
  | (b, cs, ex) :: l => match H.get b with
    | some (.cells cs' _ ex' _) => sameVs cs' cs && (sameB ex' ex && readsSame H l)
    | _ => false
def memFind (f : FuncId) (args : List AV) (H : AH) : List Mem → Option AV
  | [] => none
  | e :: es => cond (Nat.beq e.f f && (sameVs args e.args && readsSame H e.reads)) (some e.res) (memFind f args H es)
def memO (tab : List Mem) (fs : List FuncId) (f : FuncId) : Option (List AV → AH → Option (AV × AH)) :=
  cond (memN f fs) (some fun args H => match memFind f args H tab with | some a => some (a, H) | none => none) none

theorem readsT_get {M : Nat} (hM : M ≤ 65536) {b : Nat} (hb : b < M) {o : AB} : ∀ {l : List (Nat × List AV × Bool)} {t : PT AB}, readsBelow M l = true → PT.get 16 (readsT l t) b = some o → (∃ cs ex, (b, cs, ex) ∈ l ∧ o = .cells cs 0 ex true) ∨ PT.get 16 t b = some o
  | [], t, _, h => .inr h
  | (b', cs, ex) :: l, t, hl, h => by
    simp only [readsBelow, Bool.and_eq_true] at hl
    obtain ⟨h1, h2, h3⟩ := hl
    have hb' := blt_iff.1 h1
    rcases readsT_get hM hb h3 h with ⟨cs', ex', hm, ho⟩ | hg
    · exact .inl ⟨cs', ex', .tail _ hm, ho⟩
    · by_cases he : b' = b
      · subst he
        rw [PT.get_set_same] at hg
        cases hg
        exact .inl ⟨cs, ex, .head _, rfl⟩
      · rw [PT.get_set_other 16 t b' b _ (by omega) (by omega) he] at hg
        exact .inr hg
theorem readsBelow_mem {M : Nat} : ∀ {l : List (Nat × List AV × Bool)}, readsBelow M l = true → ∀ {b : Nat} {cs : List AV} {ex : Bool}, (b, cs, ex) ∈ l → belowVs M cs = true
  | (b', cs', ex') :: l, h, b, cs, ex, hm => by
    simp only [readsBelow, Bool.and_eq_true] at h
    cases hm with
    | head => exact h.2.1
    | tail _ hm => exact readsBelow_mem h.2.2 hm
theorem readsSame_mem {H : AH} : ∀ {l : List (Nat × List AV × Bool)}, readsSame H l = true → ∀ {b : Nat} {cs : List AV} {ex : Bool}, (b, cs, ex) ∈ l → ∃ e ro, H.get b = some (.cells cs e ex ro)
  | (b', cs', ex') :: l, h, b, cs, ex, hm => by
    simp only [readsSame] at h
    split at h
    · rename_i cs2 e ex2 ro hg
      simp only [Bool.and_eq_true] at h
      obtain ⟨h1, h2, h3⟩ := h
      cases hm with
      | head =>
        have := sameVs_eq h1
        subst this
        have : ex2 = ex' := by cases ex2 <;> cases ex' <;> simp_all [sameB]
        subst this
        exact ⟨e, ro, hg⟩
      | tail _ hm => exact readsSame_mem h3 hm
    · cases h

section
variable {E : Env} {w0 w w' : World} {B0 : Nat → Prop} {r : Names} {H : AH}

/-- Old blocks are as they were. -/
theorem HR.later (h : HR E w0 B0 r H w) (ho : Off (fun x => x < w.heap.size) w w') : HR E w0 B0 r H w' where
  len := h.len
  lim := h.lim
  blk := fun b x o hb hg => by
    cases hl : o.live with
    | true =>
      rw [ho.block x (h.lt_size hb hg hl)]
      exact h.blk b x o hb hg
    | false => cases o <;> simp [AB.live] at hl; trivial
  own := h.own
  inj := h.inj
  below := h.below.trans ⟨ho.os, ho.tape, ho.output, ho.size, fun k hk => ho.block k (h.base k hk)⟩
  base := fun k hk => Nat.lt_of_lt_of_le (h.base k hk) ho.size
  glob := h.glob
  ro := h.ro
  based := h.based
  siz := fun b x cs e k n vs e' fz hb hg hk hn hx => by
    rw [ho.block x (h.lt_size hb hg rfl)] at hx
    exact h.siz b x cs e k n vs e' fz hb hg hk hn hx

/-- What is read alone. -/
theorem HR.reads (h : HR E w0 B0 r H w) {E' : Env} (hb : E'.base = fun x => x < w.heap.size) {e : Mem} (hm : e.m ≤ 65536) (hl : readsBelow e.m e.reads = true) (hs : readsSame H e.reads = true) (hg : ∀ g b, E'.glob g = some b → E.glob g = some b ∧ b < e.m) :
    HR E' w (fun x => x < w.heap.size) (fun b => if b < e.m then r b else none) (memH e) w := by
  have hnm : ∀ b x, nm (fun b => if b < e.m then r b else none) b = some x → b < e.m ∧ nm r b = some x := fun b x hx => by
    unfold nm at hx
    dsimp only at hx
    split at hx
    · rename_i hlt
      exact ⟨hlt, hx⟩
    · cases hx
  have hget : ∀ b o, b < e.m → (memH e).get b = some o → ∃ cs ex, (b, cs, ex) ∈ e.reads ∧ o = .cells cs 0 ex true := fun b o hlt ho => by
    rcases readsT_get hm hlt hl ho with h1 | h1
    · exact h1
    · rw [PT.get_nil] at h1
      cases h1
  exact {
    len := fun b hb => if_neg (by show ¬ b < e.m; exact Nat.not_lt.2 hb)
    lim := hm
    blk := fun b x o hx ho => by
      obtain ⟨h1, h2⟩ := hnm b x hx
      obtain ⟨cs, ex, h3, rfl⟩ := hget b o h1 ho
      obtain ⟨e2, ro, h4⟩ := readsSame_mem hs h3
      obtain ⟨vs, e', fz, h5, ⟨l, rest, h6, h7, h8⟩, _⟩ := h.blk b x _ h2 h4
      exact ⟨vs, e', fz, h5, ⟨l, rest, h6, h7.cut (fun b hb => if_pos hb) (readsBelow_mem hl h3), h8⟩, fun hh => by cases hh⟩
    own := fun b x o hx ho hown => by
      obtain ⟨cs, ex, _, rfl⟩ := hget b o (hnm b x hx).1 ho
      cases hown
    inj := fun b b' x o o' hx _ ho _ hown => by
      obtain ⟨cs, ex, _, rfl⟩ := hget b o (hnm b x hx).1 ho
      cases hown
    below := Off.refl _ _
    base := fun _ hk => hk
    glob := fun g b hgb => by
      obtain ⟨h1, h2⟩ := hg g b hgb
      have := h.glob g b h1
      unfold nm at *
      dsimp only
      rw [if_pos h2]
      exact this
    ro := fun b x o hx ho hl' hown => by
      obtain ⟨h1, h2⟩ := hnm b x hx
      obtain ⟨cs, ex, h3, rfl⟩ := hget b o h1 ho
      obtain ⟨e2, ro, h4⟩ := readsSame_mem hs h3
      rw [hb]
      exact h.lt_size h2 h4 rfl
    based := fun x hx => by rw [hb] at hx; exact hx
    siz := fun b x cs e2 k n vs e' fz hx ho => by
      obtain ⟨cs', ex, _, hc⟩ := hget b _ (hnm b x hx).1 ho
      cases hc }

theorem mem_sound {EF : (Nat → Prop) → Env} (hE : ∀ base, EnvOk (EF base)) (hb : ∀ base, (EF base).base = base) (hP : ∀ base, (EF base).P = E.P) (hg : ∀ base, (EF base).glob = E.glob) {e : Mem} (hgl : ∀ g b, E.glob g = some b → b < e.m)
    {k : Nat} (hk : ∀ base, memOk (EF base) k e = true) (h : HR E w0 B0 r H w) (hs : readsSame H e.reads = true) {vs : Array Value} (hR : Rs r e.args vs.toList) : Calls E.P e.f vs w (Ans E w0 B0 r e.res H) := by
  have hk := hk (fun x => x < w.heap.size)
  unfold memOk at hk
  simp only [Bool.and_eq_true] at hk
  obtain ⟨h1, h2, h3, h4, h5⟩ := hk
  unfold sameRes at h5
  split at h5
  · rename_i a H' hc
    have := sameV_eq h5
    subst this
    have hH := h.reads (E' := EF fun x => x < w.heap.size) (hb _) (ble_iff.1 h1) h2 hs (fun g b hgb => by rw [hg] at hgb; exact ⟨hgb, hgl g b hgb⟩)
    have hC := callA_sound (hE _) hc hH (hR.cut (fun b hb => if_pos hb) h3)
    rw [hP] at hC
    refine Calls.mono hC (fun en w' he => ?_)
    cases en with
    | panicked c => exact he.elim
    | outgrown => exact he.elim
    | returned v =>
      obtain ⟨r', _, hv, hH'⟩ := he
      exact ⟨r, Le.refl r, hv.cut (fun b hb => by omega) h4, h.later hH'.below⟩
  · cases h5

theorem memO_does {EF : (Nat → Prop) → Env} (hE : ∀ base, EnvOk (EF base)) (hb : ∀ base, (EF base).base = base) (hP : ∀ base, (EF base).P = E.P) (hg : ∀ base, (EF base).glob = E.glob) {tab : List Mem} {fs : List FuncId}
    (htab : ∀ e ∈ tab, (∀ g b, E.glob g = some b → b < e.m) ∧ ∃ k, ∀ base, memOk (EF base) k e = true) (hfs : ∀ f, memN f fs = true → ∃ fn c, E.P.funcs[f]? = some fn ∧ (fn.name == "runtime.NumGoroutine") = false ∧ fn.body = some c) :
    ∀ f g, memO tab fs f = some g → Does E f g := by
  intro f g hfg
  unfold memO at hfg
  cases hm : memN f fs with
  | false => rw [hm] at hfg; cases hfg
  | true =>
    rw [hm] at hfg
    cases hfg
    refine ⟨hfs f hm, fun args H a H' hc w0 B0 r w vs hH hR => ?_⟩
    dsimp only at hc
    split at hc
    · rename_i a' hfind
      cases hc
      have key : ∀ {l : List Mem}, memFind f args H l = some a → ∃ e ∈ l, e.f = f ∧ args = e.args ∧ readsSame H e.reads = true ∧ e.res = a := by
        intro l
        induction l with
        | nil => intro hh; cases hh
        | cons e es ih =>
          intro hh
          simp only [memFind] at hh
          cases hcnd : Nat.beq e.f f && (sameVs args e.args && readsSame H e.reads) with
          | true =>
            rw [hcnd] at hh
            cases hh
            simp only [Bool.and_eq_true] at hcnd
            exact ⟨e, .head _, beq_iff.1 hcnd.1, sameVs_eq hcnd.2.1, hcnd.2.2, rfl⟩
          | false =>
            rw [hcnd] at hh
            obtain ⟨e', h1, h2⟩ := ih hh
            exact ⟨e', .tail _ h1, h2⟩
      obtain ⟨e, h1, rfl, rfl, h4, rfl⟩ := key hfind
      obtain ⟨h5, k, h6⟩ := htab e h1
      exact mem_sound hE hb hP hg h5 h6 hH h4 hR
    · cases hc
end
end Go.Ce
