/- edition.Apply of a valid score: the walk. -/
import Derived.Test.YtjpbfggfoahoeaaGreatDoorSrW
namespace Go.Sc
open Go.RowKit Go.Proofs

/-- The closures of the table do what the edit says. -/
theorem call1 (K : Nat → Prop) (w : World) (d : Nat) (s : Sc) (vn vp vc : Value) (x : Ed) (h : Draft K w d s vn vp vc) (hk : x.k = 1) (hn : s.n.length ≤ 100000) :
    Calls Tryz.prog 49 #[.pointer (some ⟨d, 0, none⟩), .agg x.cells.toArray] w (Edited K w d s vn vc (editF s x)) := by
  have he : editF s x = if 0 ≤ x.i ∧ x.i < s.n.length then some ⟨s.v, s.n.set x.i.toNat x.n, s.p, s.c⟩ else none := by unfold editF; rw [if_pos hk]
  rw [he]
  exact noteE_any K w d s vn vp vc x h hn
theorem call2 (K : Nat → Prop) (w : World) (d b : Nat) (s : Sc) (vn vp vc : Value) (x : Ed) (h : Draft K w d s vn vp vc) (hb : w.heap[b]? = some (.cells #[.func (.func 51) #[] #[]] 115 (0, 0))) (hk : x.k = 2) (hp : s.p.length ≤ 100000) :
    Calls Tryz.prog 71 #[.pointer (some ⟨d, 0, none⟩), .agg x.cells.toArray, .pointer (some ⟨b, 0, none⟩)] w (Edited K w d s vn vc (editF s x)) := by
  have he : editF s x = if 0 ≤ x.i ∧ x.i < s.p.length then some ⟨s.v, s.n, s.p.set x.i.toNat x.p, s.c⟩ else none := by unfold editF; rw [if_neg (by omega), if_pos hk]
  rw [he]
  refine pairE_any K w d b 51 s _ vn vp vc x h hb (.inl rfl) fun h0 h1 w' hd => ?_
  have := setP_any K w' d s vn vp vc x.i.toNat x.p hd (by omega) hp
  rwa [Int.toNat_of_nonneg h0] at this
theorem call3 (K : Nat → Prop) (w : World) (d b : Nat) (s : Sc) (vn vp vc : Value) (x : Ed) (h : Draft K w d s vn vp vc) (hb : w.heap[b]? = some (.cells #[.func (.func 52) #[] #[]] 115 (0, 0))) (hk : x.k = 3) (hp : s.p.length ≤ 100000) :
    Calls Tryz.prog 71 #[.pointer (some ⟨d, 0, none⟩), .agg x.cells.toArray, .pointer (some ⟨b, 0, none⟩)] w (Edited K w d s vn vc (editF s x)) := by
  have he : editF s x = if 0 ≤ x.i ∧ x.i < s.p.length then some ⟨s.v, s.n, s.p.eraseIdx x.i.toNat, s.c⟩ else none := by unfold editF; rw [if_neg (by omega), if_neg (by omega), if_pos hk]
  rw [he]
  refine pairE_any K w d b 52 s _ vn vp vc x h hb (.inr rfl) fun h0 h1 w' hd => ?_
  have := drop_any K w' d s vn vp vc x.i.toNat x.p hd (by omega) hp
  rwa [Int.toNat_of_nonneg h0] at this
theorem call4 (K : Nat → Prop) (w : World) (d : Nat) (s : Sc) (vn vp vc : Value) (x : Ed) (h : Draft K w d s vn vp vc) (hk : x.k = 4) (hp : s.p.length ≤ 100000) :
    Calls Tryz.prog 54 #[.pointer (some ⟨d, 0, none⟩), .agg x.cells.toArray] w (Edited K w d s vn vc (editF s x)) := by
  have he : editF s x = some ⟨s.v, s.n, s.p ++ [x.p], s.c⟩ := by unfold editF; rw [if_neg (by omega), if_neg (by omega), if_neg (by omega), if_pos hk]
  rw [he]
  exact add_any K w d s vn vp vc x h hp
theorem edit_other {s : Sc} {x : Ed} (h : x.k ≠ 1 ∧ x.k ≠ 2 ∧ x.k ≠ 3 ∧ x.k ≠ 4) : editF s x = none := by
  unfold editF
  rw [if_neg h.1, if_neg h.2.1, if_neg h.2.2.1, if_neg h.2.2.2]
/-- A guarded load of a row. -/
theorem wpList_load_mid_g {P : Program} {ops : Array Oper} {rest : List Oper} {op : Oper} {a : Act} {w : World} {Q : Exit → Act → World → Prop} (hgd : Region.wanted op (yielded ops a.tmps) = true) (ty : TypeId) (x : Operand) (ho : op.op = .load ty x)
    (b o : Nat) (hx : a.eval x = .pointer (some ⟨b, o, none⟩)) (cs : List Value) (d : TypeDesc) (hc : w.rangeAt b o cs)
    (hu : P.underlying ty = some d) (hd : d.isRow = true) (hi : (P.info? ty).map (·.size) = some cs.length)
    (h : wpList P ops Q rest (a.put op.dst (.agg cs.toArray)) w) : wpList P ops Q (op :: rest) a w :=
  wpList_step fun K hK => by
    rw [if_pos hgd]
    exact wp_load_mid ty x ho b o hx cs d hc hu hd hi (hK _ _ h)
/-- A row is stored into a new block of its size. -/
theorem there_new (w : World) (cs : Array Value) (t : TypeId) : (w.alloc (.cells cs t)).there w.heap.size 0 cs.size := fun j hj => by
  rw [cell_of_row _ w.heap.size (0 + j) cs t (0, 0) (heap_alloc_at w _)]
  refine ⟨by rw [Array.getElem?_eq_getElem (by omega)]; rfl, ?_⟩
  unfold World.frozen?
  rw [heap_alloc_at w _]
  simp
theorem set_new (w : World) (zs : Array Value) (t : TypeId) (cs : List Value) (h : cs.length = zs.size) : ((w.alloc (.cells zs t)).setCells w.heap.size 0 cs).heap[w.heap.size]? = some (.cells cs.toArray t (0, 0)) ∧ Below w.heap.size w ((w.alloc (.cells zs t)).setCells w.heap.size 0 cs) := by
  obtain ⟨cur, h1, h2, _, h4⟩ := heap_setCells w.heap.size t (0, 0) cs 0 (w.alloc (.cells zs t)) zs (heap_alloc_at w _)
  refine ⟨?_, ?_⟩
  · rw [h1]
    have : cur = cs.toArray := by
      apply Array.ext
      · simp [h2, h]
      · intro i hi hj
        have hj' : i < cs.length := by simpa using hj
        have := h4 i cs[i] (by omega) (List.getElem?_eq_getElem hj')
        rw [Nat.zero_add, Array.getElem?_eq_getElem hi] at this
        simpa using Option.some.inj this
    rw [this]
  · have hj := (Just.refl w.heap.size (w.alloc (.cells zs t))).setCells cs 0
    have hb := (Below.refl w.heap.size w).alloc (Nat.le_refl _) (.cells zs t)
    exact ⟨hj.os.trans hb.os, hj.tape.trans hb.tape, hj.output.trans hb.output, Nat.le_trans hb.size hj.size, fun k hk => (hj.block k (by simp; omega) (by omega)).trans (hb.block k hk)⟩
theorem one_ed (x : Ed) : x.cells.toArray.all (·.oneCell') = true := by kernel_rfl
/-- What the look-up answers, in one. -/
theorem look_any {w : World} {M b c : Nat} (h : TabAt w M b c) (k : Int) : ∃ fv ok, (Instr.lookup 91 (.map (some M)) (.int .i64 k) true).run Tryz.prog w = .ok (.tuple #[fv, .bool ok]) w ∧
    ((k = 1 ∧ fv = .func (.func 49) #[] #[] ∧ ok = true) ∨ (k = 2 ∧ fv = fnV 71 b ∧ ok = true) ∨ (k = 3 ∧ fv = fnV 71 c ∧ ok = true) ∨ (k = 4 ∧ fv = .func (.func 54) #[] #[] ∧ ok = true) ∨ ((k ≠ 1 ∧ k ≠ 2 ∧ k ≠ 3 ∧ k ≠ 4) ∧ fv = .nilFunc ∧ ok = false)) := by
  by_cases h1 : k = 1
  · subst h1; exact ⟨_, _, look1 h, .inl ⟨rfl, rfl, rfl⟩⟩
  by_cases h2 : k = 2
  · subst h2; exact ⟨_, _, look2 h, .inr (.inl ⟨rfl, rfl, rfl⟩)⟩
  by_cases h3 : k = 3
  · subst h3; exact ⟨_, _, look3 h, .inr (.inr (.inl ⟨rfl, rfl, rfl⟩))⟩
  by_cases h4 : k = 4
  · subst h4; exact ⟨_, _, look4 h, .inr (.inr (.inr (.inl ⟨rfl, rfl, rfl⟩)))⟩
  · exact ⟨_, _, look0 h ⟨h1, h2, h3, h4⟩, .inr (.inr (.inr (.inr ⟨⟨h1, h2, h3, h4⟩, rfl, rfl⟩)))⟩
theorem EApply.state {s s' : Sc} {l : List Ed} {w w' : World} (hv : validOk s) (hl : l.length ≤ 200) (he : editsF s l = some s') (hvs : ¬ validOk s') (hb : Below w.heap.size w w') : EApply s l w (.returned (.tuple #[.agg #[.int .i64 0, .slice none 0 0, .slice none 0 0, .slice none 0 0], .int .i64 6])) w' :=
  ⟨zeroSc, zeroLay, 6, .inr ⟨hv, hl, s', he, .inr ⟨hvs, rfl, rfl⟩⟩, rfl, zero_at w', ⟨Nat.le_refl _, Nat.le_refl _⟩, ⟨⟨fun _ => rfl, fun _ => rfl, fun _ => rfl⟩, zero_new _⟩, hb⟩
theorem EApply.good {K : Nat → Prop} {s s' : Sc} {l : List Ed} {w0 w w' : World} {d R : Nat} {y : Lay} (h : Draft K w d s' (.slice y.o1 s'.n.length y.k1) (.slice y.o2 s'.p.length y.k2) (.slice y.o3 s'.c.length y.k3)) (hR : K R)
    (hblk : ∀ g, g < w.heap.size → g ≠ R → w'.heap[g]? = w.heap[g]?) (hln : s'.n.length ≤ 1000000 ∧ s'.p.length ≤ 1000000 ∧ s'.c.length ≤ 1000000)
    (hv : validOk s) (hl : l.length ≤ 200) (he : editsF s l = some s') (hvs : validOk s') (hK : ∀ g, ¬ K g → g ≠ d → w0.heap.size ≤ g) (hb : Below w0.heap.size w0 w') : EApply s l w0 (.returned (.tuple #[.agg (s'.cells y), .int .i64 0])) w' := by
  have hnew := h.fresh hK
  obtain ⟨⟨o1, k1, o2, k2, o3, k3⟩, e1, e2, e3, hsc, hcap, hnil⟩ := h.answer hR hblk hln.1 hln.2.1 hln.2.2
  obtain ⟨p1, q1, p2, q2, p3, q3⟩ := y
  simp only [Value.slice.injEq, true_and] at e1 e2 e3
  obtain ⟨rfl, rfl⟩ := e1
  obtain ⟨rfl, rfl⟩ := e2
  obtain ⟨rfl, rfl⟩ := e3
  exact ⟨s', _, 0, .inr ⟨hv, hl, s', he, .inl ⟨hvs, rfl, rfl⟩⟩, rfl, hsc, hcap, ⟨hnil, hnew⟩, hb⟩
theorem cell_one {w : World} {o : Obj} {p : Addr} (h : p.block < w.heap.size) : (w.alloc o).cell? p = w.cell? p := ((Below.refl _ w).alloc (Nat.le_refl _) o).cell h
set_option maxRecDepth 100000 in
set_option maxHeartbeats 16000000 in
theorem apply_good (s : Sc) (y : Lay) (l : List Ed) (o : Option Addr) (cap : Nat) (w : World) (h : ScAt w s y) (hn : NilOk y) (hL : EdsAt w o l) (hv : validOk s) (hlen : l.length ≤ 200) :
    Calls Tryz.prog 11 #[.agg (s.cells y), .slice o l.length cap] w (EApply s l w) := by
  have HV := Lib.hid hv
  have HN := Lib.hid hn
  have HL := Lib.hid hL
  have HS := Lib.hid h
  have hb0 : Below w.heap.size w ((w.alloc (.cells (s.cells y) 26)).alloc Z26) := ((Below.refl _ w).alloc (Nat.le_refl _) _).alloc (by simp) _
  have HB0 := Lib.hid hb0
  have HS0 := Lib.hid (h.below hb0)
  clear h hb0 hv hn hL
  obtain ⟨V, N, P, C⟩ := s
  obtain ⟨o1, k1, o2, k2, o3, k3⟩ := y
  have HB0 : Hid (Below w.heap.size w ((w.alloc (.cells #[.int .i64 V, .slice o1 N.length k1, .slice o2 P.length k2, .slice o3 C.length k3] 26)).alloc Z26)) := HB0
  have HS0 : Hid (ScAt ((w.alloc (.cells #[.int .i64 V, .slice o1 N.length k1, .slice o2 P.length k2, .slice o3 C.length k3] 26)).alloc Z26) ⟨V, N, P, C⟩ ⟨o1, k1, o2, k2, o3, k3⟩) := HS0
  show Calls Tryz.prog 11 #[.agg #[.int .i64 V, .slice o1 N.length k1, .slice o2 P.length k2, .slice o3 C.length k3], .slice o l.length cap] w _
  have hd : decide ((l.length : Int) > 200) = false := by simp; omega
  go_enter Tryz.func11, Tryz.ntmps11
  go_wp2_with fail
  refine (valid_true HV.out ⟨o1, k1, o2, k2, o3, k3⟩ _ HS0.out).mono ?_
  rintro e w1 ⟨rfl, hb1⟩
  have c0 : w1.cell? ⟨w.heap.size, 0, none⟩ = some (.int .i64 V) := (hb1.cell (p := ⟨w.heap.size, 0, none⟩) (by simp; omega)).trans (by go_simp)
  have c1 : w1.cell? ⟨w.heap.size, 1, none⟩ = some (.slice o1 N.length k1) := (hb1.cell (p := ⟨w.heap.size, 1, none⟩) (by simp; omega)).trans (by go_simp)
  have c2 : w1.cell? ⟨w.heap.size, 2, none⟩ = some (.slice o2 P.length k2) := (hb1.cell (p := ⟨w.heap.size, 2, none⟩) (by simp; omega)).trans (by go_simp)
  have c3 : w1.cell? ⟨w.heap.size, 3, none⟩ = some (.slice o3 C.length k3) := (hb1.cell (p := ⟨w.heap.size, 3, none⟩) (by simp; omega)).trans (by go_simp)
  have hs1 : w.heap.size + 2 ≤ w1.heap.size := by have := hb1.size; simp at this; omega
  have HB1 := Lib.hid hb1
  clear hb1
  go_upto_region 3 with (fail)
  go_cut [6, 7] from 21 to 24 (fun d t wx => ∃ D M b c : Nat, d = .pointer (some ⟨D, 0, none⟩) ∧ t = .map (some M) ∧ Hid (TabAt wx M b c) ∧ Hid (wx.heap[D]? = some (.cells #[.int .i64 V, .slice o1 N.length k1, .slice o2 P.length k2, .slice o3 C.length k3] 90 (0, 0))) ∧ Hid (Below (w.heap.size + 2) ((w.alloc (.cells #[.int .i64 V, .slice o1 N.length k1, .slice o2 P.length k2, .slice o3 C.length k3] 26)).alloc Z26) wx) ∧ w.heap.size + 2 ≤ D)
  case first =>
    go_region_with (go_at_call 25; refine (edits_any _).mono ?_; rintro e w' ⟨rfl, ht, hb, hs⟩; have c0' : w'.cell? ⟨w.heap.size, 0, none⟩ = some (.int .i64 V) := (hb.cell (p := ⟨w.heap.size, 0, none⟩) (by simp; omega)).trans (by first | exact c0 | exact (cell_one (by show w.heap.size < w1.heap.size; omega)).trans c0); have c1' : w'.cell? ⟨w.heap.size, 1, none⟩ = some (.slice o1 N.length k1) := (hb.cell (p := ⟨w.heap.size, 1, none⟩) (by simp; omega)).trans (by first | exact c1 | exact (cell_one (by show w.heap.size < w1.heap.size; omega)).trans c1); have c2' : w'.cell? ⟨w.heap.size, 2, none⟩ = some (.slice o2 P.length k2) := (hb.cell (p := ⟨w.heap.size, 2, none⟩) (by simp; omega)).trans (by first | exact c2 | exact (cell_one (by show w.heap.size < w1.heap.size; omega)).trans c2); have c3' : w'.cell? ⟨w.heap.size, 3, none⟩ = some (.slice o3 C.length k3) := (hb.cell (p := ⟨w.heap.size, 3, none⟩) (by simp; omega)).trans (by first | exact c3 | exact (cell_one (by show w.heap.size < w1.heap.size; omega)).trans c3); have HT := Lib.hid ht; have HBB := Lib.hid hb; have HZ := Lib.hid hs; clear ht hb hs)
    all_goals go_wp2_with fail
    all_goals go_meet
    · exact ⟨w1.heap.size, w1.heap.size + 1, _, _, rfl, rfl, Lib.hid (by simpa using HT.out), (HBB.out.block _ (by simp)).trans (heap_alloc_at w1 _), (((HB1.out.mono (by simp)).alloc (by omega) _).drew).trans (HBB.out.mono (by simp; omega)), hs1⟩
    all_goals exact ⟨w'.heap.size, w1.heap.size, _, _, rfl, rfl, HT.out.below ((Below.refl _ w').alloc (Nat.le_refl _) _), heap_alloc_at w' _, (((HB1.out.mono (by simp)).drew).trans (HBB.out.mono hs1)).alloc (by have h1 : w'.heap.size = w1.heap.size + 3 := HZ.out; omega) _, by have h1 : w'.heap.size = w1.heap.size + 3 := HZ.out; omega⟩
  case rest =>
    obtain ⟨D, M, b, c, rfl, rfl, HT, HDK, HB2, hDg⟩ := hcut
    clear c0 c1 c2 c3 hs1 HB1
    generalize hW2 : wc = W2 at *
    clear hW2
    have hz2 : D < W2.heap.size := (Array.getElem?_eq_some_iff.1 HDK.out).1
    have HBw := Lib.hid (below_two HB2.out)
    have HF := Lib.hid (show ∀ W, Below W2.heap.size W2 W → ScAt W ⟨V, N, P, C⟩ ⟨o1, k1, o2, k2, o3, k3⟩ ∧ W.cell? ⟨w.heap.size, 1, none⟩ = some (.slice o1 N.length k1) ∧ W.cell? ⟨w.heap.size, 2, none⟩ = some (.slice o2 P.length k2) ∧ W.cell? ⟨w.heap.size, 3, none⟩ = some (.slice o3 C.length k3) ∧ W.cell? ⟨D, 1, none⟩ = some (.slice o1 N.length k1) ∧ W.cell? ⟨D, 2, none⟩ = some (.slice o2 P.length k2) ∧ W.cell? ⟨D, 3, none⟩ = some (.slice o3 C.length k3) ∧ W.frozen? ⟨D, 1, none⟩ = false ∧ W.frozen? ⟨D, 2, none⟩ = false ∧ W.frozen? ⟨D, 3, none⟩ = false from fun W hW => by
      have hbox : W.heap[w.heap.size]? = some (.cells #[.int .i64 V, .slice o1 N.length k1, .slice o2 P.length k2, .slice o3 C.length k3] 26 (0, 0)) := by
        rw [hW.block _ (by omega), HB2.out.block _ (by omega), heap_alloc_old _ _ (by simp)]
        exact heap_alloc_at w _
      have hdr : W.heap[D]? = some (.cells #[.int .i64 V, .slice o1 N.length k1, .slice o2 P.length k2, .slice o3 C.length k3] 90 (0, 0)) := (hW.block _ hz2).trans HDK.out
      have hc := fun o => cell_of_row W w.heap.size o _ 26 (0, 0) hbox
      have hd := fun o => cell_of_row W D o _ 90 (0, 0) hdr
      have hf : ∀ o, W.frozen? ⟨D, o, none⟩ = false := fun o => by unfold World.frozen?; simp [hdr]
      exact ⟨HS.out.below (HBw.out.trans (hW.mono HBw.out.size)), hc 1, hc 2, hc 3, hd 1, hd 2, hd 3, hf 1, hf 2, hf 3⟩)
    obtain ⟨_, c1, c2, c3, d1, d2, d3, f1, f2, f3⟩ := HF.out W2 (Below.refl _ _)
    have HP : Hid (N.length ≤ 200 ∧ P.length ≤ 400 ∧ C.length < 16) := by
      have h1 : sizesOk V N.length P.length C.length := HV.out.1
      exact h1.2.2
    have HBX := Lib.hid ((Below.refl W2.heap.size W2).drew)
    go_upto_region 4 with (fail)
    go_cut [] from 25 to 45 (fun wx => ∃ vn vp vc : Value, Hid (Draft (fun k => k < W2.heap.size ∧ k ≠ D) wx D ⟨V, N, P, C⟩ vn vp vc) ∧ Hid (Keeps (fun k => k < W2.heap.size ∧ k ≠ D) W2 wx))
    case first =>
      have hAD : ¬ w.heap.size = D := by omega
      have hDA : ¬ D = w.heap.size := by omega
      go_region_held3 (fun W => W.cell? ⟨w.heap.size, 1, none⟩ = some (.slice o1 N.length k1) ∧ W.cell? ⟨w.heap.size, 2, none⟩ = some (.slice o2 P.length k2) ∧ W.cell? ⟨w.heap.size, 3, none⟩ = some (.slice o3 C.length k3)) (first | exact ⟨c1, c2, c3⟩ | (refine ⟨?_, ?_, ?_⟩ <;> go_simp) | go_keep) (first
        | (go_at_call 26; refine (cloneN_any o1 N k1 _ (HF.out _ HBX.out).1.1 (fun e => ⟨RowAt.nil (HF.out _ HBX.out).1.1 e, HN.out.1 e⟩) (by have := HP.out; omega)).mono ?_; rintro e w' ⟨v, rfl, hown, hb⟩; obtain ⟨ov, kv, hov, _⟩ := own_at Nt.len hown; subst hov; have HOW1 := Lib.hid hown; have HBO1 := Lib.hid hb; have HBX := Lib.hid (HBX.out.trans (hb.mono HBX.out.size)); clear hown hb; obtain ⟨_, c1, c2, c3, d1, d2, d3, f1, f2, f3⟩ := HF.out _ HBX.out)
        | (go_at_call 27; refine (cloneP_any o2 P k2 _ (HF.out _ HBX.out).1.2.1 (fun e => ⟨RowAt.nil (HF.out _ HBX.out).1.2.1 e, HN.out.2.1 e⟩) (by have := HP.out; omega)).mono ?_; rintro e w' ⟨v, rfl, hown, hb⟩; obtain ⟨ov, kv, hov, _⟩ := own_at Pr.len hown; subst hov; have HOW2 := Lib.hid hown; have HBO2 := Lib.hid hb; have HBX := Lib.hid (HBX.out.trans (hb.mono HBX.out.size)); clear hown hb; obtain ⟨_, c1, c2, c3, d1, d2, d3, f1, f2, f3⟩ := HF.out _ HBX.out)
        | (go_at_call 28; refine (cloneI_any o3 C k3 _ (HF.out _ HBX.out).1.2.2.1 (fun e => ⟨RowAt.nil (HF.out _ HBX.out).1.2.2.1 e, HN.out.2.2 e⟩) (by have := HP.out; omega)).mono ?_; rintro e w' ⟨v, rfl, hown, hb⟩; obtain ⟨ov, kv, hov, _⟩ := own_at int1_len hown; subst hov; have HOW3 := Lib.hid hown; have HBO3 := Lib.hid hb; have HBX := Lib.hid (HBX.out.trans (hb.mono HBX.out.size)); clear hown hb; obtain ⟨_, c1, c2, c3, d1, d2, d3, f1, f2, f3⟩ := HF.out _ HBX.out))
      go_wp2_with fail
      go_meet
      have hm := Draft.make (W := W2.drew) (s := ⟨V, N, P, C⟩) HDK.out HOW1.out HBO1.out HOW2.out HBO2.out HOW3.out HBO3.out
      exact ⟨_, _, _, Lib.hid hm.1, Lib.hid ((Keeps.of_below (fun _ h => h.1) (Below.refl _ W2).drew).trans hm.2)⟩
    case rest =>
      obtain ⟨vn, vp0, vc, HDR, HKP⟩ := hcut
      clear c1 c2 c3 d1 d2 d3 f1 f2 f3 HBX
      generalize hW3 : wc = W3 at *
      clear hW3
      have HKB : Hid (∀ k, k < w.heap.size + 2 → k < W2.heap.size ∧ k ≠ D) := fun k hk => ⟨by omega, by omega⟩
      have HKT := Lib.hid (show (M < W2.heap.size ∧ M ≠ D) ∧ (b < W2.heap.size ∧ b ≠ D) ∧ (c < W2.heap.size ∧ c ≠ D) from ⟨⟨HT.out.lt.1, (HT.out.ne HDK.out).1⟩, ⟨HT.out.lt.2.1, (HT.out.ne HDK.out).2.1⟩, ⟨HT.out.lt.2.2, (HT.out.ne HDK.out).2.2⟩⟩)
      go_wp2_with fail
      go_loopw [48] (fun i wr => ∃ (k : Nat) (s' : Sc) (vp : Value), k ≤ l.length ∧ i = .int .i64 k ∧ Hid (editsF ⟨V, N, P, C⟩ (l.take k) = some s') ∧ Hid (Draft (fun k => k < W2.heap.size ∧ k ≠ D) wr D s' vn vp vc) ∧ Hid (Keeps (fun k => k < W2.heap.size ∧ k ≠ D) W2 wr) ∧ Hid (s'.p.length ≤ 400 + k ∧ s'.n.length ≤ 200 ∧ s'.c = C)) (fun i _ => l.length - (intOf i).toNat)
      case atStart => exact ⟨0, ⟨V, N, P, C⟩, vp0, by omega, rfl, rfl, HDR, HKP, ⟨HP.out.2.1, HP.out.1, rfl⟩⟩
      case round =>
        obtain ⟨k, s', vp, hk, rfl, HE, HDD, HKK, HLN⟩ := hrel
        clear HDR HKP
        by_cases hlt : k < l.length
        · obtain ⟨x, hx⟩ := get_of_lt hlt
          obtain ⟨bb, off, rfl, hbb, hr⟩ := HL.out k x hx
          have HX : Hid (l[k]? = some x) := hx
          have hr2 : wr.rangeAt bb (off + k * 21) x.cells := rangeAt_keeps HKK.out (HKB.out bb (by omega)) (rangeAt_below HBw.out hbb hr)
          clear hx hr hbb
          have HR2 := Lib.hid hr2
          clear hr2
          go_upto_region 8 with (first
            | (refine wpList_load_mid rfl 45 (.tmp 50) rfl bb (off + k * 21) rfl _ _ HR2.out Tryz.underlying45 rfl (by kernel_rfl) ?_)
            | (refine wpList_store_mid rfl 45 (.tmp 9) (.tmp 51) rfl wr.heap.size 0 x.cells.toArray rfl rfl (there_new wr _ 45) (by kernel_rfl) (one_ed x) ?_))
          obtain ⟨W4, hW4⟩ : ∃ W4, W4 = (wr.alloc (.cells #[.int .i64 0, .int .i64 0, .int .i64 0, .int .i64 0, .int .i64 0, .int .i64 0, .int .i64 0, .int .i64 0, .int .i64 0, .int .i64 0, .int .i64 0, .bool false, .int .i64 0, .int .i64 0, .int .i64 0, .int .i64 0, .int .i64 0, .int .i64 0, .int .i64 0, .int .i64 0, .int .i64 0] 45)).setCells wr.heap.size 0 x.cells := ⟨_, rfl⟩
          change Code.wp _ _ _ _ ((wr.alloc (.cells #[.int .i64 0, .int .i64 0, .int .i64 0, .int .i64 0, .int .i64 0, .int .i64 0, .int .i64 0, .int .i64 0, .int .i64 0, .int .i64 0, .int .i64 0, .bool false, .int .i64 0, .int .i64 0, .int .i64 0, .int .i64 0, .int .i64 0, .int .i64 0, .int .i64 0, .int .i64 0, .int .i64 0] 45)).setCells wr.heap.size 0 x.cells)
          obtain ⟨hblk, hB4⟩ := set_new wr #[.int .i64 0, .int .i64 0, .int .i64 0, .int .i64 0, .int .i64 0, .int .i64 0, .int .i64 0, .int .i64 0, .int .i64 0, .int .i64 0, .int .i64 0, .bool false, .int .i64 0, .int .i64 0, .int .i64 0, .int .i64 0, .int .i64 0, .int .i64 0, .int .i64 0, .int .i64 0, .int .i64 0] 45 x.cells rfl
          rw [← hW4] at hblk hB4 ⊢
          have e0 : W4.cell? ⟨wr.heap.size, 0, none⟩ = some (.int .i64 x.k) := by rw [cell_of_row W4 wr.heap.size 0 _ 45 (0, 0) hblk]; rfl
          have hrb : W4.rangeAt wr.heap.size 0 x.cells := fun j v hj => by rw [cell_of_row W4 wr.heap.size (0 + j) _ 45 (0, 0) hblk, Nat.zero_add, List.getElem?_toArray]; exact hj
          have HRB := Lib.hid hrb
          have HD4 := Lib.hid (HDD.out.keep hB4)
          have HK4 := Lib.hid (HKK.out.trans (Keeps.of_below HDD.out.klt hB4))
          have ht := HT.out.keeps HKT.out HK4.out
          have HT4 := Lib.hid ht
          clear hB4 hblk hW4 HR2 ht HDD HKK hrb
          dsimp only [Act.put]
          obtain ⟨fv, ok, hq, hfv⟩ := look_any HT4.out x.k
          have HFV := Lib.hid hfv
          clear hfv
          go_upto_region 9 with (fail)
          clear hq e0
          go_cut [9, 10, 11, 48, 67] from 48 to 75 (fun _ _ _ i c wx => i = .int .i64 k ∧ ((c = .bool true ∧ Hid (editF s' x = none) ∧ Hid (Keeps (fun k => k < W2.heap.size ∧ k ≠ D) W2 wx)) ∨ (∃ (s'' : Sc) (vp' : Value), c = .bool false ∧ Hid (editF s' x = some s'') ∧ Hid (Draft (fun k => k < W2.heap.size ∧ k ≠ D) wx D s'' vn vp' vc) ∧ Hid (Keeps (fun k => k < W2.heap.size ∧ k ≠ D) W2 wx))))
          case first =>
            rcases hr : editF s' x with _ | s''
            · have HRR : Hid (editF s' x = none) := hr
              rcases HFV.out with ⟨q1, rfl, rfl⟩ | ⟨q2, rfl, rfl⟩ | ⟨q3, rfl, rfl⟩ | ⟨q4, rfl, rfl⟩ | ⟨q5, rfl, rfl⟩
              · have hcall := call1 _ W4 D s' vn vp vc x HD4.out q1 (by have := HLN.out; omega)
                rw [hr] at hcall
                have HCALL := Lib.hid hcall
                clear hcall hr
                go_wp2_with (first
                  | (refine wpList_load_mid_g rfl 45 (.tmp 9) rfl wr.heap.size 0 rfl _ _ HRB.out Tryz.underlying45 rfl (by kernel_rfl) ?_)
                  | (go_at_call 49; refine HCALL.out.mono ?_; rintro e w' ⟨rfl, hkk⟩; have HKW := Lib.hid hkk; clear hkk))
                go_meet
                exact ⟨rfl, .inl ⟨rfl, HRR, Lib.hid (HK4.out.trans HKW.out)⟩⟩
              · have hcall := call2 _ W4 D b s' vn vp vc x HD4.out HT4.out.b51 q2 (by have := HLN.out; omega)
                rw [hr] at hcall
                have HCALL := Lib.hid hcall
                clear hcall hr
                go_wp2_with (first
                  | (refine wpList_load_mid_g rfl 45 (.tmp 9) rfl wr.heap.size 0 rfl _ _ HRB.out Tryz.underlying45 rfl (by kernel_rfl) ?_)
                  | (go_at_call 71; refine HCALL.out.mono ?_; rintro e w' ⟨rfl, hkk⟩; have HKW := Lib.hid hkk; clear hkk))
                go_meet
                exact ⟨rfl, .inl ⟨rfl, HRR, Lib.hid (HK4.out.trans HKW.out)⟩⟩
              · have hcall := call3 _ W4 D c s' vn vp vc x HD4.out HT4.out.c52 q3 (by have := HLN.out; omega)
                rw [hr] at hcall
                have HCALL := Lib.hid hcall
                clear hcall hr
                go_wp2_with (first
                  | (refine wpList_load_mid_g rfl 45 (.tmp 9) rfl wr.heap.size 0 rfl _ _ HRB.out Tryz.underlying45 rfl (by kernel_rfl) ?_)
                  | (go_at_call 71; refine HCALL.out.mono ?_; rintro e w' ⟨rfl, hkk⟩; have HKW := Lib.hid hkk; clear hkk))
                go_meet
                exact ⟨rfl, .inl ⟨rfl, HRR, Lib.hid (HK4.out.trans HKW.out)⟩⟩
              · have hcall := call4 _ W4 D s' vn vp vc x HD4.out q4 (by have := HLN.out; omega)
                rw [hr] at hcall
                have HCALL := Lib.hid hcall
                clear hcall hr
                go_wp2_with (first
                  | (refine wpList_load_mid_g rfl 45 (.tmp 9) rfl wr.heap.size 0 rfl _ _ HRB.out Tryz.underlying45 rfl (by kernel_rfl) ?_)
                  | (go_at_call 54; refine HCALL.out.mono ?_; rintro e w' ⟨rfl, hkk⟩; have HKW := Lib.hid hkk; clear hkk))
                go_meet
                exact ⟨rfl, .inl ⟨rfl, HRR, Lib.hid (HK4.out.trans HKW.out)⟩⟩
              · clear q5 hr
                go_wp2_with fail
                go_meet
                exact ⟨rfl, .inl ⟨rfl, HRR, HK4⟩⟩
            · have HRR : Hid (editF s' x = some s'') := hr
              rcases HFV.out with ⟨q1, rfl, rfl⟩ | ⟨q2, rfl, rfl⟩ | ⟨q3, rfl, rfl⟩ | ⟨q4, rfl, rfl⟩ | ⟨q5, rfl, rfl⟩
              · have hcall := call1 _ W4 D s' vn vp vc x HD4.out q1 (by have := HLN.out; omega)
                rw [hr] at hcall
                have HCALL := Lib.hid hcall
                clear hcall hr
                go_wp2_with (first
                  | (refine wpList_load_mid_g rfl 45 (.tmp 9) rfl wr.heap.size 0 rfl _ _ HRB.out Tryz.underlying45 rfl (by kernel_rfl) ?_)
                  | (go_at_call 49; refine HCALL.out.mono ?_; rintro e w' ⟨rfl, ⟨vp', hdd⟩, hkk⟩; have HKW := Lib.hid hkk; have HDW := Lib.hid hdd; clear hkk hdd))
                go_meet
                exact ⟨rfl, .inr ⟨s'', _, rfl, HRR, HDW, Lib.hid (HK4.out.trans HKW.out)⟩⟩
              · have hcall := call2 _ W4 D b s' vn vp vc x HD4.out HT4.out.b51 q2 (by have := HLN.out; omega)
                rw [hr] at hcall
                have HCALL := Lib.hid hcall
                clear hcall hr
                go_wp2_with (first
                  | (refine wpList_load_mid_g rfl 45 (.tmp 9) rfl wr.heap.size 0 rfl _ _ HRB.out Tryz.underlying45 rfl (by kernel_rfl) ?_)
                  | (go_at_call 71; refine HCALL.out.mono ?_; rintro e w' ⟨rfl, ⟨vp', hdd⟩, hkk⟩; have HKW := Lib.hid hkk; have HDW := Lib.hid hdd; clear hkk hdd))
                go_meet
                exact ⟨rfl, .inr ⟨s'', _, rfl, HRR, HDW, Lib.hid (HK4.out.trans HKW.out)⟩⟩
              · have hcall := call3 _ W4 D c s' vn vp vc x HD4.out HT4.out.c52 q3 (by have := HLN.out; omega)
                rw [hr] at hcall
                have HCALL := Lib.hid hcall
                clear hcall hr
                go_wp2_with (first
                  | (refine wpList_load_mid_g rfl 45 (.tmp 9) rfl wr.heap.size 0 rfl _ _ HRB.out Tryz.underlying45 rfl (by kernel_rfl) ?_)
                  | (go_at_call 71; refine HCALL.out.mono ?_; rintro e w' ⟨rfl, ⟨vp', hdd⟩, hkk⟩; have HKW := Lib.hid hkk; have HDW := Lib.hid hdd; clear hkk hdd))
                go_meet
                exact ⟨rfl, .inr ⟨s'', _, rfl, HRR, HDW, Lib.hid (HK4.out.trans HKW.out)⟩⟩
              · have hcall := call4 _ W4 D s' vn vp vc x HD4.out q4 (by have := HLN.out; omega)
                rw [hr] at hcall
                have HCALL := Lib.hid hcall
                clear hcall hr
                go_wp2_with (first
                  | (refine wpList_load_mid_g rfl 45 (.tmp 9) rfl wr.heap.size 0 rfl _ _ HRB.out Tryz.underlying45 rfl (by kernel_rfl) ?_)
                  | (go_at_call 54; refine HCALL.out.mono ?_; rintro e w' ⟨rfl, ⟨vp', hdd⟩, hkk⟩; have HKW := Lib.hid hkk; have HDW := Lib.hid hdd; clear hkk hdd))
                go_meet
                exact ⟨rfl, .inr ⟨s'', _, rfl, HRR, HDW, Lib.hid (HK4.out.trans HKW.out)⟩⟩
              · rw [edit_other q5] at hr
                cases hr
          case rest =>
            obtain ⟨rfl, ⟨rfl, HR, HKW⟩ | ⟨s'', vp', rfl, HR, HDW, HKW⟩⟩ := hcut
            · generalize hW5 : wc = W5 at *
              clear hW5 HD4 HK4 HT4 HFV
              have hRb : W5.heap[w.heap.size + 1]? = some (.cells #[.int .i64 0, .slice none 0 0, .slice none 0 0, .slice none 0 0] 26 (0, 0)) := by
                rw [HKW.out.block _ (HKB.out _ (by omega)), HB2.out.block _ (by omega)]
                have h0 := heap_alloc_at (w.alloc (.cells #[.int .i64 V, .slice o1 N.length k1, .slice o2 P.length k2, .slice o3 C.length k3] 26)) Z26
                rw [World.size_alloc] at h0
                exact h0
              have hRc := fun o => cell_of_row W5 (w.heap.size + 1) o _ 26 (0, 0) hRb
              have hRf : ∀ o, W5.frozen? ⟨w.heap.size + 1, o, none⟩ = false := fun o => by unfold World.frozen?; simp [hRb]
              have t0 := hRc 0
              have t1 := hRc 1
              have t2 := hRc 2
              have t3 := hRc 3
              have g0 := hRf 0
              have g1 := hRf 1
              have g2 := hRf 2
              have g3 := hRf 3
              simp only [List.getElem?_toArray, List.getElem?_cons_succ, List.getElem?_cons_zero] at t0 t1 t2 t3
              clear hRc hRf hRb
              have HBE := Lib.hid (HKW.out.below (fun q hq => HKB.out q (by omega)) (below_two HB2.out) : Below w.heap.size w W5)
              go_wp2_with fail
              refine bodyPost_ret (v := .tuple #[.agg #[.int .i64 0, .slice none 0 0, .slice none 0 0, .slice none 0 0], .int .i64 1]) (by simp [results, Tryz.results11, go_sem, t0, t1, t2, t3]) rfl (EApply.bad (fun h => by have h2 := h.2.2; rw [edits_none HE.out HX.out HR.out] at h2; cases h2) ?_)
              exact ((((HBE.out.setCell (p := ⟨w.heap.size + 1, 0, none⟩) (by simp) _).setCell (p := ⟨w.heap.size + 1, 1, none⟩) (by simp) _).setCell (p := ⟨w.heap.size + 1, 2, none⟩) (by simp) _).setCell (p := ⟨w.heap.size + 1, 3, none⟩) (by simp) _)
            · generalize hW5 : wc = W5 at *
              clear hW5 HD4 HK4 HT4 HFV
              have d2 := HDW.out.cell.2.2.1
              have hln := editF_len HR.out
              have HL2 := Lib.hid hln
              clear hln
              go_wp2_with (go_at_call 29; refine (sort_own HDW.out.pairs (by have := HL2.out.1; have := HLN.out.1; omega)).mono ?_; rintro e w' ⟨rfl, hown, hro⟩; have HOW := Lib.hid hown; have HRO := Lib.hid hro; clear hown hro)
              go_roundw
              case rel => exact ⟨k + 1, sortF s'', vp', by omega, by go_num, Lib.hid (edits_next HE.out HX.out HR.out), Lib.hid (HDW.out.inPlace HRO.out.2.2.2.1 HRO.out.2.2.2.2 HOW.out), Lib.hid (HKW.out.trans ⟨HRO.out.1, HRO.out.2.1, HRO.out.2.2.1, HRO.out.2.2.2.1, fun q hq => HRO.out.2.2.2.2 q (HDW.out.klt q hq) (fun e => HDW.out.kp q e hq)⟩), Lib.hid ⟨by have h1 := HL2.out.1; have h2 := HLN.out.1; have h3 := (So.perm_stable ltQ s''.p).length_eq; show (So.stable ltQ s''.p).length ≤ _; omega, by have h1 := HL2.out.2.1; have h2 := HLN.out.2.1; show s''.n.length ≤ _; omega, by have h1 := HL2.out.2.2; have h2 := HLN.out.2.2; show s''.c = _; rw [h1, h2]⟩⟩
              case measure => simp [intOf]; omega
        · have hEl : editsF ⟨V, N, P, C⟩ l = some s' := by
            have h0 := HE.out
            rwa [List.take_of_length_le (by omega)] at h0
          have HEL := Lib.hid hEl
          clear hEl HE
          have HLC := Lib.hid (show s'.n.length ≤ 1000000 ∧ s'.p.length ≤ 1000000 ∧ s'.c.length ≤ 1000000 from ⟨by have := HLN.out.2.1; omega, by have := HLN.out.1; omega, by rw [HLN.out.2.2]; have := HP.out.2.2; omega⟩)
          obtain ⟨y', rfl, rfl, rfl, hsc, _, _⟩ := HDD.out.answer (w' := wr) (R := w.heap.size + 1) (HKB.out _ (by omega)) (fun _ _ _ => rfl) HLC.out.1 HLC.out.2.1 HLC.out.2.2
          have HSC := Lib.hid hsc
          clear hsc
          obtain ⟨d0, d1, d2, d3, _⟩ := HDD.out.cell
          go_wp2_with fail
          by_cases hvs : validOk s'
          · have HVS := Lib.hid hvs
            clear hvs
            refine (valid_true HVS.out y' _ HSC.out).mono ?_
            rintro e w9 ⟨rfl, hb9⟩
            have hRlt : w.heap.size + 1 < wr.heap.size := by have := HKK.out.size; omega
            have hRb : w9.heap[w.heap.size + 1]? = some (.cells #[.int .i64 0, .slice none 0 0, .slice none 0 0, .slice none 0 0] 26 (0, 0)) := by
              rw [hb9.block _ hRlt, HKK.out.block _ (HKB.out _ (by omega)), HB2.out.block _ (by omega)]
              have h0 := heap_alloc_at (w.alloc (.cells #[.int .i64 V, .slice o1 N.length k1, .slice o2 P.length k2, .slice o3 C.length k3] 26)) Z26
              rw [World.size_alloc] at h0
              exact h0
            have hRc := fun o => cell_of_row w9 (w.heap.size + 1) o _ 26 (0, 0) hRb
            have hRf : ∀ o, w9.frozen? ⟨w.heap.size + 1, o, none⟩ = false := fun o => by unfold World.frozen?; simp [hRb]
            have t0 := hRc 0
            have t1 := hRc 1
            have t2 := hRc 2
            have t3 := hRc 3
            have g0 := hRf 0
            have g1 := hRf 1
            have g2 := hRf 2
            have g3 := hRf 3
            simp only [List.getElem?_toArray, List.getElem?_cons_succ, List.getElem?_cons_zero] at t0 t1 t2 t3
            clear hRc hRf hRb
            have HBE : Hid (Below w.heap.size w w9) := ((HKK.out.below (fun q hq => HKB.out q (by omega)) (below_two HB2.out) : Below w.heap.size w wr)).trans (hb9.mono (by omega))
            have hDb := (hb9.block D HDD.out.d_lt).trans HDD.out.blk
            have hc := fun o => cell_of_row w9 D o _ 90 (0, 0) hDb
            have q0 := hc 0
            have q1 := hc 1
            have q2 := hc 2
            have q3 := hc 3
            simp only [List.getElem?_toArray, List.getElem?_cons_succ, List.getElem?_cons_zero] at q0 q1 q2 q3
            have HB9 := Lib.hid hb9
            clear hc hDb hb9 d0 d1 d2 d3
            have hne : ¬ D = w.heap.size + 1 := by omega
            go_wp2_with fail
            refine bodyPost_ret (v := .tuple #[.agg (s'.cells y'), .int .i64 0]) (by simp [results, Tryz.results11, go_sem, t0, t1, t2, t3, Sc.cells]) rfl (EApply.good HDD.out (HKB.out (w.heap.size + 1) (by omega)) (fun g h1 h2 => ?_) HLC.out HV.out hlen HEL.out HVS.out (fun g h1 h2 => Nat.le_of_not_lt fun h => h1 ⟨by omega, h2⟩) ?_)
            · exact (((Below.heap_setCell _ ⟨w.heap.size + 1, 3, none⟩ _ g h2).trans (Below.heap_setCell _ ⟨w.heap.size + 1, 2, none⟩ _ g h2)).trans (Below.heap_setCell _ ⟨w.heap.size + 1, 1, none⟩ _ g h2)).trans ((Below.heap_setCell _ ⟨w.heap.size + 1, 0, none⟩ _ g h2).trans (HB9.out.block g h1))
            · exact ((((HBE.out.setCell (p := ⟨w.heap.size + 1, 0, none⟩) (by simp) _).setCell (p := ⟨w.heap.size + 1, 1, none⟩) (by simp) _).setCell (p := ⟨w.heap.size + 1, 2, none⟩) (by simp) _).setCell (p := ⟨w.heap.size + 1, 3, none⟩) (by simp) _)
          · have HVS := Lib.hid hvs
            clear hvs
            refine (valid_false HVS.out y' _ HSC.out).mono ?_
            rintro e w9 ⟨rfl, hb9⟩
            have hRlt : w.heap.size + 1 < wr.heap.size := by have := HKK.out.size; omega
            have hRb : w9.heap[w.heap.size + 1]? = some (.cells #[.int .i64 0, .slice none 0 0, .slice none 0 0, .slice none 0 0] 26 (0, 0)) := by
              rw [hb9.block _ hRlt, HKK.out.block _ (HKB.out _ (by omega)), HB2.out.block _ (by omega)]
              have h0 := heap_alloc_at (w.alloc (.cells #[.int .i64 V, .slice o1 N.length k1, .slice o2 P.length k2, .slice o3 C.length k3] 26)) Z26
              rw [World.size_alloc] at h0
              exact h0
            have hRc := fun o => cell_of_row w9 (w.heap.size + 1) o _ 26 (0, 0) hRb
            have hRf : ∀ o, w9.frozen? ⟨w.heap.size + 1, o, none⟩ = false := fun o => by unfold World.frozen?; simp [hRb]
            have t0 := hRc 0
            have t1 := hRc 1
            have t2 := hRc 2
            have t3 := hRc 3
            have g0 := hRf 0
            have g1 := hRf 1
            have g2 := hRf 2
            have g3 := hRf 3
            simp only [List.getElem?_toArray, List.getElem?_cons_succ, List.getElem?_cons_zero] at t0 t1 t2 t3
            clear hRc hRf hRb
            have HBE : Hid (Below w.heap.size w w9) := ((HKK.out.below (fun q hq => HKB.out q (by omega)) (below_two HB2.out) : Below w.heap.size w wr)).trans (hb9.mono (by omega))
            clear hb9 d0 d1 d2 d3
            go_wp2_with fail
            refine bodyPost_ret (v := .tuple #[.agg #[.int .i64 0, .slice none 0 0, .slice none 0 0, .slice none 0 0], .int .i64 6]) (by simp [results, Tryz.results11, go_sem, t0, t1, t2, t3]) rfl (EApply.state HV.out hlen HEL.out HVS.out ?_)
            exact ((((HBE.out.setCell (p := ⟨w.heap.size + 1, 0, none⟩) (by simp) _).setCell (p := ⟨w.heap.size + 1, 1, none⟩) (by simp) _).setCell (p := ⟨w.heap.size + 1, 2, none⟩) (by simp) _).setCell (p := ⟨w.heap.size + 1, 3, none⟩) (by simp) _)
/-- edition.Apply. -/
theorem apply_any (s : Sc) (y : Lay) (l : List Ed) (o : Option Addr) (cap : Nat) (w : World) (h : ScAt w s y) (hn : NilOk y) (hL : EdsAt w o l) : Calls Tryz.prog 11 #[.agg (s.cells y), .slice o l.length cap] w (EApply s l w) := by
  by_cases hv : validOk s ∧ l.length ≤ 200
  · exact apply_good s y l o cap w h hn hL hv.1 hv.2
  · exact apply_bad s y l o cap w h hv
abbrev zeros45 : Array Value := #[.int .i64 0, .int .i64 0, .int .i64 0, .int .i64 0, .int .i64 0, .int .i64 0, .int .i64 0, .int .i64 0, .int .i64 0, .int .i64 0, .int .i64 0, .bool false, .int .i64 0, .int .i64 0, .int .i64 0, .int .i64 0, .int .i64 0, .int .i64 0, .int .i64 0, .int .i64 0, .int .i64 0]
theorem fold_ed (x : Ed) : List.foldl (fun (cs : Array Value) (y : Value × Nat) => cs.setIfInBounds y.2 y.1) zeros45 x.cells.zipIdx = x.cells.toArray := by kernel_rfl
/-- The edits in a new block. -/
theorem eds_new (w : World) (x : Ed) : EdsAt (w.alloc (.cells x.cells.toArray 45)) (some ⟨w.heap.size, 0, none⟩) [x] := fun k n hk => by
  match k, hk with
  | 0, hk =>
    simp at hk
    subst hk
    exact ⟨w.heap.size, 0, rfl, by simp, by simpa using rangeAt_new w x.cells.toArray 45⟩
  | k + 1, hk => simp at hk
end Go.Sc
