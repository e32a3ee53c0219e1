/- The reference's Steps and Chains: two rows of chains are one and the same. -/
import Derived.Test.YtpbpeoijejocaaaGreatDoorPuB
import Derived.Deep.QuietTactic
import Derived.BigQuiet
import Derived.WalkSmall
namespace Go.Sc
open Go.RowKit Go.Proofs

def fd1010 : Field := { name := "From", type := 3, offset := 0, embedded := false, tag := "", pkgPath := "", byteOffset := 0 }
def fd1011 : Field := { name := "To", type := 3, offset := 1, embedded := false, tag := "", pkgPath := "", byteOffset := 8 }
def fd1012 : Field := { name := "Kind", type := 3, offset := 2, embedded := false, tag := "", pkgPath := "", byteOffset := 16 }
instance : DecidableEq St := fun a b => by
  obtain ⟨f, t, k⟩ := a
  obtain ⟨f', t', k'⟩ := b
  exact decidable_of_iff (f = f' ∧ t = t' ∧ k = k') (by simp)
theorem eq_step (x y : St) (W : World) : (Op.equalIn 10000 102 (.agg x.cells.toArray) (.agg y.cells.toArray)).run Tryz.prog W = .ok (decide (x = y)) W := by
  obtain ⟨v, fr, un⟩ := x
  obtain ⟨v', fr', un'⟩ := y
  have g3 : ∀ (x y : Int), (Op.equalIn 9999 3 (.int .i64 x) (.int .i64 y)).run Tryz.prog W = .ok (x == y) W := fun x y => equal_int 9998 x y W
  have hf : (Tryz.prog.fieldsOf 102).toList = [fd1010, fd1011, fd1012] := by
    unfold Program.fieldsOf
    rw [Tryz.underlying102]
    rfl
  rw [run_equalIn_struct W 9999 102 _ _ (by kernel_rfl) (by kernel_rfl), hf]
  rw [fld_cons 9999 _ _ fd1010 _ (.int .i64 v) (.int .i64 v') _ W (by simp [fd1010]) (by kernel_rfl) (by kernel_rfl) (g3 v v')]
  rw [fld_cons 9999 _ _ fd1011 _ (.int .i64 fr) (.int .i64 fr') _ W (by simp [fd1011]) (by kernel_rfl) (by kernel_rfl) (g3 fr fr')]
  rw [fld_cons 9999 _ _ fd1012 _ (.int .i64 un) (.int .i64 un') _ W (by simp [fd1012]) (by kernel_rfl) (by kernel_rfl) (g3 un un')]
  have h5 : (Op.eqFields 9999 (St.cells ⟨v, fr, un⟩).toArray (St.cells ⟨v', fr', un'⟩).toArray []).run Tryz.prog W = .ok true W := by simp [Op.eqFields]
  rw [h5]
  have hinj : ((⟨v, fr, un⟩ : St) = ⟨v', fr', un'⟩) ↔ (v = v' ∧ fr = fr' ∧ un = un') := by simp
  clear g3 hf h5
  simp only [beq_iff_eq]
  by_cases e0 : v = v'
  case neg => rw [if_neg e0, decide_eq_false (fun h => e0 (hinj.1 h).1)]
  rw [if_pos e0]
  by_cases e1 : fr = fr'
  case neg => rw [if_neg e1, decide_eq_false (fun h => e1 (hinj.1 h).2.1)]
  rw [if_pos e1]
  by_cases e2 : un = un'
  case neg => rw [if_neg e2, decide_eq_false (fun h => e2 (hinj.1 h).2.2)]
  rw [if_pos e2]
  rw [decide_eq_true (hinj.2 ⟨e0, e1, e2⟩)]
theorem list_ext {α : Type} {a b : List α} (hl : a.length = b.length) (h : ∀ k, k < a.length → a[k]? = b[k]?) : a = b := by
  apply List.ext_getElem?
  intro k
  by_cases e : k < a.length
  · exact h k e
  · rw [List.getElem?_eq_none (by omega), List.getElem?_eq_none (by omega)]
set_option maxRecDepth 100000 in
set_option maxHeartbeats 2000000 in
theorem same_steps (oa ob : Option Addr) (la lb : List St) (ka kb : Nat) (w : World) (ha : RowAt 3 St.cells w oa la) (hb : RowAt 3 St.cells w ob lb) (hl : la.length ≤ 10000) (hl2 : lb.length ≤ 10000) :
    Calls Tryz.prog 30 #[.slice oa la.length ka, .slice ob lb.length kb] w fun e w' => e = .returned (.bool (decide (la = lb))) ∧ ∃ m, w' = w.drewN m := by
  obtain ⟨rr, hrr⟩ : ∃ q, decide (la = lb) = q := ⟨_, rfl⟩
  rw [hrr]
  have HRR := Lib.hid hrr
  have HA := Lib.hid ha
  have HB := Lib.hid hb
  clear hrr ha hb
  by_cases hlen : la.length = lb.length
  · have HLE := Lib.hid hlen
    rw [← hlen] at hl2 ⊢
    clear hlen hl2
    have hne : ((la.length : Int) == (la.length : Int)) = true := by simp
    go_enter Tryz.func30, Tryz.ntmps30
    go_wp2_with fail
    go_loopw [5] (fun i wr => ∃ (k m : Nat), k ≤ la.length ∧ i = .int .i64 k ∧ wr = w.drewN m ∧ Hid (∀ j, j < k → la[j]? = lb[j]?)) (fun i _ => la.length - (intOf i).toNat)
    case atStart => exact ⟨0, 0, by omega, rfl, rfl, Lib.hid (fun j hj => by omega)⟩
    case round =>
      obtain ⟨k, m, hk, rfl, rfl, HK⟩ := hrel
      by_cases hlt : k < la.length
      · obtain ⟨x, hx⟩ := get_of_lt hlt
        obtain ⟨y, hy⟩ := get_of_lt (l := lb) (k := k) (by have := HLE.out; omega)
        have HX := Lib.hid hx
        have HY := Lib.hid hy
        obtain ⟨bx, ox, rfl, hbx, hrx⟩ := HA.out k x hx
        obtain ⟨bY, oy, rfl, hby, hry⟩ := HB.out k y hy
        obtain ⟨ee, hee⟩ : ∃ q, decide (x = y) = q := ⟨_, rfl⟩
        have HE := Lib.hid hee
        have hq : ∀ W, (Op.equalIn 10000 102 (.agg x.cells.toArray) (.agg y.cells.toArray)).run Tryz.prog W = .ok ee W := fun W => by rw [eq_step, hee]
        have hlt' : (k : Int) < (la.length : Int) := by omega
        clear hx hy hee hbx hby
        obtain ⟨xf, xt, xk⟩ := x
        obtain ⟨yf, yt, yk⟩ := y
        dsimp only [St.cells] at hrx hry hq
        have x0 : w.cell? ⟨bx, ox + k * 3, none⟩ = some (.int .i64 xf) := hrx 0 _ rfl
        have x1 : w.cell? ⟨bx, ox + k * 3 + 1, none⟩ = some (.int .i64 xt) := hrx 1 _ rfl
        have x2 : w.cell? ⟨bx, ox + k * 3 + 2, none⟩ = some (.int .i64 xk) := hrx 2 _ rfl
        have y0 : w.cell? ⟨bY, oy + k * 3, none⟩ = some (.int .i64 yf) := hry 0 _ rfl
        have y1 : w.cell? ⟨bY, oy + k * 3 + 1, none⟩ = some (.int .i64 yt) := hry 1 _ rfl
        have y2 : w.cell? ⟨bY, oy + k * 3 + 2, none⟩ = some (.int .i64 yk) := hry 2 _ rfl
        clear hrx hry
        cases ee
        · go_wp2_with fail
          go_quiet (fail)
          go_wp2
          go_ret
          refine ⟨ret_bool ?_, m + nq, by first | rfl | exact World.drewN_drewN _ _ _⟩
          rw [← HRR.out, decide_eq_false]
          intro hh
          have h1 := of_decide_eq_false HE.out
          have h2 := HX.out
          rw [hh, HY.out] at h2
          exact h1 (Option.some.inj h2.symm)
        · go_wp2_with fail
          go_quiet (fail)
          go_wp2
          refine ⟨⟨k + 1, m + nq, by omega, by go_num, (by first | rfl | exact World.drewN_drewN _ _ _), Lib.hid (fun j hj => ?_)⟩, by simp only [intOf]; omega⟩
          by_cases e : j = k
          · subst e
            rw [HX.out, HY.out, of_decide_eq_true HE.out]
          · exact HK.out j (by omega)
      · obtain rfl : k = la.length := by omega
        go_wp2
        go_ret
        exact ⟨ret_bool (by rw [← HRR.out, decide_eq_true (list_ext HLE.out HK.out)]), _, rfl⟩
  · have hd : ((la.length : Int) == (lb.length : Int)) = false := by simp; omega
    have HLE := Lib.hid hlen
    clear hlen
    go_enter Tryz.func30, Tryz.ntmps30
    go_wp2
    go_ret
    exact ⟨ret_bool (by rw [← HRR.out, decide_eq_false (fun hh => HLE.out (by rw [hh]))]), 0, rfl⟩
instance : DecidableEq Vc := fun a b => by
  obtain ⟨a0, a1, a2, a3, a4, a5⟩ := a
  obtain ⟨b0, b1, b2, b3, b4, b5⟩ := b
  exact decidable_of_iff (a0 = b0 ∧ a1 = b1 ∧ a2 = b2 ∧ a3 = b3 ∧ a4 = b4 ∧ a5 = b5) (by simp)
instance : DecidableEq Ch := fun a b => by
  obtain ⟨p, s, c⟩ := a
  obtain ⟨p', s', c'⟩ := b
  exact decidable_of_iff (p = p' ∧ s = s' ∧ c = c') (by simp)
set_option maxRecDepth 100000 in
set_option maxHeartbeats 4000000 in
theorem same_chains (oa ob : Option Addr) (la lb : List ChL) (ka kb : Nat) (w : World) (ha : RowAt 8 ChL.cells w oa la) (hb : RowAt 8 ChL.cells w ob lb) (hsa : ∀ x ∈ la, RowAt 3 St.cells w x.o x.c.s ∧ x.c.s.length ≤ 10000) (hsb : ∀ x ∈ lb, RowAt 3 St.cells w x.o x.c.s ∧ x.c.s.length ≤ 10000) (hl : la.length ≤ 10000) (hl2 : lb.length ≤ 10000) :
    Calls Tryz.prog 11 #[.slice oa la.length ka, .slice ob lb.length kb] w fun e w' => e = .returned (.bool (decide (la.map ChL.c = lb.map ChL.c))) ∧ ∃ m, w' = w.drewN m := by
  obtain ⟨rr, hrr⟩ : ∃ q, decide (la.map ChL.c = lb.map ChL.c) = q := ⟨_, rfl⟩
  rw [hrr]
  have HRR := Lib.hid hrr
  have HA := Lib.hid ha
  have HB := Lib.hid hb
  have HSA := Lib.hid hsa
  have HSB := Lib.hid hsb
  clear hrr ha hb hsa hsb
  by_cases hlen : la.length = lb.length
  · have HLE := Lib.hid hlen
    rw [← hlen] at hl2 ⊢
    clear hlen hl2
    have hne : ((la.length : Int) == (la.length : Int)) = true := by simp
    go_enter Tryz.func11, Tryz.ntmps11
    go_wp2_with fail
    go_loopw [5] (fun i wr => ∃ (k m : Nat), k ≤ la.length ∧ i = .int .i64 k ∧ wr = w.drewN m ∧ Hid (∀ j, j < k → (la.map ChL.c)[j]? = (lb.map ChL.c)[j]?)) (fun i _ => la.length - (intOf i).toNat)
    case atStart => exact ⟨0, 0, by omega, rfl, rfl, Lib.hid (fun j hj => by omega)⟩
    case round =>
      obtain ⟨k, m, hk, rfl, hwr, HK⟩ := hrel
      have HWR := Lib.hid hwr
      by_cases hlt : k < la.length
      · obtain ⟨x, hx⟩ := get_of_lt hlt
        obtain ⟨y, hy⟩ := get_of_lt (l := lb) (k := k) (by have := HLE.out; omega)
        have HX := Lib.hid (show (la.map ChL.c)[k]? = some x.c by rw [List.getElem?_map, hx]; rfl)
        have HY := Lib.hid (show (lb.map ChL.c)[k]? = some y.c by rw [List.getElem?_map, hy]; rfl)
        obtain ⟨bx, ox, rfl, hbx, hrx⟩ := HA.out k x hx
        obtain ⟨bY, oy, rfl, hby, hry⟩ := HB.out k y hy
        have hsx := HSA.out x (mem_of_get hx)
        have hsy := HSB.out y (mem_of_get hy)
        have SS := Lib.hid (fun n => same_steps x.o y.o x.c.s y.c.s x.k y.k (wr.drewN n) (fun j v hj => by rw [hwr]; exact hsx.1 j v hj) (fun j v hj => by rw [hwr]; exact hsy.1 j v hj) hsx.2 hsy.2)
        have hlt' : (k : Int) < (la.length : Int) := by omega
        clear hx hy hbx hby hsx hsy
        obtain ⟨⟨xp, xs, ⟨x0, x1, x2, x3, x4, x5⟩⟩, xo, xk⟩ := x
        obtain ⟨⟨yp, ys, ⟨y0, y1, y2, y3, y4, y5⟩⟩, yo, yk⟩ := y
        dsimp only [ChL.cells] at hrx hry SS HX HY
        have a0 : wr.cell? ⟨bx, ox + k * 8, none⟩ = some (.int .i64 xp) := by rw [hwr]; exact hrx 0 _ rfl
        have a1 : wr.cell? ⟨bx, ox + k * 8 + 1, none⟩ = some (.slice xo xs.length xk) := by rw [hwr]; exact hrx 1 _ rfl
        have a2 : wr.cell? ⟨bx, ox + k * 8 + 2, none⟩ = some (.int .i64 x0) := by rw [hwr]; exact hrx 2 _ rfl
        have a3 : wr.cell? ⟨bx, ox + k * 8 + 2 + 1, none⟩ = some (.int .i64 x1) := by rw [hwr]; exact hrx 3 _ rfl
        have a4 : wr.cell? ⟨bx, ox + k * 8 + 2 + 2, none⟩ = some (.int .i64 x2) := by rw [hwr]; exact hrx 4 _ rfl
        have a5 : wr.cell? ⟨bx, ox + k * 8 + 2 + 3, none⟩ = some (.int .i64 x3) := by rw [hwr]; exact hrx 5 _ rfl
        have a6 : wr.cell? ⟨bx, ox + k * 8 + 2 + 4, none⟩ = some (.int .i64 x4) := by rw [hwr]; exact hrx 6 _ rfl
        have a7 : wr.cell? ⟨bx, ox + k * 8 + 2 + 5, none⟩ = some (.int .i64 x5) := by rw [hwr]; exact hrx 7 _ rfl
        have b0 : wr.cell? ⟨bY, oy + k * 8, none⟩ = some (.int .i64 yp) := by rw [hwr]; exact hry 0 _ rfl
        have b1 : wr.cell? ⟨bY, oy + k * 8 + 1, none⟩ = some (.slice yo ys.length yk) := by rw [hwr]; exact hry 1 _ rfl
        have b2 : wr.cell? ⟨bY, oy + k * 8 + 2, none⟩ = some (.int .i64 y0) := by rw [hwr]; exact hry 2 _ rfl
        have b3 : wr.cell? ⟨bY, oy + k * 8 + 2 + 1, none⟩ = some (.int .i64 y1) := by rw [hwr]; exact hry 3 _ rfl
        have b4 : wr.cell? ⟨bY, oy + k * 8 + 2 + 2, none⟩ = some (.int .i64 y2) := by rw [hwr]; exact hry 4 _ rfl
        have b5 : wr.cell? ⟨bY, oy + k * 8 + 2 + 3, none⟩ = some (.int .i64 y3) := by rw [hwr]; exact hry 5 _ rfl
        have b6 : wr.cell? ⟨bY, oy + k * 8 + 2 + 4, none⟩ = some (.int .i64 y4) := by rw [hwr]; exact hry 6 _ rfl
        have b7 : wr.cell? ⟨bY, oy + k * 8 + 2 + 5, none⟩ = some (.int .i64 y5) := by rw [hwr]; exact hry 7 _ rfl
        clear hrx hry hwr
        by_cases hp : xp = yp
        · subst hp
          have hpe : (xp == xp) = true := by simp
          by_cases hc : (x0 = y0 ∧ x1 = y1 ∧ x2 = y2 ∧ x3 = y3 ∧ x4 = y4 ∧ x5 = y5)
          · have hq : ∀ W, (Op.equalIn 10000 29 (.agg #[.int .i64 x0, .int .i64 x1, .int .i64 x2, .int .i64 x3, .int .i64 x4, .int .i64 x5]) (.agg #[.int .i64 y0, .int .i64 y1, .int .i64 y2, .int .i64 y3, .int .i64 y4, .int .i64 y5])).run Tryz.prog W = .ok true W := fun W => by rw [eq_vec, decide_eq_true hc]
            have HCC := Lib.hid hc
            clear hc
            obtain ⟨ee, hee⟩ : ∃ q, decide (xs = ys) = q := ⟨_, rfl⟩
            rw [hee] at SS
            have HE := Lib.hid hee
            clear hee
            cases ee
            · go_wp2_with fail
              go_quiet (first | (go_at_call 30; refine Calls.quiet_of (SS.out _)))
              go_wp2
              go_ret
              refine ⟨ret_bool ?_, m + nq, by rw [HWR.out]; exact World.drewN_drewN _ _ _⟩
              rw [← HRR.out, decide_eq_false]
              intro hh
              have h1 := of_decide_eq_false HE.out
              have h2 := HX.out
              rw [hh, HY.out] at h2
              exact h1 (congrArg Ch.s (Option.some.inj h2)).symm
            · go_wp2_with fail
              go_quiet (first | (go_at_call 30; refine Calls.quiet_of (SS.out _)))
              go_wp2
              refine ⟨⟨k + 1, m + nq, by omega, by go_num, (by rw [HWR.out]; exact World.drewN_drewN _ _ _), Lib.hid (fun j hj => ?_)⟩, by simp only [intOf]; omega⟩
              by_cases e : j = k
              · subst e
                obtain ⟨rfl, rfl, rfl, rfl, rfl, rfl⟩ := HCC.out
                rw [HX.out, HY.out, of_decide_eq_true HE.out]
              · exact HK.out j (by omega)
          · have hq : ∀ W, (Op.equalIn 10000 29 (.agg #[.int .i64 x0, .int .i64 x1, .int .i64 x2, .int .i64 x3, .int .i64 x4, .int .i64 x5]) (.agg #[.int .i64 y0, .int .i64 y1, .int .i64 y2, .int .i64 y3, .int .i64 y4, .int .i64 y5])).run Tryz.prog W = .ok false W := fun W => by rw [eq_vec, decide_eq_false hc]
            have HCC := Lib.hid hc
            clear hc SS
            go_wp2_with fail
            go_quiet (fail)
            go_wp2
            go_ret
            refine ⟨ret_bool ?_, m + nq, by rw [HWR.out]; exact World.drewN_drewN _ _ _⟩
            rw [← HRR.out, decide_eq_false]
            intro hh
            have h2 := HX.out
            rw [hh, HY.out] at h2
            have h3 := congrArg Ch.c (Option.some.inj h2)
            dsimp only at h3
            injection h3 with g0 g1 g2 g3 g4 g5
            exact HCC.out ⟨g0.symm, g1.symm, g2.symm, g3.symm, g4.symm, g5.symm⟩
        · have hpe : (xp == yp) = false := by simpa using hp
          have hpe2 : (xp != yp) = true := by simpa using hp
          have HP := Lib.hid hp
          clear hp SS
          go_wp2_with fail
          go_quiet (fail)
          go_wp2
          go_ret
          refine ⟨ret_bool ?_, m + nq, by rw [HWR.out]; exact World.drewN_drewN _ _ _⟩
          rw [← HRR.out, decide_eq_false]
          intro hh
          have h2 := HX.out
          rw [hh, HY.out] at h2
          exact HP.out (congrArg Ch.p (Option.some.inj h2)).symm
      · obtain rfl : k = la.length := by omega
        clear hwr
        go_wp2
        go_ret
        exact ⟨ret_bool (by rw [← HRR.out, decide_eq_true (list_ext (by have := HLE.out; simpa using this) (fun j hj => HK.out j (by simpa using hj)))]), _, HWR.out⟩
  · have hd : ((la.length : Int) == (lb.length : Int)) = false := by simp; omega
    have HLE := Lib.hid hlen
    clear hlen
    go_enter Tryz.func11, Tryz.ntmps11
    go_wp2
    go_ret
    exact ⟨ret_bool (by rw [← HRR.out, decide_eq_false (fun hh => HLE.out (by have := congrArg List.length hh; simpa using this))]), 0, rfl⟩
end Go.Sc
