/- Equality of six integers as the machine does it. -/
import Derived.Test.YtpbpeoijejocaaaGreatDoorScP
import Derived.ChangeKeysEq
import Derived.Laws.StructEq
namespace Go.Sc
open Go.RowKit Go.Proofs

theorem equal_int (D : Nat) (x y : Int) (W : World) : (Op.equalIn (D + 1) 3 (.int .i64 x) (.int .i64 y)).run Tryz.prog W = .ok (x == y) W := by
  simp [Op.equalIn, run_underlying Tryz.underlying3]
theorem items_nil (D : Nat) (xs ys : Array Value) (W : World) : (Op.eqItems D 3 1 xs ys []).run Tryz.prog W = .ok true W := by simp [Op.eqItems]
theorem items_cons (D : Nat) (xs ys : Array Value) (j : Nat) (js : List Nat) (x y : Int) (W : World) (hx : xs[j * 1]? = some (.int .i64 x)) (hy : ys[j * 1]? = some (.int .i64 y)) :
    (Op.eqItems (D + 1) 3 1 xs ys (j :: js)).run Tryz.prog W = if x = y then (Op.eqItems (D + 1) 3 1 xs ys js).run Tryz.prog W else .ok false W := by
  have h3 : Tryz.prog.plainKey 3 = true := by kernel_rfl
  have e1 := run_part_plain (P := Tryz.prog) W h3 hx
  have e2 := run_part_plain (P := Tryz.prog) W h3 hy
  simp only [Op.eqItems, Sem.run_bind, e1, e2, Result.andThen_ok, equal_int]
  by_cases h : x = y
  · simp [h]
  · simp [h]
theorem eq_vec (p0 p1 p2 p3 p4 p5 a0 a1 a2 a3 a4 a5 : Int) (W : World) :
    (Op.equalIn 10000 29 (.agg #[.int .i64 p0, .int .i64 p1, .int .i64 p2, .int .i64 p3, .int .i64 p4, .int .i64 p5]) (.agg #[.int .i64 a0, .int .i64 a1, .int .i64 a2, .int .i64 a3, .int .i64 a4, .int .i64 a5])).run Tryz.prog W =
      .ok (decide (p0 = a0 ∧ p1 = a1 ∧ p2 = a2 ∧ p3 = a3 ∧ p4 = a4 ∧ p5 = a5)) W := by
  obtain ⟨i, hi, hc⟩ : ∃ i, Tryz.prog.info? 3 = some i ∧ Tryz.prog.cellsOf 3 = 1 := by
    have h1 : (Tryz.prog.info? 3).isSome = true := by kernel_rfl
    obtain ⟨i, hi⟩ := Option.isSome_iff_exists.1 h1
    exact ⟨i, hi, by kernel_rfl⟩
  rw [run_equalIn_array W 9999 _ _ Tryz.underlying29 hi, hc]
  show (Op.eqItems (9998 + 1) 3 1 _ _ [0, 1, 2, 3, 4, 5]).run Tryz.prog W = _
  rw [items_cons 9998 _ _ 0 _ p0 a0 W rfl rfl, items_cons 9998 _ _ 1 _ p1 a1 W rfl rfl, items_cons 9998 _ _ 2 _ p2 a2 W rfl rfl, items_cons 9998 _ _ 3 _ p3 a3 W rfl rfl, items_cons 9998 _ _ 4 _ p4 a4 W rfl rfl, items_cons 9998 _ _ 5 _ p5 a5 W rfl rfl, items_nil]
  by_cases h0 : p0 = a0 <;> by_cases h1 : p1 = a1 <;> by_cases h2 : p2 = a2 <;> by_cases h3 : p3 = a3 <;> by_cases h4 : p4 = a4 <;> by_cases h5 : p5 = a5 <;> simp [h0, h1, h2, h3, h4, h5]
theorem vec_run (p0 p1 p2 p3 p4 p5 a0 a1 a2 a3 a4 a5 : Int) (D : Nat) (W : World) :
    (Op.equalIn (D + 2) 29 (.agg #[.int .i64 p0, .int .i64 p1, .int .i64 p2, .int .i64 p3, .int .i64 p4, .int .i64 p5]) (.agg #[.int .i64 a0, .int .i64 a1, .int .i64 a2, .int .i64 a3, .int .i64 a4, .int .i64 a5])).run Tryz.prog W =
      .ok (decide (p0 = a0 ∧ p1 = a1 ∧ p2 = a2 ∧ p3 = a3 ∧ p4 = a4 ∧ p5 = a5)) W := by
  obtain ⟨i, hi, hc⟩ : ∃ i, Tryz.prog.info? 3 = some i ∧ Tryz.prog.cellsOf 3 = 1 := by
    have h1 : (Tryz.prog.info? 3).isSome = true := by kernel_rfl
    obtain ⟨i, hi⟩ := Option.isSome_iff_exists.1 h1
    exact ⟨i, hi, by kernel_rfl⟩
  rw [run_equalIn_array W (D + 1) _ _ Tryz.underlying29 hi, hc]
  show (Op.eqItems (D + 1) 3 1 _ _ [0, 1, 2, 3, 4, 5]).run Tryz.prog W = _
  rw [items_cons D _ _ 0 _ p0 a0 W rfl rfl, items_cons D _ _ 1 _ p1 a1 W rfl rfl, items_cons D _ _ 2 _ p2 a2 W rfl rfl, items_cons D _ _ 3 _ p3 a3 W rfl rfl, items_cons D _ _ 4 _ p4 a4 W rfl rfl, items_cons D _ _ 5 _ p5 a5 W rfl rfl, items_nil]
  by_cases h0 : p0 = a0 <;> by_cases h1 : p1 = a1 <;> by_cases h2 : p2 = a2 <;> by_cases h3 : p3 = a3 <;> by_cases h4 : p4 = a4 <;> by_cases h5 : p5 = a5 <;> simp [h0, h1, h2, h3, h4, h5]
theorem fld_cons (D : Nat) (xs ys : Array Value) (f : Field) (fs : List Field) (x y : Value) (b : Bool) (W : World) (hn : f.name ≠ "_") (hx : (part f.type xs f.offset).run Tryz.prog W = .ok x W) (hy : (part f.type ys f.offset).run Tryz.prog W = .ok y W)
    (he : (Op.equalIn D f.type x y).run Tryz.prog W = .ok b W) : (Op.eqFields D xs ys (f :: fs)).run Tryz.prog W = if b then (Op.eqFields D xs ys fs).run Tryz.prog W else .ok false W := by
  cases b <;> simp [Op.eqFields, hn, hx, hy, he]
theorem equal_bool (D : Nat) (x y : Bool) (W : World) : (Op.equalIn (D + 1) 4 (.bool x) (.bool y)).run Tryz.prog W = .ok (x == y) W := by
  simp [Op.equalIn, run_underlying Tryz.underlying4]
end Go.Sc

/-! Equality of notes and of pairs as the machine does it. -/
namespace Go.Sc
open Go.RowKit Go.Proofs

def fd410 : Field := { name := "Voice", type := 3, offset := 0, embedded := false, tag := "", pkgPath := "", byteOffset := 0 }
def fd411 : Field := { name := "From", type := 3, offset := 1, embedded := false, tag := "", pkgPath := "", byteOffset := 8 }
def fd412 : Field := { name := "Until", type := 3, offset := 2, embedded := false, tag := "", pkgPath := "", byteOffset := 16 }
def fd413 : Field := { name := "At", type := 29, offset := 3, embedded := false, tag := "", pkgPath := "", byteOffset := 24 }
def fd414 : Field := { name := "Tied", type := 4, offset := 9, embedded := false, tag := "", pkgPath := "", byteOffset := 72 }
theorem eq_note (x y : Nt) (W : World) : (Op.equalIn 10000 100 (.agg x.cells.toArray) (.agg y.cells.toArray)).run Tryz.prog W = .ok (decide (x = y)) W := by
  obtain ⟨v, fr, un, a0, a1, a2, a3, a4, a5, td⟩ := x
  obtain ⟨v', fr', un', b0, b1, b2, b3, b4, b5, td'⟩ := y
  have g3 : ∀ (x y : Int), (Op.equalIn 9999 3 (.int .i64 x) (.int .i64 y)).run Tryz.prog W = .ok (x == y) W := fun x y => equal_int 9998 x y W
  have g4 : ∀ (x y : Bool), (Op.equalIn 9999 4 (.bool x) (.bool y)).run Tryz.prog W = .ok (x == y) W := fun x y => equal_bool 9998 x y W
  have g39 : (Op.equalIn 9999 29 (.agg #[.int .i64 a0, .int .i64 a1, .int .i64 a2, .int .i64 a3, .int .i64 a4, .int .i64 a5]) (.agg #[.int .i64 b0, .int .i64 b1, .int .i64 b2, .int .i64 b3, .int .i64 b4, .int .i64 b5])).run Tryz.prog W = .ok (decide (a0 = b0 ∧ a1 = b1 ∧ a2 = b2 ∧ a3 = b3 ∧ a4 = b4 ∧ a5 = b5)) W := vec_run a0 a1 a2 a3 a4 a5 b0 b1 b2 b3 b4 b5 9997 W
  have hf : (Tryz.prog.fieldsOf 100).toList = [fd410, fd411, fd412, fd413, fd414] := by
    unfold Program.fieldsOf
    rw [Tryz.underlying100]
    rfl
  rw [run_equalIn_struct W 9999 100 _ _ (by kernel_rfl) (by kernel_rfl), hf]
  rw [fld_cons 9999 _ _ fd410 _ (.int .i64 v) (.int .i64 v') _ W (by simp [fd410]) (by kernel_rfl) (by kernel_rfl) (g3 v v')]
  rw [fld_cons 9999 _ _ fd411 _ (.int .i64 fr) (.int .i64 fr') _ W (by simp [fd411]) (by kernel_rfl) (by kernel_rfl) (g3 fr fr')]
  rw [fld_cons 9999 _ _ fd412 _ (.int .i64 un) (.int .i64 un') _ W (by simp [fd412]) (by kernel_rfl) (by kernel_rfl) (g3 un un')]
  rw [fld_cons 9999 _ _ fd413 _ (.agg #[.int .i64 a0, .int .i64 a1, .int .i64 a2, .int .i64 a3, .int .i64 a4, .int .i64 a5]) (.agg #[.int .i64 b0, .int .i64 b1, .int .i64 b2, .int .i64 b3, .int .i64 b4, .int .i64 b5]) _ W (by simp [fd413]) (by kernel_rfl) (by kernel_rfl) g39]
  rw [fld_cons 9999 _ _ fd414 _ (.bool td) (.bool td') _ W (by simp [fd414]) (by kernel_rfl) (by kernel_rfl) (g4 td td')]
  have h5 : (Op.eqFields 9999 (Nt.cells ⟨v, fr, un, a0, a1, a2, a3, a4, a5, td⟩).toArray (Nt.cells ⟨v', fr', un', b0, b1, b2, b3, b4, b5, td'⟩).toArray []).run Tryz.prog W = .ok true W := by simp [Op.eqFields]
  rw [h5]
  have hinj : ((⟨v, fr, un, a0, a1, a2, a3, a4, a5, td⟩ : Nt) = ⟨v', fr', un', b0, b1, b2, b3, b4, b5, td'⟩) ↔ (v = v' ∧ fr = fr' ∧ un = un' ∧ (a0 = b0 ∧ a1 = b1 ∧ a2 = b2 ∧ a3 = b3 ∧ a4 = b4 ∧ a5 = b5) ∧ td = td') := by simp [and_assoc]
  clear g3 g4 g39 hf h5
  simp only [beq_iff_eq, decide_eq_true_eq]
  by_cases e0 : v = v'
  case neg => rw [if_neg e0, decide_eq_false (fun h => e0 (hinj.1 h).1)]
  rw [if_pos e0]
  by_cases e1 : fr = fr'
  case neg => rw [if_neg e1, decide_eq_false (fun h => e1 (hinj.1 h).2.1)]
  rw [if_pos e1]
  by_cases e2 : un = un'
  case neg => rw [if_neg e2, decide_eq_false (fun h => e2 (hinj.1 h).2.2.1)]
  rw [if_pos e2]
  by_cases e3 : (a0 = b0 ∧ a1 = b1 ∧ a2 = b2 ∧ a3 = b3 ∧ a4 = b4 ∧ a5 = b5)
  case neg => rw [if_neg e3, decide_eq_false (fun h => e3 (hinj.1 h).2.2.2.1)]
  rw [if_pos e3]
  by_cases e4 : td = td'
  case neg => rw [if_neg e4, decide_eq_false (fun h => e4 (hinj.1 h).2.2.2.2)]
  rw [if_pos e4]
  rw [decide_eq_true (hinj.2 ⟨e0, e1, e2, e3, e4⟩)]
def fd430 : Field := { name := "A", type := 3, offset := 0, embedded := false, tag := "", pkgPath := "", byteOffset := 0 }
def fd431 : Field := { name := "B", type := 3, offset := 1, embedded := false, tag := "", pkgPath := "", byteOffset := 8 }
def fd432 : Field := { name := "Want", type := 29, offset := 2, embedded := false, tag := "", pkgPath := "", byteOffset := 16 }
def fd433 : Field := { name := "Bound", type := 3, offset := 8, embedded := false, tag := "", pkgPath := "", byteOffset := 64 }
theorem eq_pair (x y : Pr) (W : World) : (Op.equalIn 10000 84 (.agg x.cells.toArray) (.agg y.cells.toArray)).run Tryz.prog W = .ok (decide (x = y)) W := by
  obtain ⟨v, fr, a0, a1, a2, a3, a4, a5, un⟩ := x
  obtain ⟨v', fr', b0, b1, b2, b3, b4, b5, un'⟩ := y
  have g3 : ∀ (x y : Int), (Op.equalIn 9999 3 (.int .i64 x) (.int .i64 y)).run Tryz.prog W = .ok (x == y) W := fun x y => equal_int 9998 x y W
  have g4 : ∀ (x y : Bool), (Op.equalIn 9999 4 (.bool x) (.bool y)).run Tryz.prog W = .ok (x == y) W := fun x y => equal_bool 9998 x y W
  have g39 : (Op.equalIn 9999 29 (.agg #[.int .i64 a0, .int .i64 a1, .int .i64 a2, .int .i64 a3, .int .i64 a4, .int .i64 a5]) (.agg #[.int .i64 b0, .int .i64 b1, .int .i64 b2, .int .i64 b3, .int .i64 b4, .int .i64 b5])).run Tryz.prog W = .ok (decide (a0 = b0 ∧ a1 = b1 ∧ a2 = b2 ∧ a3 = b3 ∧ a4 = b4 ∧ a5 = b5)) W := vec_run a0 a1 a2 a3 a4 a5 b0 b1 b2 b3 b4 b5 9997 W
  have hf : (Tryz.prog.fieldsOf 84).toList = [fd430, fd431, fd432, fd433] := by
    unfold Program.fieldsOf
    rw [Tryz.underlying84]
    rfl
  rw [run_equalIn_struct W 9999 84 _ _ (by kernel_rfl) (by kernel_rfl), hf]
  rw [fld_cons 9999 _ _ fd430 _ (.int .i64 v) (.int .i64 v') _ W (by simp [fd430]) (by kernel_rfl) (by kernel_rfl) (g3 v v')]
  rw [fld_cons 9999 _ _ fd431 _ (.int .i64 fr) (.int .i64 fr') _ W (by simp [fd431]) (by kernel_rfl) (by kernel_rfl) (g3 fr fr')]
  rw [fld_cons 9999 _ _ fd432 _ (.agg #[.int .i64 a0, .int .i64 a1, .int .i64 a2, .int .i64 a3, .int .i64 a4, .int .i64 a5]) (.agg #[.int .i64 b0, .int .i64 b1, .int .i64 b2, .int .i64 b3, .int .i64 b4, .int .i64 b5]) _ W (by simp [fd432]) (by kernel_rfl) (by kernel_rfl) g39]
  rw [fld_cons 9999 _ _ fd433 _ (.int .i64 un) (.int .i64 un') _ W (by simp [fd433]) (by kernel_rfl) (by kernel_rfl) (g3 un un')]
  have h5 : (Op.eqFields 9999 (Pr.cells ⟨v, fr, a0, a1, a2, a3, a4, a5, un⟩).toArray (Pr.cells ⟨v', fr', b0, b1, b2, b3, b4, b5, un'⟩).toArray []).run Tryz.prog W = .ok true W := by simp [Op.eqFields]
  rw [h5]
  have hinj : ((⟨v, fr, a0, a1, a2, a3, a4, a5, un⟩ : Pr) = ⟨v', fr', b0, b1, b2, b3, b4, b5, un'⟩) ↔ (v = v' ∧ fr = fr' ∧ (a0 = b0 ∧ a1 = b1 ∧ a2 = b2 ∧ a3 = b3 ∧ a4 = b4 ∧ a5 = b5) ∧ un = un') := by simp [and_assoc]
  clear g3 g4 g39 hf h5
  simp only [beq_iff_eq, decide_eq_true_eq]
  by_cases e0 : v = v'
  case neg => rw [if_neg e0, decide_eq_false (fun h => e0 (hinj.1 h).1)]
  rw [if_pos e0]
  by_cases e1 : fr = fr'
  case neg => rw [if_neg e1, decide_eq_false (fun h => e1 (hinj.1 h).2.1)]
  rw [if_pos e1]
  by_cases e2 : (a0 = b0 ∧ a1 = b1 ∧ a2 = b2 ∧ a3 = b3 ∧ a4 = b4 ∧ a5 = b5)
  case neg => rw [if_neg e2, decide_eq_false (fun h => e2 (hinj.1 h).2.2.1)]
  rw [if_pos e2]
  by_cases e3 : un = un'
  case neg => rw [if_neg e3, decide_eq_false (fun h => e3 (hinj.1 h).2.2.2)]
  rw [if_pos e3]
  rw [decide_eq_true (hinj.2 ⟨e0, e1, e2, e3⟩)]
end Go.Sc
