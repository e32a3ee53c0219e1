/- EditionLate answers true, whatever the score and the edit: the row and its card. Condition: the listed package-level variables start as the program's text lays them. -/
import Derived.Test.YtjpbfggfoahoeaaGreatDoorRwB
import Derived.Test.YtjpbfggfoahoeaaGreatDoorSrY
import Derived.Test.YtjpbfggfoahoeaaGreatDoorCards
import Derived.Test.YtjpbfggfoahoeaaGreatDoorTie
import Derived.Deep.DeepHandedRow
import Derived.SevenTiedAt
namespace Go.Proofs.YtjpbfggfoahoeaaGreatDoor.fnLate
open Go.ChangeShapes Go.WideShapes Go.ChangeAt Go.RowKit Go.Sc

theorem own : ownKnob Tryz.prog.godebug = none := by kernel_rfl
theorem reads26 : Tryz.prog.readableRec 26 = true := by kernel_rfl
theorem rows26 : 26 < Tryz.prog.types.size := of_decide_eq_true (by kernel_rfl)
theorem reads45 : Tryz.prog.readableRec 45 = true := by kernel_rfl
theorem rows45 : 45 < Tryz.prog.types.size := of_decide_eq_true (by kernel_rfl)

set_option maxRecDepth 100000 in
theorem contract (H : Type) (enc : TypeId × Value → H) (W : World) (base : Nat) (args : Array Value) (ds gs : List (DataW H)) (before : List MemPlace)
    (hval : ∀ (j : Nat) t v, Tryz.f5.params[j]? = some t → args[j]? = some v → Value.okWide Tryz.prog W .any base t v)
    (hW : DataW.Whole enc Tryz.prog Tryz.f5.params.toList Rows.editionLateSpec.vars false W args.toList ds gs before)
    (hwt : (DataW.weightsEach Tryz.prog (Tryz.f5.params.toList ++ []) (ds ++ gs)).all (· ≤ reachBytes) = true) (hL : laidMetH Tryz.prog laidAll W) :
    Calls Tryz.prog 5 args W fun e W' => ∃ v, e = .returned v ∧ Rows.editionLateSpec.post enc Tryz.prog Tryz.f5 false true false false W args v W' := by
  have hW' := hW
  obtain ⟨p, q, hA0, hV, rfl, hfz, hnd⟩ := hW
  have hA : DataW.TrodAll enc Tryz.prog W 0 (fun _ => true) true Tryz.f5.params.toList args.toList ds p := hA0
  rw [Tryz.params5] at hA hval
  obtain ⟨v0, v1, d0, d1, p0, p1, rfl, rfl, rfl, h0, h1⟩ := trodAll_two hA
  obtain ⟨rfl, rfl⟩ := trodVars_none hV
  rw [Tryz.params5] at hwt
  have hall : ∀ x ∈ DataW.weightsEach Tryz.prog [26, 45] [d0, d1], x ≤ reachBytes := fun x hx => by
    have := List.all_eq_true.1 hwt x (by simpa using hx)
    simpa using this
  simp only [DataW.weightsEach, List.mem_append] at hall
  obtain ⟨s, y, rfl, ha, hc, hn⟩ := open_score2 (hval 0 26 v0 rfl rfl) h0 (fun x hx => hall x (.inl hx))
  obtain ⟨x, rfl⟩ := open_ed (hval 1 45 v1 rfl rfl) h1
  refine (law_late s y x W (laid_at hL) ha hc hn).mono fun e W' ⟨he, hbl⟩ => ?_
  subst he
  exact ⟨_, rfl, law_post rfl rfl hW' rfl rfl rfl (fun t ht => by
    rw [Tryz.params5] at ht
    have ht : t = 26 ∨ t = 45 := by simpa using ht
    rcases ht with rfl | rfl
    · exact ⟨reads26, rows26⟩
    · exact ⟨reads45, rows45⟩) hbl⟩

abbrev zeroScore : Value := .agg #[.int .i64 0, .slice none 0 0, .slice none 0 0, .slice none 0 0]
abbrev zeroEdit : Value := .agg zeros45
/-- Block b holds these cells. -/
def lay (b : Nat) (cs : List Value) (h : Array Obj) : Array Obj := h.modify b fun
  | .cells _ t fr => .cells cs.toArray t fr
  | o => o
/-- A world for the witness: the settled one, the listed variables holding what the text lays. -/
noncomputable def laidWorld (os : Os) : World :=
  { World.holding Tryz.prog os ⟨#[], #[], []⟩ with heap := lay 0 ([2, 3, 5, 7, 11, 13].map (Value.int .i64)) (lay 1 (Go.Pinned.utf8FirstZ.map (fun (z : Nat) => Value.int .u8 z))
      (lay 2 ([128, 191, 160, 191, 128, 159, 144, 191, 128, 143, 0, 0, 0, 0, 0, 0, 0, 0, 0, 0, 0, 0, 0, 0, 0, 0, 0, 0, 0, 0, 0, 0].map (Value.int .u8))
      (lay 4 ([1000000000, 1000000000, 1584962500, 1584962501, 2321928094, 2321928095, 2807354922, 2807354923, 3459431618, 3459431619, 3700439718, 3700439719].map (Value.int .i64)) (World.holding Tryz.prog os ⟨#[], #[], []⟩).heap))) }
theorem laid_met (os : Os) (args : Array Value) : laidMet Tryz.prog laidAll ((laidWorld os).forCall (fun _ _ => 0) ⟨#[], args, []⟩).memory :=
  laidMet_of_run3 8 (by kernel_rfl) (by kernel_rfl) (by kernel_rfl)
abbrev zi {H : Type} : DataW H := .lit (.int .i64 0)
set_option maxRecDepth 100000 in
theorem reads (os : Os) {H : Type} (enc : TypeId × Value → H) : ∃ ds places, DataW.whole enc Tryz.prog ((laidWorld os).forCall (fun _ _ => 0) ⟨#[], #[zeroScore, zeroEdit], []⟩).memory Tryz.f5.params.toList Rows.editionLateSpec.vars false #[zeroScore, zeroEdit].toList 8 = some (ds, [], places) :=
  ⟨[.agg [zi, .nil, .nil, .nil], .agg [zi, zi, .agg [zi, zi, zi, .agg [zi, zi, zi, zi, zi, zi], .lit (.bool false)], .agg [zi, zi, .agg [zi, zi, zi, zi, zi, zi], zi]]], [], by kernel_rfl⟩
set_option maxRecDepth 100000 in
theorem lifted (os : Os) (started : os.Started) (H : Type) (enc : TypeId × Value → H) (F : Stop.Interp) :
    ReturnsInHanded {} Tryz.checked os 5 .any ((OpenSpec.ofChange Rows.editionLateSpec).preRow enc Tryz.prog Tryz.f5 Rows.editionLateRow.domain false Rows.editionLateRow.laid) (((OpenSpec.ofChange Rows.editionLateSpec).at F).post enc Tryz.prog Tryz.f5 false true false false) := by
  obtain ⟨ds, places, hx⟩ := reads os enc
  refine returnsInHanded_of_row (C := Tryz.checked) (s := OpenSpec.ofChange Rows.editionLateSpec) own started (by kernel_rfl) Tryz.func5
    (witness_row_at (enc := enc) (C := Tryz.checked) false (laidWorld os) #[zeroScore, zeroEdit] rfl (by kernel_rfl) (by kernel_rfl) (by kernel_rfl)
      (OpenSpec.preRow_of_cond 8 hx (by kernel_rfl) (fun k hk => by cases hk) (by kernel_rfl) (laid_met os _))) ?_
  intro W base args ds gs before hval hW _ _ hwt hL _ _
  exact contract H enc W base args ds gs before hval hW hwt hL
theorem said : Rows.EditionLateSaid :=
  OpenClaim.holds_of_cond 5 Tryz.f5 rfl rfl rfl rfl rfl rfl rfl ⟨rfl, rfl, rfl, rfl, rfl⟩ rfl rfl rfl rfl rfl (by kernel_rfl) Tryz.func5 (by kernel_rfl)
    (of_decide_eq_true (by kernel_rfl)) (by unfold Func.isWrapper; first | (rw [if_pos (by decide +kernel)]; kernel_rfl) | (rw [if_neg (by decide +kernel)]; exact ⟨rfl, rfl⟩))
    (fun os started H enc _ F => by rw [OpenClaim.pre_eq_preRow]; exact lifted os started H enc F)
theorem plain (f : FuncId) (fn : Func) (hf : Tryz.pinned.checked.prog.funcNamed "schisma/schismalaw26.EditionLate" = some f) (hfn : Tryz.pinned.checked.prog.funcs[f]? = some fn) :
    true = Tryz.pinned.checked.prog.looks [] ∧ ∀ (j : Nat) t, fn.params[j]? = some t → Tryz.pinned.checked.prog.wantsStandIn t = false := by
  obtain rfl : f = 5 := Option.some.inj ((show Tryz.prog.funcNamed "schisma/schismalaw26.EditionLate" = some 5 by kernel_rfl).symm.trans hf) |>.symm
  obtain rfl : fn = Tryz.f5 := (Option.some.inj (Tryz.func5.symm.trans hfn)).symm
  refine ⟨by kernel_rfl, fun j t ht => ?_⟩
  rw [Tryz.params5] at ht
  have ht : t = 26 ∨ t = 45 := by simpa using Array.mem_of_getElem? ht
  rcases ht with rfl | rfl
  · exact (show Tryz.prog.wantsStandIn 26 = false by kernel_rfl)
  · exact (show Tryz.prog.wantsStandIn 45 = false by kernel_rfl)
theorem card : Rows.EditionLateCardSaid :=
  Claim7.holds_tied_plain_at .later [] _ _ _ _ said (fun _ h => by cases h) (by kernel_rfl) (fun _ h => by cases h) editionLate_row_tie rfl ⟨rfl, rfl⟩ (by kernel_rfl) rfl plain (by kernel_rfl)
#print axioms card
end Go.Proofs.YtjpbfggfoahoeaaGreatDoor.fnLate
