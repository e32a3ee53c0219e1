/- EditionEdits answers true, whatever the score, the two lists of edits and the place: the row and its card. Condition: the listed package-level variables start as the program's text lays them. -/
import Derived.Test.YtjpbfggfoahoeaaGreatDoorRwB
import Derived.Test.YtjpbfggfoahoeaaGreatDoorSrZ
import Derived.Test.YtjpbfggfoahoeaaGreatDoorCards
import Derived.Test.YtjpbfggfoahoeaaGreatDoorTie
import Derived.Deep.DeepHandedRow
import Derived.SevenTiedAt
namespace Go.Proofs.YtjpbfggfoahoeaaGreatDoor.fnEdits
open Go.ChangeShapes Go.WideShapes Go.ChangeAt Go.RowKit Go.Sc

theorem own : ownKnob Tryz.prog.godebug = none := by kernel_rfl
theorem reads26 : Tryz.prog.readableRec 26 = true := by kernel_rfl
theorem rows26 : 26 < Tryz.prog.types.size := of_decide_eq_true (by kernel_rfl)
theorem reads35 : Tryz.prog.readableRec 35 = true := by kernel_rfl
theorem rows35 : 35 < Tryz.prog.types.size := of_decide_eq_true (by kernel_rfl)
theorem reads5 : Tryz.prog.readableRec 5 = true := by kernel_rfl
theorem rows5 : 5 < Tryz.prog.types.size := of_decide_eq_true (by kernel_rfl)

set_option maxRecDepth 100000 in
theorem contract (H : Type) (enc : TypeId × Value → H) (W : World) (base : Nat) (args : Array Value) (ds gs : List (DataW H)) (before : List MemPlace)
    (hval : ∀ (j : Nat) t v, Tryz.f4.params[j]? = some t → args[j]? = some v → Value.okWide Tryz.prog W .any base t v)
    (hW : DataW.Whole enc Tryz.prog Tryz.f4.params.toList Rows.editionEditsSpec.vars false W args.toList ds gs before)
    (hwt : (DataW.weightsEach Tryz.prog (Tryz.f4.params.toList ++ []) (ds ++ gs)).all (· ≤ reachBytes) = true) (hL : laidMetH Tryz.prog laidAll W) :
    Calls Tryz.prog 4 args W fun e W' => ∃ v, e = .returned v ∧ Rows.editionEditsSpec.post enc Tryz.prog Tryz.f4 false true false false W args v W' := by
  have hW' := hW
  obtain ⟨p, q, hA0, hV, rfl, hfz, hnd⟩ := hW
  have hA : DataW.TrodAll enc Tryz.prog W 0 (fun _ => true) true Tryz.f4.params.toList args.toList ds p := hA0
  rw [Tryz.params4] at hA hval
  obtain ⟨v0, v1, v2, v3, d0, d1, d2, d3, p0, p1, p2, p3, rfl, rfl, rfl, h0, h1, h2, h3⟩ := trodAll_four hA
  obtain ⟨rfl, rfl⟩ := trodVars_none hV
  rw [Tryz.params4] at hwt
  have hall : ∀ x ∈ DataW.weightsEach Tryz.prog [26, 35, 35, 5] [d0, d1, d2, d3], x ≤ reachBytes := fun x hx => by
    have := List.all_eq_true.1 hwt x (by simpa using hx)
    simpa using this
  simp only [DataW.weightsEach, List.mem_append] at hall
  obtain ⟨s, y, rfl, ha, _, hn⟩ := open_score2 (hval 0 26 v0 rfl rfl) h0 (fun x hx => hall x (.inl hx))
  obtain ⟨oa, la, ca, rfl, hea⟩ := open_eds (hval 1 35 v1 rfl rfl) h1
  obtain ⟨ob, lb, cb, rfl, heb⟩ := open_eds (hval 2 35 v2 rfl rfl) h2
  obtain ⟨n, rfl, hn0, hn1⟩ := open_u8 h3 (hval 3 5 v3 rfl rfl)
  refine (law_edits s y oa ob la lb ca cb n W (laid_at hL) ha hn hea heb hn0 hn1).mono fun e W' ⟨he, hbl⟩ => ?_
  subst he
  exact ⟨_, rfl, law_post rfl rfl hW' rfl rfl rfl (fun t ht => by
    rw [Tryz.params4] at ht
    have ht : t = 26 ∨ t = 35 ∨ t = 5 := by simpa using ht
    rcases ht with rfl | rfl | rfl
    · exact ⟨reads26, rows26⟩
    · exact ⟨reads35, rows35⟩
    · exact ⟨reads5, rows5⟩) hbl⟩

abbrev zeroScore : Value := .agg #[.int .i64 0, .slice none 0 0, .slice none 0 0, .slice none 0 0]
abbrev zeroArgs : Array Value := #[zeroScore, .slice none 0 0, .slice none 0 0, .int .u8 0]
/-- Block b holds these cells. -/
def lay (b : Nat) (cs : List Value) (h : Array Obj) : Array Obj := h.modify b fun
  | .cells _ t fr => .cells cs.toArray t fr
  | o => o
/-- A world for the witness: the settled one, the listed variables holding what the text lays. -/
noncomputable def laidWorld (os : Os) : World :=
  { World.holding Tryz.prog os ⟨#[], #[], []⟩ with heap := lay 0 ([2, 3, 5, 7, 11, 13].map (Value.int .i64)) (lay 1 (Go.Pinned.utf8FirstZ.map (fun (z : Nat) => Value.int .u8 z))
      (lay 2 ([128, 191, 160, 191, 128, 159, 144, 191, 128, 143, 0, 0, 0, 0, 0, 0, 0, 0, 0, 0, 0, 0, 0, 0, 0, 0, 0, 0, 0, 0, 0, 0].map (Value.int .u8))
      (lay 4 ([1000000000, 1000000000, 1584962500, 1584962501, 2321928094, 2321928095, 2807354922, 2807354923, 3459431618, 3459431619, 3700439718, 3700439719].map (Value.int .i64)) (World.holding Tryz.prog os ⟨#[], #[], []⟩).heap))) }
theorem laid_met (os : Os) (args : Array Value) : laidMet Tryz.prog laidAll ((laidWorld os).forCall (fun _ _ => 0) ⟨#[], args, []⟩).memory :=
  laidMet_of_run3 8 (by kernel_rfl) (by kernel_rfl) (by kernel_rfl)
set_option maxRecDepth 100000 in
theorem reads (os : Os) {H : Type} (enc : TypeId × Value → H) : ∃ ds places, DataW.whole enc Tryz.prog ((laidWorld os).forCall (fun _ _ => 0) ⟨#[], zeroArgs, []⟩).memory Tryz.f4.params.toList Rows.editionEditsSpec.vars false zeroArgs.toList 8 = some (ds, [], places) :=
  ⟨[.agg [.lit (.int .i64 0), .nil, .nil, .nil], .nil, .nil, .lit (.int .u8 0)], [], by kernel_rfl⟩
set_option maxRecDepth 100000 in
theorem lifted (os : Os) (started : os.Started) (H : Type) (enc : TypeId × Value → H) (F : Stop.Interp) :
    ReturnsInHanded {} Tryz.checked os 4 .any ((OpenSpec.ofChange Rows.editionEditsSpec).preRow enc Tryz.prog Tryz.f4 Rows.editionEditsRow.domain false Rows.editionEditsRow.laid) (((OpenSpec.ofChange Rows.editionEditsSpec).at F).post enc Tryz.prog Tryz.f4 false true false false) := by
  obtain ⟨ds, places, hx⟩ := reads os enc
  refine returnsInHanded_of_row (C := Tryz.checked) (s := OpenSpec.ofChange Rows.editionEditsSpec) own started (by kernel_rfl) Tryz.func4
    (witness_row_at (enc := enc) (C := Tryz.checked) false (laidWorld os) zeroArgs rfl (by kernel_rfl) (by kernel_rfl) (by kernel_rfl)
      (OpenSpec.preRow_of_cond 8 hx (by kernel_rfl) (fun k hk => by cases hk) (by kernel_rfl) (laid_met os _))) ?_
  intro W base args ds gs before hval hW _ _ hwt hL _ _
  exact contract H enc W base args ds gs before hval hW hwt hL
theorem said : Rows.EditionEditsSaid :=
  OpenClaim.holds_of_cond 4 Tryz.f4 rfl rfl rfl rfl rfl rfl rfl ⟨rfl, rfl, rfl, rfl, rfl⟩ rfl rfl rfl rfl rfl (by kernel_rfl) Tryz.func4 (by kernel_rfl)
    (of_decide_eq_true (by kernel_rfl)) (by unfold Func.isWrapper; first | (rw [if_pos (by decide +kernel)]; kernel_rfl) | (rw [if_neg (by decide +kernel)]; exact ⟨rfl, rfl⟩))
    (fun os started H enc _ F => by rw [OpenClaim.pre_eq_preRow]; exact lifted os started H enc F)
theorem plain (f : FuncId) (fn : Func) (hf : Tryz.pinned.checked.prog.funcNamed "schisma/schismalaw26.EditionEdits" = some f) (hfn : Tryz.pinned.checked.prog.funcs[f]? = some fn) :
    true = Tryz.pinned.checked.prog.looks [] ∧ ∀ (j : Nat) t, fn.params[j]? = some t → Tryz.pinned.checked.prog.wantsStandIn t = false := by
  obtain rfl : f = 4 := Option.some.inj ((show Tryz.prog.funcNamed "schisma/schismalaw26.EditionEdits" = some 4 by kernel_rfl).symm.trans hf) |>.symm
  obtain rfl : fn = Tryz.f4 := (Option.some.inj (Tryz.func4.symm.trans hfn)).symm
  refine ⟨by kernel_rfl, fun j t ht => ?_⟩
  rw [Tryz.params4] at ht
  have ht : t = 26 ∨ t = 35 ∨ t = 5 := by simpa using Array.mem_of_getElem? ht
  rcases ht with rfl | rfl | rfl
  · exact (show Tryz.prog.wantsStandIn 26 = false by kernel_rfl)
  · exact (show Tryz.prog.wantsStandIn 35 = false by kernel_rfl)
  · exact (show Tryz.prog.wantsStandIn 5 = false by kernel_rfl)
theorem card : Rows.EditionEditsCardSaid :=
  Claim7.holds_tied_plain_at .later [] _ _ _ _ said (fun _ h => by cases h) (by kernel_rfl) (fun _ h => by cases h) editionEdits_row_tie rfl ⟨rfl, rfl⟩ (by kernel_rfl) rfl plain (by kernel_rfl)
#print axioms card
end Go.Proofs.YtjpbfggfoahoeaaGreatDoor.fnEdits
