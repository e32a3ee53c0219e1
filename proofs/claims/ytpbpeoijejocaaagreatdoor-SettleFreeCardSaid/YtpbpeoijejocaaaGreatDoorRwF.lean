/- SettleFree answers true, whatever the score, the shifts, the place and the interval: the row and its card. Condition: the listed package-level variables start as the program's text lays them. -/
import Derived.Test.YtpbpeoijejocaaaGreatDoorRwA
import Derived.Test.YtpbpeoijejocaaaGreatDoorCards
import Derived.Test.YtpbpeoijejocaaaGreatDoorTie
import Derived.Deep.DeepHandedRow
import Derived.SevenTiedAt
namespace Go.Proofs.YtpbpeoijejocaaaGreatDoor.fnFree
open Go.ChangeShapes Go.WideShapes Go.ChangeAt Go.RowKit Go.Sc

theorem own : ownKnob Tryz.prog.godebug = none := by kernel_rfl
theorem readsS : Tryz.prog.readableRec 26 = true := by kernel_rfl
theorem rowsS : 26 < Tryz.prog.types.size := of_decide_eq_true (by kernel_rfl)
theorem readsV : Tryz.prog.readableRec 27 = true := by kernel_rfl
theorem rowsV : 27 < Tryz.prog.types.size := of_decide_eq_true (by kernel_rfl)
theorem readsU : Tryz.prog.readableRec 5 = true := by kernel_rfl
theorem rowsU : 5 < Tryz.prog.types.size := of_decide_eq_true (by kernel_rfl)
theorem readsW : Tryz.prog.readableRec 29 = true := by kernel_rfl
theorem rowsW : 29 < Tryz.prog.types.size := of_decide_eq_true (by kernel_rfl)

set_option maxRecDepth 100000 in
theorem contract (H : Type) (enc : TypeId × Value → H) (W : World) (base : Nat) (args : Array Value) (ds gs : List (DataW H)) (before : List MemPlace)
    (hval : ∀ (j : Nat) t v, Tryz.f3.params[j]? = some t → args[j]? = some v → Value.okWide Tryz.prog W .any base t v)
    (hW : DataW.Whole enc Tryz.prog Tryz.f3.params.toList Rows.settleFreeSpec.vars false W args.toList ds gs before)
    (hwt : (DataW.weightsEach Tryz.prog (Tryz.f3.params.toList ++ []) (ds ++ gs)).all (· ≤ reachBytes) = true) (hL : laidMetH Tryz.prog laidAll W) :
    Calls Tryz.prog 3 args W fun e W' => ∃ v, e = .returned v ∧ Rows.settleFreeSpec.post enc Tryz.prog Tryz.f3 false true false false W args v W' := by
  have hW' := hW
  obtain ⟨p, q, hA0, hV, rfl, hfz, hnd⟩ := hW
  have hA : DataW.TrodAll enc Tryz.prog W 0 (fun _ => true) true Tryz.f3.params.toList args.toList ds p := hA0
  rw [Tryz.params3] at hA hval
  obtain ⟨v0, v1, v2, v3, d0, d1, d2, d3, p0, p1, p2, p3, rfl, rfl, rfl, h0, h1, h2, h3⟩ := trodAll_four hA
  obtain ⟨rfl, rfl⟩ := trodVars_none hV
  rw [Tryz.params3] at hwt
  have hall : ∀ x ∈ DataW.weightsEach Tryz.prog [26, 27, 5, 29] [d0, d1, d2, d3], x ≤ reachBytes := fun x hx => by
    have := List.all_eq_true.1 hwt x (by simpa using hx)
    simpa using this
  simp only [DataW.weightsEach, List.mem_append] at hall
  obtain ⟨s, y, rfl, ha⟩ := open_score (hval 0 26 v0 rfl rfl) h0 (fun x hx => hall x (.inl hx))
  obtain ⟨os, sh, ks, rfl, hsh, hnil, hl⟩ := open_vecs (hval 1 27 v1 rfl rfl) h1 (fun x hx => hall x (.inr (.inl hx)))
  obtain ⟨n, rfl, hn0, hn1⟩ := open_u8 h2 (hval 2 5 v2 rfl rfl)
  obtain ⟨x, rfl⟩ := open_vec (hval 3 29 v3 rfl rfl) h3
  refine (law_free s y os sh ks n x W ha hsh hnil hl ⟨hn0, hn1⟩ (laid_at hL)).mono fun e W' ⟨he, hbl⟩ => ?_
  subst he
  exact ⟨_, rfl, law_post rfl rfl hW' rfl rfl rfl (fun t ht => by
    rw [Tryz.params3] at ht
    have ht : t = 26 ∨ t = 27 ∨ t = 5 ∨ t = 29 := by simpa using ht
    rcases ht with rfl | rfl | rfl | rfl
    · exact ⟨readsS, rowsS⟩
    · exact ⟨readsV, rowsV⟩
    · exact ⟨readsU, rowsU⟩
    · exact ⟨readsW, rowsW⟩) hbl⟩

abbrev zeroScore : Value := .agg #[.int .i64 0, .slice none 0 0, .slice none 0 0, .slice none 0 0]
abbrev zeroArgs : Array Value := #[zeroScore, .slice none 0 0, .int .u8 0, .agg #[.int .i64 0, .int .i64 0, .int .i64 0, .int .i64 0, .int .i64 0, .int .i64 0]]
/-- Block b holds these cells. -/
def lay (b : Nat) (cs : List Value) (h : Array Obj) : Array Obj := h.modify b fun
  | .cells _ t fr => .cells cs.toArray t fr
  | o => o
/-- A world for the witness: the settled one, the listed variables holding what the text lays. -/
noncomputable def laidWorld (os : Os) : World :=
  { World.holding Tryz.prog os ⟨#[], #[], []⟩ with heap := lay 1 ([2, 3, 5, 7, 11, 13].map (Value.int .i64)) (lay 2 (Go.Pinned.utf8FirstZ.map (fun (z : Nat) => Value.int .u8 z))
      (lay 3 ([128, 191, 160, 191, 128, 159, 144, 191, 128, 143, 0, 0, 0, 0, 0, 0, 0, 0, 0, 0, 0, 0, 0, 0, 0, 0, 0, 0, 0, 0, 0, 0].map (Value.int .u8))
      (lay 0 ([1000000000, 1000000000, 1584962500, 1584962501, 2321928094, 2321928095, 2807354922, 2807354923, 3459431618, 3459431619, 3700439718, 3700439719].map (Value.int .i64)) (World.holding Tryz.prog os ⟨#[], #[], []⟩).heap))) }
theorem laid_met (os : Os) (args : Array Value) : laidMet Tryz.prog laidAll ((laidWorld os).forCall (fun _ _ => 0) ⟨#[], args, []⟩).memory :=
  laidMet_of_run3 8 (by kernel_rfl) (by kernel_rfl) (by kernel_rfl)
set_option maxRecDepth 100000 in
theorem reads (os : Os) {H : Type} (enc : TypeId × Value → H) : ∃ ds places, DataW.whole enc Tryz.prog ((laidWorld os).forCall (fun _ _ => 0) ⟨#[], zeroArgs, []⟩).memory Tryz.f3.params.toList Rows.settleFreeSpec.vars false zeroArgs.toList 8 = some (ds, [], places) :=
  ⟨[.agg [.lit (.int .i64 0), .nil, .nil, .nil], .nil, .lit (.int .u8 0), .agg [.lit (.int .i64 0), .lit (.int .i64 0), .lit (.int .i64 0), .lit (.int .i64 0), .lit (.int .i64 0), .lit (.int .i64 0)]], [], by kernel_rfl⟩
set_option maxRecDepth 100000 in
theorem lifted (os : Os) (started : os.Started) (H : Type) (enc : TypeId × Value → H) (F : Stop.Interp) :
    ReturnsInHanded {} Tryz.checked os 3 .any ((OpenSpec.ofChange Rows.settleFreeSpec).preRow enc Tryz.prog Tryz.f3 Rows.settleFreeRow.domain false Rows.settleFreeRow.laid) (((OpenSpec.ofChange Rows.settleFreeSpec).at F).post enc Tryz.prog Tryz.f3 false true false false) := by
  obtain ⟨ds, places, hx⟩ := reads os enc
  refine returnsInHanded_of_row (C := Tryz.checked) (s := OpenSpec.ofChange Rows.settleFreeSpec) own started (by kernel_rfl) Tryz.func3
    (witness_row_at (enc := enc) (C := Tryz.checked) false (laidWorld os) zeroArgs rfl (by kernel_rfl) (by kernel_rfl) (by kernel_rfl)
      (OpenSpec.preRow_of_cond 8 hx (by kernel_rfl) (fun k hk => by cases hk) (by kernel_rfl) (laid_met os _))) ?_
  intro W base args ds gs before hval hW _ _ hwt hL _ _
  exact contract H enc W base args ds gs before hval hW hwt hL
theorem said : Rows.SettleFreeSaid :=
  OpenClaim.holds_of_cond 3 Tryz.f3 rfl rfl rfl rfl rfl rfl rfl ⟨rfl, rfl, rfl, rfl, rfl⟩ rfl rfl rfl rfl rfl (by kernel_rfl) Tryz.func3 (by kernel_rfl)
    (of_decide_eq_true (by kernel_rfl)) (by unfold Func.isWrapper; first | (rw [if_pos (by decide +kernel)]; kernel_rfl) | (rw [if_neg (by decide +kernel)]; exact ⟨rfl, rfl⟩))
    (fun os started H enc _ F => by rw [OpenClaim.pre_eq_preRow]; exact lifted os started H enc F)
theorem plain (f : FuncId) (fn : Func) (hf : Tryz.pinned.checked.prog.funcNamed "schisma/schismalaw35.SettleFree" = some f) (hfn : Tryz.pinned.checked.prog.funcs[f]? = some fn) :
    true = Tryz.pinned.checked.prog.looks [] ∧ ∀ (j : Nat) t, fn.params[j]? = some t → Tryz.pinned.checked.prog.wantsStandIn t = false := by
  obtain rfl : f = 3 := Option.some.inj ((show Tryz.prog.funcNamed "schisma/schismalaw35.SettleFree" = some 3 by kernel_rfl).symm.trans hf) |>.symm
  obtain rfl : fn = Tryz.f3 := (Option.some.inj (Tryz.func3.symm.trans hfn)).symm
  refine ⟨by kernel_rfl, fun j t ht => ?_⟩
  rw [Tryz.params3] at ht
  have ht : t = 26 ∨ t = 27 ∨ t = 5 ∨ t = 29 := by simpa using Array.mem_of_getElem? ht
  rcases ht with rfl | rfl | rfl | rfl
  · exact (show Tryz.prog.wantsStandIn 26 = false by kernel_rfl)
  · exact (show Tryz.prog.wantsStandIn 27 = false by kernel_rfl)
  · exact (show Tryz.prog.wantsStandIn 5 = false by kernel_rfl)
  · exact (show Tryz.prog.wantsStandIn 29 = false by kernel_rfl)
theorem card : Rows.SettleFreeCardSaid :=
  Claim7.holds_tied_plain_at .later [] _ _ _ _ said (fun _ h => by cases h) (by kernel_rfl) (fun _ h => by cases h) settleFree_row_tie rfl ⟨rfl, rfl⟩ (by kernel_rfl) rfl plain (by kernel_rfl)
#print axioms card
end Go.Proofs.YtpbpeoijejocaaaGreatDoor.fnFree
