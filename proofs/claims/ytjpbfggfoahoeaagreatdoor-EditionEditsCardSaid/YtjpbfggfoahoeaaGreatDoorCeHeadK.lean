/- The head of the law's package, evaluated: it answers true. -/
import Derived.Test.YtjpbfggfoahoeaaGreatDoorCeMemE
namespace Go.Ce
open Go.RowKit Go.Proofs
set_option maxRecDepth 100000
def iA (n : Int) : AV := .int .i64 n
def primesA : List AV := [2, 3, 5, 7, 11, 13].map iA
def logsA : List AV := [1000000000, 1000000000, 1584962500, 1584962501, 2321928094, 2321928095, 2807354922, 2807354923, 3459431618, 3459431619, 3700439718, 3700439719].map iA
def H26 : AH := ((AH.mk 0 .nil).push (.cells primesA 0 true true)).push (.cells logsA 0 true true)
def isT : Option (AV × AH) → Bool
  | some (.bool true, _) => true
  | _ => false
theorem isT_some : ∀ {x : Option (AV × AH)}, isT x = true → ∃ H, x = some (.bool true, H)
  | some (.bool true, H), _ => ⟨H, rfl⟩
  | some (.bool false, _), h => by cases h
  | none, h => by cases h
  | some (.int .., _), h => by cases h
  | some (.str .., _), h => by cases h
  | some (.ptr .., _), h => by cases h
  | some (.nilptr, _), h => by cases h
  | some (.slice .., _), h => by cases h
  | some (.nilslice, _), h => by cases h
  | some (.map .., _), h => by cases h
  | some (.nilmap, _), h => by cases h
  | some (.fn .., _), h => by cases h
  | some (.nilfn, _), h => by cases h
  | some (.yld .., _), h => by cases h
  | some (.iface .., _), h => by cases h
  | some (.nilif, _), h => by cases h
  | some (.agg .., _), h => by cases h
  | some (.tuple .., _), h => by cases h
theorem head_run : ∀ base, isT (callA (EF2 base) 1000 6 [] H26) = true := fun base => by kernel_rfl
end Go.Ce
