/- The environments with the kept answers. -/
import Derived.Test.YtpbpeoijejocaaaGreatDoorCeMemB0
import Derived.Test.YtpbpeoijejocaaaGreatDoorCeMemB1
import Derived.Test.YtpbpeoijejocaaaGreatDoorCeMemD0
import Derived.Test.YtpbpeoijejocaaaGreatDoorCeMemD1
namespace Go.Ce
open Go.RowKit Go.Proofs
set_option maxRecDepth 100000
theorem glob0_lt {m : Nat} (h : 1 < m) : ∀ g b, glob0 g = some b → b < m := fun g b hg => by
  unfold glob0 at hg
  cases h1 : Nat.beq g 0 with
  | true => rw [h1] at hg; cases hg; omega
  | false =>
    rw [h1] at hg
    simp only [cond_false] at hg
    cases h2 : Nat.beq g 1 with
    | true => rw [h2] at hg; cases hg; omega
    | false => rw [h2] at hg; cases hg
def bodyB (P : Program) (f : FuncId) : Bool := match P.funcs[f]? with
  | some fn => !(fn.name == "runtime.NumGoroutine") && fn.body.isSome
  | none => false
theorem bodyB_ok {P : Program} {f : FuncId} (h : bodyB P f = true) : ∃ fn c, P.funcs[f]? = some fn ∧ (fn.name == "runtime.NumGoroutine") = false ∧ fn.body = some c := by
  unfold bodyB at h
  split at h
  · rename_i fn hf
    simp only [Bool.and_eq_true, Bool.not_eq_true'] at h
    obtain ⟨c, hc⟩ := Option.isSome_iff_exists.1 h.2
    exact ⟨fn, c, hf, h.1, hc⟩
  · cases h
theorem all_body {P : Program} : ∀ {l : List FuncId}, l.all (bodyB P) = true → ∀ f, memN f l = true → ∃ fn c, P.funcs[f]? = some fn ∧ (fn.name == "runtime.NumGoroutine") = false ∧ fn.body = some c
  | [], _, f, h => by cases h
  | x :: l, ha, f, h => by
    simp only [List.all_cons, Bool.and_eq_true] at ha
    simp only [memN] at h
    cases he : Nat.beq f x with
    | true =>
      have := beq_iff.1 he
      subst this
      exact bodyB_ok ha.1
    | false =>
      rw [he] at h
      exact all_body ha.2 f h
theorem memFs_body : memFs.all (bodyB Tryz.prog) = true := by kernel_rfl
theorem mexFs_body : mexFs.all (bodyB Tryz.prog) = true := by kernel_rfl
theorem mixed_ok : Tryz.prog.follows .mixedOrders = true := by kernel_rfl
def TabOk (EF : (Nat → Prop) → Env) (l : List Mem) : Prop := ∀ e ∈ l, (∀ g b, glob0 g = some b → b < e.m) ∧ ∃ k, ∀ base, memOk (EF base) k e = true
theorem TabOk.nil {EF : (Nat → Prop) → Env} : TabOk EF [] := fun e h => by cases h
theorem TabOk.cons {EF : (Nat → Prop) → Env} {e : Mem} {l : List Mem} (hm : 1 < e.m) (h : ∀ base, memOk (EF base) 1000 e = true) (hl : TabOk EF l) : TabOk EF (e :: l) := fun e' h' => by
  cases h' with
  | head => exact ⟨glob0_lt hm, 1000, h⟩
  | tail _ h' => exact hl e' h'
theorem memTab_ok : TabOk EF0 memTab :=
  .cons (show 1 < 2 by omega) mem0_ok (
  .cons (show 1 < 2 by omega) mem1_ok (
  .cons (show 1 < 2 by omega) mem2_ok (
  .cons (show 1 < 2 by omega) mem3_ok (
  .cons (show 1 < 2 by omega) mem4_ok (
  .cons (show 1 < 2 by omega) mem5_ok (
  .cons (show 1 < 2 by omega) mem6_ok (
  .cons (show 1 < 22 by omega) mem7_ok (
  .cons (show 1 < 3 by omega) mem8_ok (
  .cons (show 1 < 369 by omega) mem9_ok (
  .cons (show 1 < 2 by omega) mem10_ok (
  .cons (show 1 < 2 by omega) mem11_ok (
  .cons (show 1 < 2 by omega) mem12_ok (
  .cons (show 1 < 2 by omega) mem13_ok (
  .cons (show 1 < 649 by omega) mem14_ok (
  .cons (show 1 < 22 by omega) mem15_ok (
  .cons (show 1 < 22 by omega) mem16_ok (
  .cons (show 1 < 22 by omega) mem17_ok (
  .cons (show 1 < 2 by omega) mem18_ok (
  .cons (show 1 < 2 by omega) mem19_ok (
  .cons (show 1 < 2 by omega) mem20_ok (
  .cons (show 1 < 2 by omega) mem21_ok (
  .cons (show 1 < 2 by omega) mem22_ok (
  .cons (show 1 < 369 by omega) mem23_ok (
  .cons (show 1 < 369 by omega) mem24_ok (
  .cons (show 1 < 369 by omega) mem25_ok (
  .cons (show 1 < 2 by omega) mem26_ok (
  .cons (show 1 < 2 by omega) mem27_ok (
  .cons (show 1 < 2 by omega) mem28_ok (
  .cons (show 1 < 2 by omega) mem29_ok (
  .cons (show 1 < 2 by omega) mem30_ok (
  .cons (show 1 < 649 by omega) mem31_ok (
  .cons (show 1 < 649 by omega) mem32_ok (
  .cons (show 1 < 2 by omega) mem33_ok (
  .cons (show 1 < 649 by omega) mem34_ok (
  .cons (show 1 < 2 by omega) mem35_ok (
  .cons (show 1 < 2 by omega) mem36_ok (
  .cons (show 1 < 2 by omega) mem37_ok (
  .cons (show 1 < 2 by omega) mem38_ok (
  .cons (show 1 < 2 by omega) mem39_ok (
  .cons (show 1 < 2 by omega) mem40_ok (
  .cons (show 1 < 2 by omega) mem41_ok (
  .cons (show 1 < 2 by omega) mem42_ok (
  .cons (show 1 < 2 by omega) mem43_ok (
  .cons (show 1 < 2 by omega) mem44_ok (
  .cons (show 1 < 2 by omega) mem45_ok (
  .cons (show 1 < 2 by omega) mem46_ok (
  .cons (show 1 < 2 by omega) mem47_ok (
  .cons (show 1 < 2 by omega) mem48_ok (
  .cons (show 1 < 2 by omega) mem49_ok (
  .cons (show 1 < 2 by omega) mem50_ok (
  .cons (show 1 < 2 by omega) mem51_ok (
  .cons (show 1 < 2 by omega) mem52_ok (
  .cons (show 1 < 2 by omega) mem53_ok (
  .cons (show 1 < 2 by omega) mem54_ok (
  .cons (show 1 < 2 by omega) mem55_ok (
  .cons (show 1 < 2 by omega) mem56_ok (
  .cons (show 1 < 2 by omega) mem57_ok (
  .cons (show 1 < 14 by omega) mem58_ok (
  .cons (show 1 < 18 by omega) mem59_ok (
  .cons (show 1 < 10 by omega) mem60_ok (
  .nil)))))))))))))))))))))))))))))))))))))))))))))))))))))))))))))
theorem mexTab_ok : TabOk EF1 mexTab :=
  .cons (show 1 < 44 by omega) mex0_ok (
  .cons (show 1 < 391 by omega) mex1_ok (
  .cons (show 1 < 211 by omega) mex2_ok (
  .cons (show 1 < 665 by omega) mex3_ok (
  .cons (show 1 < 14 by omega) mex4_ok (
  .cons (show 1 < 18 by omega) mex5_ok (
  .cons (show 1 < 209 by omega) mex6_ok (
  .cons (show 1 < 556 by omega) mex7_ok (
  .cons (show 1 < 559 by omega) mex8_ok (
  .cons (show 1 < 777 by omega) mex9_ok (
  .cons (show 1 < 10 by omega) mex10_ok (
  .cons (show 1 < 265 by omega) mex11_ok (
  .cons (show 1 < 259 by omega) mex12_ok (
  .cons (show 1 < 262 by omega) mex13_ok (
  .cons (show 1 < 350 by omega) mex14_ok (
  .cons (show 1 < 344 by omega) mex15_ok (
  .cons (show 1 < 347 by omega) mex16_ok (
  .cons (show 1 < 123 by omega) mex17_ok (
  .cons (show 1 < 117 by omega) mex18_ok (
  .cons (show 1 < 120 by omega) mex19_ok (
  .cons (show 1 < 193 by omega) mex20_ok (
  .cons (show 1 < 187 by omega) mex21_ok (
  .cons (show 1 < 190 by omega) mex22_ok (
  .cons (show 1 < 470 by omega) mex23_ok (
  .cons (show 1 < 464 by omega) mex24_ok (
  .cons (show 1 < 467 by omega) mex25_ok (
  .cons (show 1 < 540 by omega) mex26_ok (
  .cons (show 1 < 534 by omega) mex27_ok (
  .cons (show 1 < 537 by omega) mex28_ok (
  .cons (show 1 < 628 by omega) mex29_ok (
  .cons (show 1 < 622 by omega) mex30_ok (
  .cons (show 1 < 625 by omega) mex31_ok (
  .cons (show 1 < 761 by omega) mex32_ok (
  .cons (show 1 < 755 by omega) mex33_ok (
  .cons (show 1 < 758 by omega) mex34_ok (
  .cons (show 1 < 705 by omega) mex35_ok (
  .cons (show 1 < 699 by omega) mex36_ok (
  .cons (show 1 < 702 by omega) mex37_ok (
  .nil))))))))))))))))))))))))))))))))))))))
theorem EF0_ok (base : Nat → Prop) : EnvOk (EF0 base) := ⟨plans_ok, mixed_ok, fun f g h => by cases h⟩
theorem EF1_ok (base : Nat → Prop) : EnvOk (EF1 base) := ⟨plans_ok, mixed_ok, memO_does (EF := EF0) EF0_ok (fun _ => rfl) (fun _ => rfl) (fun _ => rfl) memTab_ok (all_body memFs_body)⟩
def orac2 (f : FuncId) : Option (List AV → AH → Option (AV × AH)) := match memO mexTab mexFs f with
  | some g => some g
  | none => memO memTab memFs f
noncomputable def EF2 (base : Nat → Prop) : Env := ⟨Tryz.prog, glob0, orac2, base, planE⟩
theorem EF2_ok (base : Nat → Prop) : EnvOk (EF2 base) := ⟨plans_ok, mixed_ok, fun f g h => by
  have h : orac2 f = some g := h
  unfold orac2 at h
  split at h
  · rename_i g' hg
    cases h
    exact memO_does (E := EF2 base) (EF := EF1) EF1_ok (fun _ => rfl) (fun _ => rfl) (fun _ => rfl) mexTab_ok (all_body mexFs_body) f _ hg
  · exact memO_does (E := EF2 base) (EF := EF0) EF0_ok (fun _ => rfl) (fun _ => rfl) (fun _ => rfl) memTab_ok (all_body memFs_body) f _ h⟩
end Go.Ce
