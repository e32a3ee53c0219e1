/- The way from a note to another one, plainly. -/
import Derived.Test.YtpbpeoijejocaaaGreatDoorPtU
import Derived.Test.YtpbpeoijejocaaaGreatDoorPtS
namespace Go.Sc
open Go.RowKit Go.Proofs

theorem takeWhile_range {α : Type} (f : Nat → α) (p : α → Bool) : ∀ (M K : Nat), K ≤ M → (∀ j, j < K → p (f j) = true) → (K = M ∨ p (f K) = false) → ((List.range M).map f).takeWhile p = (List.range K).map f := by
  intro M
  induction M generalizing f with
  | zero =>
    intro K hK _ _
    have : K = 0 := by omega
    subst this
    rfl
  | succ M ih =>
    intro K hK h hs
    rw [List.range_succ_eq_map, List.map_cons, List.map_map]
    cases K with
    | zero =>
      have h0 : p (f 0) = false := hs.resolve_left (by omega)
      rw [List.takeWhile_cons_of_neg (by simp [h0])]
      rfl
    | succ K =>
      rw [List.takeWhile_cons_of_pos (h 0 (by omega)), ih (f ∘ Nat.succ) K (by omega) (fun j hj => h (j + 1) (by omega)) (hs.imp (by omega) id), List.range_succ_eq_map, List.map_cons, List.map_map]
theorem way_is {s : Sc} {a b : Int} {Ma Mb : Nat} (ha : LastUp s a Ma) (hb : LastUp s b Mb) (hpa : pathOf s a = (List.range (Ma + 1)).map fun k => upOf s (nodeOf s a k).toNat) (hpb : pathOf s b = (List.range (Mb + 1)).map fun k => upOf s (nodeOf s b k).toNat)
    {K K2 : Nat} (hK : K ≤ Ma + 1) (hnb : ∀ j, j < K → ¬ ∃ i, i ≤ Mb + 1 ∧ nodeOf s b i = nodeOf s a j) (hst : K = Ma + 1 ∨ K ≤ Ma ∧ ∃ i, i ≤ Mb + 1 ∧ nodeOf s b i = nodeOf s a K)
    (hK2 : K2 ≤ Mb + 1) (hnb2 : ∀ j, j < K2 → nodeOf s b j ≠ nodeOf s a K) (hst2 : K2 = Mb + 1 ∨ nodeOf s b K2 = nodeOf s a K) :
    wayOf s a b = outsA s a K ++ (downsB s b K2).reverse := by
  have hab : ∀ t : Int, (b :: (pathOf s b).map (·.f)).contains t = decide (∃ i, i ≤ Mb + 1 ∧ nodeOf s b i = t) := fun t => by
    rw [List.contains_eq_mem]
    apply decide_eq_decide.2
    rw [hpb, List.map_map, List.mem_cons, List.mem_map]
    constructor
    · rintro (h | ⟨i, hi, h⟩)
      · exact ⟨0, by omega, h.symm⟩
      · exact ⟨i + 1, by have := List.mem_range.1 hi; omega, h⟩
    · rintro ⟨i, hi, h⟩
      cases i with
      | zero => exact .inl h.symm
      | succ i => exact .inr ⟨i, List.mem_range.2 (by omega), h⟩
  have h1 : (pathOf s a).takeWhile (fun p => !(b :: (pathOf s b).map (·.f)).contains p.t) = (List.range K).map fun k => upOf s (nodeOf s a k).toNat := by
    conv => lhs; arg 2; rw [hpa]
    refine takeWhile_range _ _ _ _ hK (fun j hj => ?_) (hst.imp id fun h => ?_)
    · rw [hab, up_t]
      have h0 := (ha.1 j (by omega)).1
      have h2 := hnb j hj
      rw [Int.toNat_of_nonneg h0, decide_eq_false h2]
      rfl
    · rw [hab, up_t]
      have h0 := (ha.1 K h.1).1
      rw [Int.toNat_of_nonneg h0, decide_eq_true h.2]
      rfl
  have h2 : ((pathOf s a).takeWhile (fun p => !(b :: (pathOf s b).map (·.f)).contains p.t)).map St.turn = outsA s a K := by
    rw [h1, List.map_map]
    rfl
  have h3 : ((outsA s a K).getLast?.map (·.t)).getD a = nodeOf s a K := by
    cases K with
    | zero => rfl
    | succ r =>
      rw [outs_succ, List.getLast?_append]
      rfl
  have h4 : (pathOf s b).takeWhile (fun p => p.t != nodeOf s a K) = downsB s b K2 := by
    rw [hpb]
    have e : ∀ j, j ≤ Mb → (upOf s (nodeOf s b j).toNat).t = nodeOf s b j := fun j hj => by rw [up_t, Int.toNat_of_nonneg (hb.1 j hj).1]
    refine takeWhile_range _ _ _ _ hK2 (fun j hj => ?_) ?_
    · rw [e j (by omega)]
      simpa using hnb2 j hj
    · rcases Nat.lt_or_ge Mb K2 with g | g
      · exact .inl (by omega)
      · refine .inr ?_
        rw [e K2 g, hst2.resolve_left (by omega)]
        simp
  unfold wayOf
  simp only []
  rw [h2, h3, h4]
end Go.Sc
