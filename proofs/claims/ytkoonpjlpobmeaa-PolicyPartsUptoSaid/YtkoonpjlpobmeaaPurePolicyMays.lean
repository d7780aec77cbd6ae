import Derived.Test.YtkoonpjlpobmeaaPr12
namespace Go.Proofs.Ytkoonpjlpobmeaa.Pure
open Go.RowKit Go.Proofs.Ytkoonpjlpobmeaa.Pr Go.Proofs.YtkoonpjlpobmeaaW.PrintWords Go.Proofs.YtkoonpjlpobmeaaW.PrintLast

theorem awake40 : steelyardlaw06_awake.f 40 = some true := by decide +kernel
theorem choice_eq (a : Int) : policy_choice.f a = some (decide (0 ≤ a ∧ a ≤ 2)) := by
  unfold policy_choice.f
  by_cases h : a ≥ 0
  · rw [if_pos h]; congr 1; rw [Bool.eq_iff_iff, decide_eq_true_eq, decide_eq_true_eq]; omega
  · rw [if_neg h]; congr 1; rw [eq_comm, decide_eq_false_iff_not]; omega
theorem May_eq (a b : Int) : policy_May.f a b = some (decide (0 ≤ a ∧ a ≤ 2 ∧ 0 ≤ b ∧ b ≤ 2)) := by
  unfold policy_May.f
  rw [choice_eq, Option.bind_some]
  by_cases h : 0 ≤ a ∧ a ≤ 2
  · rw [if_pos (by simpa using h), choice_eq, Option.bind_some]; congr 1; rw [Bool.eq_iff_iff, decide_eq_true_eq, decide_eq_true_eq]; omega
  · rw [if_neg (by simpa using h)]; congr 1; rw [eq_comm, decide_eq_false_iff_not]; omega
theorem rMay_eq (a b : Int) : steelyardref06_May.f a b = some (decide (0 ≤ a ∧ a ≤ 2 ∧ 0 ≤ b ∧ b ≤ 2)) := by
  unfold steelyardref06_May.f
  by_cases h1 : a ≥ 0
  · rw [if_pos h1]
    by_cases h2 : a ≤ 2
    · rw [if_pos h2]
      by_cases h3 : b ≥ 0
      · rw [if_pos h3]; congr 1; rw [Bool.eq_iff_iff, decide_eq_true_eq, decide_eq_true_eq]; omega
      · rw [if_neg h3]; congr 1; rw [eq_comm, decide_eq_false_iff_not]; omega
    · rw [if_neg h2]; congr 1; rw [eq_comm, decide_eq_false_iff_not]; omega
  · rw [if_neg h1]; congr 1; rw [eq_comm, decide_eq_false_iff_not]; omega
theorem PolicyMays : steelyardlaw06_PolicyMays.Pure := by
  intro a b _ _
  refine ⟨40, ?_⟩
  unfold steelyardlaw06_PolicyMays.f policy_Plain.f
  rw [awake40, Option.bind_some, May_eq, Option.bind_some, Option.bind_some, May_eq, Option.bind_some, if_pos rfl, if_pos (by decide), rMay_eq, Option.bind_some]
  simp

end Go.Proofs.Ytkoonpjlpobmeaa.Pure
