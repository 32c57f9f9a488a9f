/-
  The program's CallName and the reference's CallName return the same text, for every number.
  No condition: every int.
-/
import Derived.Test.YtfdmkodcciehfaaPFnExactCallNamex1
namespace Go.Proofs.Ytfdmkodcciehfaa.Pure
open Go.RowKit Go.Proofs.Ytfdmkodcciehfaa.PFnExactCallName Go.Proofs.YtfdmkodcciehfaaW.PrintWords Go.Proofs.YtfdmkodcciehfaaW.PrintLast

theorem FnExactCallName : laws_FnExactCallName.Pure := by
  intro a0 _
  by_cases h1 : a0 < 1
  · have n1 : ¬ a0 ≥ 1 := by omega
    unfold laws_FnExactCallName.f spec_CallName.f impl_CallName.f impl_in.f
    simp [h1, n1]
  · by_cases h2 : a0 > 20
    · have n2 : ¬ a0 ≤ 20 := by omega
      have y1 : a0 ≥ 1 := by omega
      unfold laws_FnExactCallName.f spec_CallName.f impl_CallName.f impl_in.f
      simp [h1, h2, y1, n2]
    · have h : a0 = 1 ∨ a0 = 2 ∨ a0 = 3 ∨ a0 = 4 ∨ a0 = 5 ∨ a0 = 6 ∨ a0 = 7 ∨ a0 = 8 ∨ a0 = 9 ∨ a0 = 10 ∨ a0 = 11 ∨ a0 = 12 ∨ a0 = 13 ∨ a0 = 14 ∨ a0 = 15 ∨ a0 = 16 ∨ a0 = 17 ∨ a0 = 18 ∨ a0 = 19 ∨ a0 = 20 := by omega
      rcases h with rfl | rfl | rfl | rfl | rfl | rfl | rfl | rfl | rfl | rfl | rfl | rfl | rfl | rfl | rfl | rfl | rfl | rfl | rfl | rfl <;>
        (unfold laws_FnExactCallName.f spec_CallName.f impl_CallName.f impl_in.f impl_callWords.f; simp [wrap64, rdOf])

end Go.Proofs.Ytfdmkodcciehfaa.Pure
