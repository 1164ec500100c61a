/- The names of actions: kauditlaw27.SpaceNames returns true. Conditions: none beyond the kind of the argument. -/
import Derived.Test.YtlojfepfnmoclaaPAllx19
import Derived.Test.YtlojfepfnmoclaaPure0
namespace Go.Proofs.Ytlojfepfnmoclaa.Pure
open Go.RowKit Go.Proofs.Ytlojfepfnmoclaa.PAll Go.Proofs.YtlojfepfnmoclaaW.PrintWords Go.Proofs.YtlojfepfnmoclaaW.PrintLast
set_option linter.unusedVariables false
set_option linter.unusedSimpArgs false

theorem name_eq (a : Int) : kauditref26_ActionName.f a = some (wordB a) := by
  unfold kauditref26_ActionName.f wordB
  split
  · rfl
  · split
    · rfl
    · split
      · rfl
      · split
        · rfl
        · split <;> rfl

theorem names_loop (a : Int) (d : Nat) : ∀ (k : Nat) (i : Int), i ≤ 8 → 8 - i = d → -1 ≤ i → d + 1 < k → kauditlaw27_SpaceNames.l0 k a i = some true := by
  induction d with
  | zero =>
    intro k i h1 h2 h3 hk
    obtain ⟨k, rfl⟩ : ∃ q, k = q + 2 := ⟨k - 2, by omega⟩
    simp only [kauditlaw27_SpaceNames.l0]
    rw [if_neg (by omega), name_eq]
    simp only [space_Format.f, Option.bind_some, if_true]
    rw [begun_true]
    rfl
  | succ d ih =>
    intro k i h1 h2 h3 hk
    obtain ⟨k, rfl⟩ : ∃ q, k = q + 1 := ⟨k - 1, by omega⟩
    simp only [kauditlaw27_SpaceNames.l0]
    rw [if_pos (by omega), name_eq]
    simp only [space_Format.f, Option.bind_some, if_true]
    have e : wrap64 (i + 1) = i + 1 := by unfold wrap64; omega
    rw [e]
    exact ih k (i + 1) (by omega) (by omega) (by omega) (by omega)

theorem SpaceNames : kauditlaw27_SpaceNames.Pure := by
  intro a ha
  refine ⟨20, ?_⟩
  unfold kauditlaw27_SpaceNames.f
  exact names_loop a 9 20 (-1) (by omega) (by omega) (by omega) (by omega)

end Go.Proofs.Ytlojfepfnmoclaa.Pure
