/- Less free space never has a lower level: kauditlaw27.SpaceDeeper returns true. Conditions: none beyond the kinds of the arguments and the form's own reach. -/
import Derived.Test.YtlojfepfnmoclaaPAllx20
import Derived.Test.YtlojfepfnmoclaaPure0
namespace Go.Proofs.Ytlojfepfnmoclaa.Pure
open Go.RowKit Go.Proofs.Ytlojfepfnmoclaa.PAll Go.Proofs.YtlojfepfnmoclaaW.PrintWords Go.Proofs.YtlojfepfnmoclaaW.PrintLast
set_option linter.unusedVariables false
set_option linter.unusedSimpArgs false

theorem level_deeper (low least a b c d x y : Int) (ho : OkT low least a b c d) (h : x ≤ y) : levelN low least a b c d x ≥ levelN low least a b c d y := by
  obtain ⟨h1, h2, h3, _⟩ := ho
  unfold levelN
  by_cases hv : validB low least a b c d = true
  · rw [if_pos hv, if_pos hv]
    repeat' split
    all_goals omega
  · rw [if_neg hv, if_neg hv]
    omega

theorem SpaceDeeper : kauditlaw27_SpaceDeeper.Pure := by
  intro l x y hm hl hw hx hy
  refine ⟨3, ?_⟩
  obtain ⟨s, e1, o1, _⟩ := new_ok l 40 (by omega) (by omega) hw
  obtain ⟨k0, k1, r0, r1, r2, low, least, a, b, c, d, m, n, j, e2, o2, ho⟩ := config_ok o1 1
  unfold kauditlaw27_SpaceDeeper.f
  have e1' : kauditmill_New.f l 40 = some (s, 0) := e1
  rw [e1']
  simp only [Option.bind_some]
  rw [e2]
  simp only [Option.bind_some, level_eq, begun_true]
  have hle := level_deeper low least a b c d x y ho
  have hge := level_deeper low least a b c d y x ho
  by_cases c1 : x > y
  · rw [if_pos c1, if_neg (by omega), if_pos (hge (by omega))]
  · rw [if_neg c1, if_pos (hle (by omega))]
    by_cases c2 : y > x
    · rw [if_pos c2]
    · rw [if_neg c2, if_pos (hge (by omega))]

end Go.Proofs.Ytlojfepfnmoclaa.Pure
