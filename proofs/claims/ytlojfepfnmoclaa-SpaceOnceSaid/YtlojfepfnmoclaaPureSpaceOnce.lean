/- While the free space changes step by step, an action is due only when the level has risen, and the level is that of the free space: kauditlaw27.SpaceOnce returns true. Conditions: none beyond the kind of the argument and the form's own reach. -/
import Derived.Test.YtlojfepfnmoclaaPAllx17
import Derived.Test.YtlojfepfnmoclaaPure0
namespace Go.Proofs.Ytlojfepfnmoclaa.Pure
open Go.RowKit Go.Proofs.Ytlojfepfnmoclaa.PAll Go.Proofs.YtlojfepfnmoclaaW.PrintWords Go.Proofs.YtlojfepfnmoclaaW.PrintLast
set_option linter.unusedVariables false
set_option linter.unusedSimpArgs false

theorem valid_of {low least a b c d : Int} (ho : OkT low least a b c d) : validB low least a b c d = true := by
  obtain ⟨h1, h2, h3, h4, h5, h6, h7⟩ := ho
  unfold validB
  exact decide_eq_true (by omega)

theorem look_eq1 (k : Nat) (hk : 1 ≤ k) (low least a b c d level free : Int) : space_Look.f k low least a b c d level free = some (lookN low least a b c d level free) := by
  obtain ⟨k, rfl⟩ : ∃ q, k = q + 1 := ⟨k - 1, by omega⟩
  exact look_eq k _ _ _ _ _ _ _ _

theorem once_loop {s : List Int} (low least a b c d : Int) (ho : OkT low least a b c d) (n : Nat) : ∀ (k : Nat) (level i : Int), OkSt s i → (s.length : Int) - i = n → 0 ≤ level → level ≤ 2 → n + 1 < k →
    kauditlaw27_SpaceOnce.l0 k level s i low least a b c d = some true := by
  have hv := valid_of ho
  obtain ⟨t1, t2, t3, _⟩ := id ho
  induction n with
  | zero =>
    intro k level i h hn _ _ hk
    obtain ⟨k, rfl⟩ : ∃ q, k = q + 2 := ⟨k - 2, by omega⟩
    simp only [kauditlaw27_SpaceOnce.l0, kauditmill_Case_Left.f, Option.bind_some]
    rw [decide_eq_false (by omega), if_neg (by decide), begun_true]
    rfl
  | succ n ih =>
    intro k level i h hn hl0 hl2 hk
    obtain ⟨k, rfl⟩ : ∃ q, k = q + 1 := ⟨k - 1, by omega⟩
    obtain ⟨free, j, e, hf, o, hj⟩ := pick_ok [0, 10, 149, 150, 299, 300, 450, 899, 900, 5000] h (by decide)
    have hj' : j = i + 1 := hj (by omega) (by decide)
    simp only [kauditlaw27_SpaceOnce.l0, kauditmill_Case_Left.f, Option.bind_some]
    rw [decide_eq_true (by omega), if_pos rfl, e]
    simp only [Option.bind_some]
    rw [look_eq1 k (by omega)]
    simp only [Option.bind_some]
    rw [level_eq]
    simp only [Option.bind_some]
    have key : ∀ L : Int, 0 ≤ L → L ≤ 2 → kauditlaw27_SpaceOnce.l0 k L s j low least a b c d = some true := fun L h0 h2 => ih k L j o (by omega) h0 h2 (by omega)
    have hL : levelN low least a b c d free = 2 ∧ free < least ∨ levelN low least a b c d free = 1 ∧ ¬ free < least ∧ free < low ∨ levelN low least a b c d free = 0 ∧ ¬ free < least ∧ ¬ free < low := by
      unfold levelN
      rw [if_pos hv]
      by_cases c1 : free < least
      · rw [if_pos c1]; exact Or.inl ⟨rfl, c1⟩
      · rw [if_neg c1]
        by_cases c2 : free < low
        · rw [if_pos c2]; exact Or.inr (Or.inl ⟨rfl, c1, c2⟩)
        · rw [if_neg c2]; exact Or.inr (Or.inr ⟨rfl, c1, c2⟩)
    rcases hL with ⟨h2, p⟩ | ⟨h1, p, q⟩ | ⟨h0, p, q⟩
    · have q : ¬ low ≤ free := by omega
      by_cases hl : level < 2
      · have hk : lookN low least a b c d level free = (2, b) := by unfold lookN; rw [h2]; simp [hl]
        rw [hk]
        simp [h2, rd, key, hl, p, q]
      · have hk : lookN low least a b c d level free = (2, 0) := by unfold lookN; rw [h2]; simp [hl]
        rw [hk]
        simp [h2, rd, key, hl, p, q]
    · have q' : ¬ low ≤ free := by omega
      by_cases hl : level < 1
      · have hk : lookN low least a b c d level free = (1, a) := by unfold lookN; rw [h1]; simp [hl]
        rw [hk]
        simp [h1, rd, key, hl, p, q']
      · have hk : lookN low least a b c d level free = (1, 0) := by unfold lookN; rw [h1]; simp [hl]
        rw [hk]
        simp [h1, rd, key, hl, p, q']
    · have q' : low ≤ free := by omega
      have hl : ¬ 0 > level := by omega
      have hk : lookN low least a b c d level free = (0, 0) := by unfold lookN; rw [h0]; simp [hl]
      rw [hk]
      simp [h0, rd, key, hl, p, q', hl0]

theorem SpaceOnce : kauditlaw27_SpaceOnce.Pure := by
  intro l hm hl hw
  obtain ⟨s, e1, o1, hs⟩ := new_ok l 120 (by omega) (by omega) hw
  refine ⟨130, ?_⟩
  obtain ⟨k0, k1, r0, r1, r2, low, least, a, b, c, d, m, n, j, e2, o2, ho⟩ := config_ok o1 128
  unfold kauditlaw27_SpaceOnce.f
  have e1' : kauditmill_New.f l 120 = some (s, 0) := e1
  rw [e1']
  simp only [Option.bind_some]
  rw [e2]
  simp only [Option.bind_some]
  have h1 := o2.1
  have h2 := o2.2.1
  exact once_loop low least a b c d ho ((s.length : Int) - j).toNat 130 0 j o2 (by omega) (by omega) (by omega) (by omega)

end Go.Proofs.Ytlojfepfnmoclaa.Pure
