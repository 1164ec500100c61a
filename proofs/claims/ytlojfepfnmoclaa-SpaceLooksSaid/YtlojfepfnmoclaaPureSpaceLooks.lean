/- Which thresholds are valid, the level of free space, and the action that is due, as the reference has them: kauditlaw27.SpaceLooks returns true. Conditions: none beyond the kinds of the arguments and the form's own reach. -/
import Derived.Test.YtlojfepfnmoclaaPAllx15
import Derived.Test.YtlojfepfnmoclaaPure0
namespace Go.Proofs.Ytlojfepfnmoclaa.Pure
open Go.RowKit Go.Proofs.Ytlojfepfnmoclaa.PAll Go.Proofs.YtlojfepfnmoclaaW.PrintWords Go.Proofs.YtlojfepfnmoclaaW.PrintLast
set_option linter.unusedVariables false
set_option linter.unusedSimpArgs false

theorem refvalid_eq (k : Nat) (low least a b c d : Int) : kauditref26_SpaceValid.f (k + 5) low least a b c d = some (validB low least a b c d) := by
  unfold kauditref26_SpaceValid.f
  have e1 : wrap64 (0 + 1) = 1 := by decide +kernel
  have e2 : wrap64 (1 + 1) = 2 := by decide +kernel
  have e3 : wrap64 (2 + 1) = 3 := by decide +kernel
  have e4 : wrap64 (3 + 1) = 4 := by decide +kernel
  simp only [Option.bind_some, kauditref26_SpaceValid.l0, List.length_cons, List.length_nil, e1, e2, e3, e4, rd]
  simp only [show ((0 + 1 + 1 + 1 + 1 : Nat) : Int) = 4 from rfl, show (0 : Int).toNat = 0 from rfl, show (1 : Int).toNat = 1 from rfl, show (2 : Int).toNat = 2 from rfl, show (3 : Int).toNat = 3 from rfl, List.getD_cons_zero, List.getD_cons_succ]
  by_cases a1 : 1 ≤ a ∧ a ≤ 5
  · by_cases b1 : 1 ≤ b ∧ b ≤ 5
    · by_cases c1 : 1 ≤ c ∧ c ≤ 5
      · by_cases d1 : 1 ≤ d ∧ d ≤ 5
        · have hv : validB low least a b c d = decide (0 ≤ least ∧ least ≤ low ∧ low ≤ 1048576) := by
            unfold validB
            exact decide_eq_decide.mpr (by omega)
          rw [hv]
          rw [if_pos (by omega), if_pos (by omega), if_pos (by omega), if_neg (by omega), if_neg (by omega), if_pos (by omega), if_pos (by omega), if_pos (by omega), if_neg (by omega), if_neg (by omega), if_pos (by omega), if_pos (by omega), if_pos (by omega), if_neg (by omega), if_neg (by omega), if_pos (by omega), if_pos (by omega), if_pos (by omega), if_neg (by omega), if_neg (by omega), if_neg (by omega)]
          by_cases l1 : 0 ≤ least
          · by_cases l2 : least ≤ low <;> simp [l1, l2]
          · simp [l1]
        · rw [valid_no3 d1]; simp (disch := omega); omega
      · rw [valid_no2 c1]; simp (disch := omega); omega
    · rw [valid_no1 b1]; simp (disch := omega); omega
  · rw [valid_no0 a1]; simp (disch := omega); omega

theorem refvalid_eq' (k : Nat) (hk : 5 ≤ k) (low least a b c d : Int) : kauditref26_SpaceValid.f k low least a b c d = some (validB low least a b c d) := by
  obtain ⟨k, rfl⟩ : ∃ q, k = q + 5 := ⟨k - 5, by omega⟩
  exact refvalid_eq k low least a b c d

theorem reflevel_eq (k : Nat) (hk : 5 ≤ k) (low least a b c d free : Int) : kauditref26_Level.f k low least a b c d free = some (levelN low least a b c d free) := by
  unfold kauditref26_Level.f levelN
  rw [refvalid_eq' k hk]
  simp only [Option.bind_some]
  split
  · split
    · rfl
    · split <;> rfl
  · rfl

theorem reflook_eq (k : Nat) (hk : 5 ≤ k) (low least a b c d level free : Int) : kauditref26_Look.f k low least a b c d level free = some (lookN low least a b c d level free) := by
  unfold kauditref26_Look.f lookN
  rw [reflevel_eq k hk]
  simp only [Option.bind_some]
  obtain ⟨k, rfl⟩ : ∃ q, k = q + 1 := ⟨k - 1, by omega⟩
  generalize levelN low least a b c d free = n
  by_cases h2 : n = 2
  · subst h2
    by_cases hl : level < 2 <;> simp [kauditref26_Look.j0, hl]
  · by_cases h1 : n = 1
    · subst h1
      by_cases hl : level < 1 <;> simp [kauditref26_Look.j0, hl]
    · simp [kauditref26_Look.j0, h1, h2]

theorem look_eq2 (k : Nat) (hk : 1 ≤ k) (low least a b c d level free : Int) : space_Look.f k low least a b c d level free = some (lookN low least a b c d level free) := by
  obtain ⟨k, rfl⟩ : ∃ q, k = q + 1 := ⟨k - 1, by omega⟩
  exact look_eq k _ _ _ _ _ _ _ _

theorem begun_true' (k : Nat) (hk : 1 ≤ k) : kauditlaw27_begun.f k = some true := by
  obtain ⟨k, rfl⟩ : ∃ q, k = q + 1 := ⟨k - 1, by omega⟩
  exact begun_true k

/-- The inner loop, from place i on: each of the four pairs is looked at alike, and the outer loop goes on. -/
theorem looks_inner (m n : Int) (ys : List S24) (p : Int) (l : List S38) (hl : l.length = 4) (A0 A1 A2 A3 A4 A5 : Int) (s : List Int) (st : Int) (B0 B1 B2 B3 B4 B5 C0 C1 C2 C3 C4 C5 : Int) (q : Nat)
    (hnext : ∀ k, q ≤ k → looks.l0 k m n ys 2 (wrap64 (p + 1)) A0 A1 A2 A3 A4 A5 s st B0 B1 B2 B3 B4 B5 = some true) (d : Nat) : ∀ (k : Nat) (i : Int), 0 ≤ i → i ≤ 4 → 4 - i = d → q + d < k → 5 + d < k →
    looks.l1 k m n ys 2 p l 4 i A0 A1 A2 A3 A4 A5 s st B0 B1 B2 B3 B4 B5 C0 C1 C2 C3 C4 C5 = some true := by
  induction d with
  | zero =>
    intro k i h0 h4 hd h1 h2
    obtain ⟨k, rfl⟩ : ∃ z, k = z + 1 := ⟨k - 1, by omega⟩
    rw [looks.l1, if_neg (by omega)]
    exact hnext k (by omega)
  | succ d ih =>
    intro k i h0 h4 hd h1 h2
    obtain ⟨k, rfl⟩ : ∃ z, k = z + 1 := ⟨k - 1, by omega⟩
    rw [looks.l1, if_pos (by omega), if_pos h0, if_pos (by omega), look_eq2 k (by omega), reflook_eq k (by omega), level_eq, reflevel_eq k (by omega)]
    simp only [Option.bind_some, if_true]
    have e : wrap64 (i + 1) = i + 1 := by unfold wrap64; omega
    rw [e]
    exact ih k (i + 1) (by omega) (by omega) (by omega) (by omega) (by omega)

/-- One round of the outer loop. -/
theorem looks_outer (m n : Int) (ys : List S24) (hy : ys.length = 2) (p : Int) (hp0 : 0 ≤ p) (hp : p < 2) (A0 A1 A2 A3 A4 A5 : Int) (s : List Int) (st : Int) (hs : OkSt s st) (B0 B1 B2 B3 B4 B5 : Int) (q : Nat)
    (hnext : ∀ k st', q ≤ k → OkSt s st' → looks.l0 k m n ys 2 (p + 1) A0 A1 A2 A3 A4 A5 s st' B0 B1 B2 B3 B4 B5 = some true) (k : Nat) (hk : q + 12 ≤ k) :
    looks.l0 k m n ys 2 p A0 A1 A2 A3 A4 A5 s st B0 B1 B2 B3 B4 B5 = some true := by
  obtain ⟨k, rfl⟩ : ∃ z, k = z + 1 := ⟨k - 1, by omega⟩
  obtain ⟨v1, j1, e1, _, _, o1, _⟩ := int_ok (n := 3) hs (by omega)
  obtain ⟨v2, j2, e2, _, o2, _⟩ := pick_ok [0, 149, 150, 299, 300, 450, 899, 900, 2000] o1 (by decide)
  obtain ⟨v3, j3, e3, _, _, o3, _⟩ := int_ok (n := 256) o2 (by omega)
  obtain ⟨v4, j4, e4, _, _, o4, _⟩ := int_ok (n := 4) o3 (by omega)
  rw [looks.l0, if_pos hp, if_pos hp0, if_pos (by omega), e1]
  simp only [Option.bind_some]
  rw [e2]
  simp only [Option.bind_some]
  rw [e3]
  simp only [Option.bind_some]
  rw [e4]
  simp only [Option.bind_some]
  have e : wrap64 (p + 1) = p + 1 := by unfold wrap64; omega
  exact looks_inner m n ys p _ rfl A0 A1 A2 A3 A4 A5 s j4 B0 B1 B2 B3 B4 B5 _ _ _ _ _ _ q (fun k' hk' => by rw [e]; exact hnext k' j4 hk' o4) 4 k 0 (by omega) (by omega) (by omega) (by omega) (by omega)

theorem valid_of {low least a b c d : Int} (ho : OkT low least a b c d) : validB low least a b c d = true := by
  obtain ⟨h1, h2, h3, h4, h5, h6, h7⟩ := ho
  unfold validB
  exact decide_eq_true (by omega)

theorem SpaceLooks : looks.Pure := by
  intro l A0 A1 A2 A3 A4 A5 m n _ hl hw _ _ _ _ _ _ _ _
  refine ⟨40, ?_⟩
  obtain ⟨s, e1, o1, _⟩ := new_ok l 40 (by omega) (by omega) hw
  obtain ⟨k0, k1, r0, r1, r2, low, least, a, b, c, d, fm, fn, j, e2, o2, ho⟩ := config_ok o1 38
  unfold looks.f
  have e1' : kauditmill_New.f l 40 = some (s, 0) := e1
  rw [e1']
  simp only [Option.bind_some]
  rw [e2]
  simp only [Option.bind_some]
  refine looks_outer m n _ rfl 0 (by omega) (by omega) _ _ _ _ _ _ s j o2 _ _ _ _ _ _ 22 ?_ 40 (by omega)
  intro k st hk hs
  refine looks_outer m n _ rfl 1 (by omega) (by omega) _ _ _ _ _ _ s st hs _ _ _ _ _ _ 10 ?_ k (by omega)
  intro k st hk hs
  obtain ⟨k, rfl⟩ : ∃ z, k = z + 1 := ⟨k - 1, by omega⟩
  rw [looks.l0, if_neg (by omega), refvalid_eq' k (by omega)]
  simp only [Option.bind_some, space_Valid.f, beq_self_eq_true, if_true, valid_of ho]
  rw [begun_true' k (by omega)]
  rfl

end Go.Proofs.Ytlojfepfnmoclaa.Pure
