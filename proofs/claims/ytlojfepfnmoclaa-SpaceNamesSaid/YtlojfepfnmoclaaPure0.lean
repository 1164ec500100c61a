/- Plain laws of the case maker (kauditmill) and of package space's printed functions, shared by the four statements of chapter 27. Conditions: as each lemma says. -/
import Derived.Test.YtlojfepfnmoclaaPAllx7
import Derived.Test.YtlojfepfnmoclaaPAllx14
namespace Go.Proofs.Ytlojfepfnmoclaa.Pure
open Go.RowKit Go.Proofs.Ytlojfepfnmoclaa.PAll Go.Proofs.YtlojfepfnmoclaaW.PrintWords Go.Proofs.YtlojfepfnmoclaaW.PrintLast
set_option linter.unusedVariables false
set_option linter.unusedSimpArgs false

theorem u8_bounds {a : Int} (h : (Lit.int .u8 a).wf = true) : 0 ≤ a ∧ a ≤ 255 := by
  simpa [Lit.wf, IntKind.min, IntKind.max, IntKind.bits, IntKind.signed] using h

/-- A case's state: a list of bytes, and a place in it. -/
def OkSt (s : List Int) (i : Int) : Prop := 0 ≤ i ∧ i ≤ s.length ∧ s.length ≤ 1000 ∧ ∀ x ∈ s, 0 ≤ x ∧ x ≤ 255

theorem OkSt.to {s : List Int} {i j : Int} (h : OkSt s i) (hj0 : 0 ≤ j) (hj : j ≤ s.length) : OkSt s j := ⟨hj0, hj, h.2.2.1, h.2.2.2⟩

theorem rd_mem (s : List Int) (i : Int) (h0 : 0 ≤ i) (h1 : i < s.length) : rd s i ∈ s := by
  unfold rd
  have hi : i.toNat < s.length := by omega
  rw [List.getD, List.getElem?_eq_getElem hi]
  exact List.getElem_mem hi

/-- Int: a number from 0 to n - 1; one code is used up, if there is one and n is at least 2. -/
theorem int_ok {s : List Int} {i n : Int} (h : OkSt s i) (hn : 1 ≤ n) : ∃ v j, kauditmill_Case_Int.f s i n = some (v, j) ∧ 0 ≤ v ∧ v < n ∧ OkSt s j ∧ (i < s.length → 2 ≤ n → j = i + 1) := by
  obtain ⟨h0, h1, h2, h3⟩ := id h
  unfold kauditmill_Case_Int.f
  by_cases c1 : n < 2
  · rw [if_pos c1]
    exact ⟨0, i, rfl, by omega, by omega, h, by omega⟩
  · rw [if_neg c1]
    by_cases c2 : i ≥ (s.length : Int)
    · rw [if_pos c2]
      exact ⟨0, i, rfl, by omega, by omega, h, by omega⟩
    · have e1 : wrap64 (i + 1) = i + 1 := by unfold wrap64; omega
      have e2 : wrap64 (i + 1 - 1) = i := by unfold wrap64; omega
      rw [if_neg c2, e1, e2, if_pos h0, if_pos (by omega), if_neg (by omega)]
      have hm := h3 _ (rd_mem s i h0 (by omega))
      have e3 : wrap64 (rd s i) = rd s i := by unfold wrap64; omega
      rw [e3]
      have hmod : Int.tmod (rd s i) n = rd s i % n := Int.tmod_eq_emod_of_nonneg hm.1
      rw [hmod]
      exact ⟨_, _, rfl, Int.emod_nonneg _ (by omega), Int.emod_lt_of_pos _ (by omega), h.to (by omega) (by omega), fun _ _ => rfl⟩

theorem pick_ok {s : List Int} {i : Int} (l : List Int) (h : OkSt s i) (hl : 1 ≤ l.length) : ∃ v j, kauditmill_Case_Pick.f s i l = some (v, j) ∧ v ∈ l ∧ OkSt s j ∧ (i < s.length → 2 ≤ l.length → j = i + 1) := by
  obtain ⟨v, j, e, h0, h1, h2, h3⟩ := int_ok (n := (l.length : Int)) h (by omega)
  unfold kauditmill_Case_Pick.f
  rw [e]
  simp only [Option.bind_some]
  rw [if_pos h0, if_pos h1]
  exact ⟨_, _, rfl, rd_mem l v h0 h1, h2, fun a b => h3 a (by omega)⟩

theorem bool_ok {s : List Int} {i n : Int} (h : OkSt s i) (hn : 1 ≤ n) : ∃ b j, kauditmill_Case_Bool.f s i n = some (b, j) ∧ OkSt s j := by
  obtain ⟨v, j, e, h0, h1, h2, h3⟩ := int_ok h hn
  unfold kauditmill_Case_Bool.f
  rw [e]
  exact ⟨_, _, rfl, h2⟩

theorem key_ok {s : List Int} {i : Int} (h : OkSt s i) : ∃ a b j, kauditmill_Case_Key.f s i = some (a, b, j) ∧ OkSt s j := by
  obtain ⟨v, j, e, _, _, h2, _⟩ := int_ok (n := 3) h (by omega)
  obtain ⟨v', j', e', _, _, h2', _⟩ := int_ok (n := 5) h2 (by omega)
  unfold kauditmill_Case_Key.f
  rw [e]
  simp only [Option.bind_some]
  rw [e']
  exact ⟨_, _, _, rfl, h2'⟩

theorem rotation_ok {s : List Int} {i : Int} (h : OkSt s i) : ∃ a b c j, kauditmill_Case_Rotation.f s i = some (a, b, c, j) ∧ OkSt s j := by
  obtain ⟨v, j, e, _, h2, _⟩ := pick_ok [64, 150, 300, 600, 1500, 1048576] h (by decide)
  obtain ⟨v', j', e', _, _, h2', _⟩ := int_ok (n := 4) h2 (by omega)
  obtain ⟨v'', j'', e'', _, _, h2'', _⟩ := int_ok (n := 4) h2' (by omega)
  unfold kauditmill_Case_Rotation.f
  rw [e]
  simp only [Option.bind_some]
  rw [e']
  simp only [Option.bind_some]
  rw [e'']
  exact ⟨_, _, _, _, rfl, h2''⟩

/-- What a case's thresholds are: the bounds are ordered, the actions are actions. -/
def OkT (low least a b c d : Int) : Prop := 0 ≤ least ∧ least ≤ low ∧ low ≤ 900 ∧ (1 ≤ a ∧ a ≤ 5) ∧ (1 ≤ b ∧ b ≤ 5) ∧ (1 ≤ c ∧ c ≤ 5) ∧ (1 ≤ d ∧ d ≤ 5)

theorem j1_ok {s : List Int} {i : Int} (h : OkSt s i) (k : Nat) (x : Bool) (low least a b c d m n : Int) :
    ∃ k0 k1 r0 r1 r2 m' n' j, kauditmill_Case_Config.j1 (k + 1) x s i low least a b c d m n = some (k0, k1, r0, r1, r2, low, least, a, b, c, d, m', n', j) ∧ OkSt s j := by
  simp only [kauditmill_Case_Config.j1]
  cases x with
  | true =>
    rw [if_pos rfl]
    obtain ⟨v, j, e, _, _, h2, _⟩ := int_ok (n := 4) h (by omega)
    obtain ⟨p, q, j2, e2, h3⟩ := key_ok h2
    obtain ⟨r0, r1, r2, j3, e3, h4⟩ := rotation_ok h3
    rw [e]
    simp only [Option.bind_some]
    rw [e2]
    simp only [Option.bind_some]
    rw [e3]
    exact ⟨_, _, _, _, _, _, _, _, rfl, h4⟩
  | false =>
    rw [if_neg (by decide)]
    obtain ⟨p, q, j2, e2, h3⟩ := key_ok h
    obtain ⟨r0, r1, r2, j3, e3, h4⟩ := rotation_ok h3
    rw [e2]
    simp only [Option.bind_some]
    rw [e3]
    exact ⟨_, _, _, _, _, _, _, _, rfl, h4⟩

theorem j0_ok {s : List Int} {i : Int} (h : OkSt s i) (k : Nat) (low least a b c d : Int) :
    ∃ k0 k1 r0 r1 r2 m' n' j, kauditmill_Case_Config.j0 (k + 2) s i low least a b c d = some (k0, k1, r0, r1, r2, low, least, a, b, c, d, m', n', j) ∧ OkSt s j := by
  simp only [kauditmill_Case_Config.j0]
  obtain ⟨v, j, e, _, _, h2, _⟩ := int_ok (n := 4) h (by omega)
  rw [e]
  simp only [Option.bind_some]
  split
  · exact j1_ok h2 k _ _ _ _ _ _ _ _ _
  · exact j1_ok h2 k _ _ _ _ _ _ _ _ _

theorem config_ok {s : List Int} {i : Int} (h : OkSt s i) (k : Nat) :
    ∃ k0 k1 r0 r1 r2 low least a b c d m n j, kauditmill_Case_Config.f (k + 2) s i = some (k0, k1, r0, r1, r2, low, least, a, b, c, d, m, n, j) ∧ OkSt s j ∧ OkT low least a b c d := by
  obtain ⟨low, j1, e1, hlow, o1, _⟩ := pick_ok [0, 0, 300, 900] h (by decide)
  obtain ⟨v2, j2, e2, g2, l2, o2, _⟩ := int_ok (n := 2) o1 (by omega)
  obtain ⟨v3, j3, e3, g3, l3, o3, _⟩ := int_ok (n := 5) o2 (by omega)
  obtain ⟨v4, j4, e4, g4, l4, o4, _⟩ := int_ok (n := 5) o3 (by omega)
  obtain ⟨v5, j5, e5, g5, l5, o5, _⟩ := int_ok (n := 5) o4 (by omega)
  obtain ⟨v6, j6, e6, g6, l6, o6, _⟩ := int_ok (n := 5) o5 (by omega)
  obtain ⟨b7, j7, e7, o7⟩ := bool_ok (n := 2) o6 (by omega)
  unfold kauditmill_Case_Config.f
  rw [e1]; simp only [Option.bind_some]
  rw [e2]; simp only [Option.bind_some]
  rw [e3]; simp only [Option.bind_some]
  rw [e4]; simp only [Option.bind_some]
  rw [e5]; simp only [Option.bind_some]
  rw [e6]; simp only [Option.bind_some]
  rw [e7]; simp only [Option.bind_some]
  have hl : low = 0 ∨ low = 300 ∨ low = 900 := by simpa using hlow
  have hv2 : v2 = 0 ∨ v2 = 1 := by omega
  have w3 : wrap64 (1 + v3) = 1 + v3 := by unfold wrap64; omega
  have w4 : wrap64 (1 + v4) = 1 + v4 := by unfold wrap64; omega
  have w5 : wrap64 (1 + v5) = 1 + v5 := by unfold wrap64; omega
  have w6 : wrap64 (1 + v6) = 1 + v6 := by unfold wrap64; omega
  have hle : 0 ≤ wrap64 (Int.tdiv (wrap64 (low * v2)) 2) ∧ wrap64 (Int.tdiv (wrap64 (low * v2)) 2) ≤ low := by
    rcases hl with rfl | rfl | rfl <;> rcases hv2 with rfl | rfl <;> decide +kernel
  rw [w3, w4, w5, w6]
  have hlow9 : low ≤ 900 := by omega
  cases b7 with
  | true =>
    rw [if_pos rfl]
    obtain ⟨k0, k1, r0, r1, r2, m, n, j, e, o⟩ := j0_ok o7 k low (wrap64 (Int.tdiv (wrap64 (low * v2)) 2)) 2 1 (1 + v5) (1 + v6)
    exact ⟨_, _, _, _, _, _, _, _, _, _, _, _, _, _, e, o, hle.1, hle.2, hlow9, by omega, by omega, by omega, by omega⟩
  | false =>
    rw [if_neg (by decide)]
    obtain ⟨k0, k1, r0, r1, r2, m, n, j, e, o⟩ := j0_ok o7 k low (wrap64 (Int.tdiv (wrap64 (low * v2)) 2)) (1 + v3) (1 + v4) (1 + v5) (1 + v6)
    exact ⟨_, _, _, _, _, _, _, _, _, _, _, _, _, _, e, o, hle.1, hle.2, hlow9, by omega, by omega, by omega, by omega⟩

theorem new_ok (l : List Int) (most : Nat) (hm : most ≤ 1000) (hl : l.length ≤ 140737488351232) (h : ∀ x ∈ l, (Lit.int .u8 x).wf = true) : ∃ s, kauditmill_New.f l (most : Int) = some (s, 0) ∧ OkSt s 0 ∧ s.length ≤ most := by
  unfold kauditmill_New.f
  by_cases c : (l.length : Int) > most
  · rw [if_pos c, if_pos (by omega), if_pos (by omega)]
    have e : ((most : Int)).toNat = most := by omega
    rw [e]
    refine ⟨_, rfl, ⟨by omega, by omega, ?_, ?_⟩, ?_⟩
    · rw [List.length_take]; omega
    · intro x hx
      exact u8_bounds (h x (List.mem_of_mem_take hx))
    · rw [List.length_take]; omega
  · rw [if_neg c]
    exact ⟨_, rfl, ⟨by omega, by omega, by omega, fun x hx => u8_bounds (h x hx)⟩, by omega⟩

/-- Level, as a number. -/
def levelN (low least a b c d free : Int) : Int := if validB low least a b c d = true then (if free < least then 2 else if free < low then 1 else 0) else 0

theorem level_eq (low least a b c d free : Int) : space_Level.f low least a b c d free = some (levelN low least a b c d free) := by
  unfold space_Level.f space_Valid.f levelN
  simp only [Option.bind_some]
  split
  · split
    · rfl
    · split <;> rfl
  · rfl

theorem level_range (low least a b c d free : Int) : 0 ≤ levelN low least a b c d free ∧ levelN low least a b c d free ≤ 2 := by
  unfold levelN
  split
  · split
    · omega
    · split <;> omega
  · omega

/-- Look, as a pair. -/
def lookN (low least a b c d level free : Int) : Int × Int :=
  if levelN low least a b c d free = 2 ∧ level < 2 then (2, b) else if levelN low least a b c d free = 1 ∧ level < 1 then (1, a) else (levelN low least a b c d free, 0)

theorem look_eq (k : Nat) (low least a b c d level free : Int) : space_Look.f (k + 1) low least a b c d level free = some (lookN low least a b c d level free) := by
  unfold space_Look.f lookN
  rw [level_eq]
  simp only [Option.bind_some]
  generalize levelN low least a b c d free = n
  by_cases h2 : n = 2
  · subst h2
    by_cases hl : level < 2 <;> simp [space_Look.j0, hl]
  · by_cases h1 : n = 1
    · subst h1
      by_cases hl : level < 1 <;> simp [space_Look.j0, hl]
    · simp [space_Look.j0, h1, h2]

theorem begun_true (k : Nat) : kauditlaw27_begun.f (k + 1) = some true := by
  unfold kauditlaw27_begun.f
  rw [look_eq, look_eq, look_eq]
  decide +kernel

end Go.Proofs.Ytlojfepfnmoclaa.Pure
