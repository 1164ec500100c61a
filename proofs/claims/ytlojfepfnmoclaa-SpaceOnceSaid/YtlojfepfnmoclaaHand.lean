/- Contracts of the functions of package space that build arrays (Valid, Format), typed by hand. No conditions. -/
import Derived.Test.YtlojfepfnmoclaaProg
import Derived.Below
import Derived.Tactics
import Derived.WalkKit
import Derived.KernelRfl
import Derived.LoopTactic
import Derived.Deep.QuietTactic
import Derived.BigQuiet
import Derived.RowKit3
import Derived.RowKit
namespace Go.Proofs.Ytlojfepfnmoclaa.PAll
open Go.RowKit
set_option linter.unusedVariables false
set_option linter.unusedSimpArgs false

/-- Valid, as a plain test: the four actions first, then the two bounds. -/
def validB (low least a b c d : Int) : Bool :=
  decide (1 ≤ a ∧ a ≤ 5 ∧ 1 ≤ b ∧ b ≤ 5 ∧ 1 ≤ c ∧ c ≤ 5 ∧ 1 ≤ d ∧ d ≤ 5 ∧ 0 ≤ least ∧ least ≤ low ∧ low ≤ 1048576)

def space_Valid.f (low least a b c d : Int) : Option Bool := some (validB low least a b c d)

def okA (a : Int) : Bool := decide (1 ≤ a ∧ a ≤ 5)

/-- The first k of the four actions are actions. -/
def okTo (a b c d : Int) (k : Nat) : Prop := (1 ≤ k → okA a = true) ∧ (2 ≤ k → okA b = true) ∧ (3 ≤ k → okA c = true) ∧ (4 ≤ k → okA d = true)

theorem okA_iff (a : Int) : okA a = true ↔ 1 ≤ a ∧ a ≤ 5 := by unfold okA; simp

theorem ok_next0 {a b c d : Int} (h : okTo a b c d 0) (hx : 1 ≤ a ∧ a ≤ 5) : okTo a b c d 1 := by
  unfold okTo at *
  rw [okA_iff, okA_iff, okA_iff, okA_iff] at *
  omega
theorem valid_no0 {low least a b c d : Int} (hx : ¬ (1 ≤ a ∧ a ≤ 5)) : validB low least a b c d = false := by
  unfold validB
  exact decide_eq_false (by omega)
theorem ok_next1 {a b c d : Int} (h : okTo a b c d 1) (hx : 1 ≤ b ∧ b ≤ 5) : okTo a b c d 2 := by
  unfold okTo at *
  rw [okA_iff, okA_iff, okA_iff, okA_iff] at *
  omega
theorem valid_no1 {low least a b c d : Int} (hx : ¬ (1 ≤ b ∧ b ≤ 5)) : validB low least a b c d = false := by
  unfold validB
  exact decide_eq_false (by omega)
theorem ok_next2 {a b c d : Int} (h : okTo a b c d 2) (hx : 1 ≤ c ∧ c ≤ 5) : okTo a b c d 3 := by
  unfold okTo at *
  rw [okA_iff, okA_iff, okA_iff, okA_iff] at *
  omega
theorem valid_no2 {low least a b c d : Int} (hx : ¬ (1 ≤ c ∧ c ≤ 5)) : validB low least a b c d = false := by
  unfold validB
  exact decide_eq_false (by omega)
theorem ok_next3 {a b c d : Int} (h : okTo a b c d 3) (hx : 1 ≤ d ∧ d ≤ 5) : okTo a b c d 4 := by
  unfold okTo at *
  rw [okA_iff, okA_iff, okA_iff, okA_iff] at *
  omega
theorem valid_no3 {low least a b c d : Int} (hx : ¬ (1 ≤ d ∧ d ≤ 5)) : validB low least a b c d = false := by
  unfold validB
  exact decide_eq_false (by omega)
theorem valid_end {low least a b c d : Int} (h : okTo a b c d 4) : validB low least a b c d = decide (0 ≤ least ∧ least ≤ low ∧ low ≤ 1048576) := by
  unfold okTo at h
  rw [okA_iff, okA_iff, okA_iff, okA_iff] at h
  unfold validB
  exact decide_eq_decide.mpr (by omega)

theorem space_Valid.calls (low least a b c d : Int) (r : Bool) (w : World) (h : space_Valid.f low least a b c d = some r) :
    Calls Try.prog 15 #[.agg #[.int .i64 low, .int .i64 least, .int .i64 a, .int .i64 b, .int .i64 c, .int .i64 d]] w fun e w' => e = .returned (.bool r) ∧ Below w.heap.size w w' := by
  obtain rfl := Option.some.inj h
  clear h
  have i0 : ∀ w : World, (Instr.index 57 (.agg #[.int .i64 a, .int .i64 b, .int .i64 c, .int .i64 d]) (.int .i64 0)).run Try.prog w = .ok (.int .i64 a) w := fun _ => by kernel_rfl
  have i1 : ∀ w : World, (Instr.index 57 (.agg #[.int .i64 a, .int .i64 b, .int .i64 c, .int .i64 d]) (.int .i64 1)).run Try.prog w = .ok (.int .i64 b) w := fun _ => by kernel_rfl
  have i2 : ∀ w : World, (Instr.index 57 (.agg #[.int .i64 a, .int .i64 b, .int .i64 c, .int .i64 d]) (.int .i64 2)).run Try.prog w = .ok (.int .i64 c) w := fun _ => by kernel_rfl
  have i3 : ∀ w : World, (Instr.index 57 (.agg #[.int .i64 a, .int .i64 b, .int .i64 c, .int .i64 d]) (.int .i64 3)).run Try.prog w = .ok (.int .i64 d) w := fun _ => by kernel_rfl
  go_enter Try.func15, Try.ntmps15
  go_wp2
  go_loop [14] (fun i => ∃ k : Nat, k ≤ 4 ∧ i = .int .i64 k ∧ okTo a b c d k) (fun i => 4 - (intOf i).toNat)
  case atStart => exact ⟨0, by omega, rfl, by unfold okTo; omega⟩
  case round =>
    obtain ⟨k, hk, rfl, ho⟩ := hrel
    obtain rfl | rfl | rfl | rfl | rfl : k = 0 ∨ k = 1 ∨ k = 2 ∨ k = 3 ∨ k = 4 := by omega
    · by_cases h0 : 1 ≤ a ∧ a ≤ 5
      · obtain ⟨l1, l2⟩ := h0
        go_wp2
        go_round
        case rel => exact ⟨1, by omega, rfl, ok_next0 ho ⟨l1, l2⟩⟩
        case measure => simp [intOf]
      · have hv := valid_no0 (low := low) (least := least) (a := a) (b := b) (c := c) (d := d) h0
        by_cases l1 : 1 ≤ a
        · have l2 : ¬ a ≤ 5 := fun l2 => h0 ⟨l1, l2⟩
          go_wp2
          go_ret
          exact ⟨rfl, (Below.refl _ _).alloc (Nat.le_refl _) _⟩
        · go_wp2
          go_ret
          exact ⟨rfl, (Below.refl _ _).alloc (Nat.le_refl _) _⟩
    · by_cases h1 : 1 ≤ b ∧ b ≤ 5
      · obtain ⟨l1, l2⟩ := h1
        go_wp2
        go_round
        case rel => exact ⟨2, by omega, rfl, ok_next1 ho ⟨l1, l2⟩⟩
        case measure => simp [intOf]
      · have hv := valid_no1 (low := low) (least := least) (a := a) (b := b) (c := c) (d := d) h1
        by_cases l1 : 1 ≤ b
        · have l2 : ¬ b ≤ 5 := fun l2 => h1 ⟨l1, l2⟩
          go_wp2
          go_ret
          exact ⟨rfl, (Below.refl _ _).alloc (Nat.le_refl _) _⟩
        · go_wp2
          go_ret
          exact ⟨rfl, (Below.refl _ _).alloc (Nat.le_refl _) _⟩
    · by_cases h2 : 1 ≤ c ∧ c ≤ 5
      · obtain ⟨l1, l2⟩ := h2
        go_wp2
        go_round
        case rel => exact ⟨3, by omega, rfl, ok_next2 ho ⟨l1, l2⟩⟩
        case measure => simp [intOf]
      · have hv := valid_no2 (low := low) (least := least) (a := a) (b := b) (c := c) (d := d) h2
        by_cases l1 : 1 ≤ c
        · have l2 : ¬ c ≤ 5 := fun l2 => h2 ⟨l1, l2⟩
          go_wp2
          go_ret
          exact ⟨rfl, (Below.refl _ _).alloc (Nat.le_refl _) _⟩
        · go_wp2
          go_ret
          exact ⟨rfl, (Below.refl _ _).alloc (Nat.le_refl _) _⟩
    · by_cases h3 : 1 ≤ d ∧ d ≤ 5
      · obtain ⟨l1, l2⟩ := h3
        go_wp2
        go_round
        case rel => exact ⟨4, by omega, rfl, ok_next3 ho ⟨l1, l2⟩⟩
        case measure => simp [intOf]
      · have hv := valid_no3 (low := low) (least := least) (a := a) (b := b) (c := c) (d := d) h3
        by_cases l1 : 1 ≤ d
        · have l2 : ¬ d ≤ 5 := fun l2 => h3 ⟨l1, l2⟩
          go_wp2
          go_ret
          exact ⟨rfl, (Below.refl _ _).alloc (Nat.le_refl _) _⟩
        · go_wp2
          go_ret
          exact ⟨rfl, (Below.refl _ _).alloc (Nat.le_refl _) _⟩
    · by_cases l1 : 0 ≤ least
      · by_cases l2 : least ≤ low
        · by_cases l3 : low ≤ 1048576
          · have hv : validB low least a b c d = true := by rw [valid_end ho]; simp [l1, l2, l3]
            go_wp2
            go_ret
            exact ⟨rfl, (Below.refl _ _).alloc (Nat.le_refl _) _⟩
          · have hv : validB low least a b c d = false := by rw [valid_end ho]; simp [l1, l2, l3]
            go_wp2
            go_ret
            exact ⟨rfl, (Below.refl _ _).alloc (Nat.le_refl _) _⟩
        · have hv : validB low least a b c d = false := by rw [valid_end ho]; simp [l1, l2]
          go_wp2
          go_ret
          exact ⟨rfl, (Below.refl _ _).alloc (Nat.le_refl _) _⟩
      · have hv : validB low least a b c d = false := by rw [valid_end ho]; simp [l1]
        go_wp2
        go_ret
        exact ⟨rfl, (Below.refl _ _).alloc (Nat.le_refl _) _⟩

/-- The name of an action. -/
def wordB (a : Int) : ByteArray := if a = 1 then (⟨#[105, 103, 110, 111, 114, 101]⟩ : ByteArray) else if a = 2 then (⟨#[114, 101, 112, 111, 114, 116]⟩ : ByteArray) else if a = 3 then (⟨#[114, 111, 116, 97, 116, 101]⟩ : ByteArray) else if a = 4 then (⟨#[115, 117, 115, 112, 101, 110, 100]⟩ : ByteArray) else if a = 5 then (⟨#[104, 97, 108, 116]⟩ : ByteArray) else (⟨#[]⟩ : ByteArray)

theorem wordB_out {a : Int} (h : a < 1 ∨ 5 < a) : wordB a = (⟨#[]⟩ : ByteArray) := by
  unfold wordB
  rw [if_neg (by omega), if_neg (by omega), if_neg (by omega), if_neg (by omega), if_neg (by omega)]

def space_Format.f (a : Int) : Option ByteArray := some (wordB a)

theorem words_calls (w : World) :
    Calls Try.prog 24 #[] w fun e w' => e = .returned (.agg #[.string (⟨#[]⟩ : ByteArray), .string (⟨#[105, 103, 110, 111, 114, 101]⟩ : ByteArray), .string (⟨#[114, 101, 112, 111, 114, 116]⟩ : ByteArray), .string (⟨#[114, 111, 116, 97, 116, 101]⟩ : ByteArray), .string (⟨#[115, 117, 115, 112, 101, 110, 100]⟩ : ByteArray), .string (⟨#[104, 97, 108, 116]⟩ : ByteArray)]) ∧ Below w.heap.size w w' := by
  go_enter Try.func24, Try.ntmps24
  go_wp2
  exact bodyPost_ret (v := .agg #[.string (⟨#[]⟩ : ByteArray), .string (⟨#[105, 103, 110, 111, 114, 101]⟩ : ByteArray), .string (⟨#[114, 101, 112, 111, 114, 116]⟩ : ByteArray), .string (⟨#[114, 111, 116, 97, 116, 101]⟩ : ByteArray), .string (⟨#[115, 117, 115, 112, 101, 110, 100]⟩ : ByteArray), .string (⟨#[104, 97, 108, 116]⟩ : ByteArray)]) (by simp [results, Try.results24, go_sem]) rfl ⟨rfl, (Below.refl _ _).alloc (Nat.le_refl _) _⟩

theorem space_Format.calls (a : Int) (r : ByteArray) (w : World) (h : space_Format.f a = some r) :
    Calls Try.prog 19 #[.int .i64 a] w fun e w' => e = .returned (.string r) ∧ Below w.heap.size w w' := by
  obtain rfl := Option.some.inj h
  clear h
  by_cases h0 : a < 0
  · have hv : wordB a = (⟨#[]⟩ : ByteArray) := wordB_out (by omega)
    go_enter Try.func19, Try.ntmps19
    go_wp2_with (go_at_call 24; refine (words_calls _).mono ?_; rintro e w1 ⟨rfl, hb⟩)
    go_ret
    exact ⟨by rw [hv]; rfl, hb.alloc hb.size _⟩
  · by_cases h1 : 6 ≤ a
    · have hv : wordB a = (⟨#[]⟩ : ByteArray) := wordB_out (by omega)
      go_enter Try.func19, Try.ntmps19
      go_wp2_with (go_at_call 24; refine (words_calls _).mono ?_; rintro e w1 ⟨rfl, hb⟩)
      go_ret
      exact ⟨by rw [hv]; rfl, hb.alloc hb.size _⟩
    · obtain rfl | rfl | rfl | rfl | rfl | rfl : a = 0 ∨ a = 1 ∨ a = 2 ∨ a = 3 ∨ a = 4 ∨ a = 5 := by omega
      all_goals
        go_enter Try.func19, Try.ntmps19
        go_wp2_with (go_at_call 24; refine (words_calls _).mono ?_; rintro e w1 ⟨rfl, hb⟩)
        go_ret
        exact ⟨rfl, hb.alloc hb.size _⟩

end Go.Proofs.Ytlojfepfnmoclaa.PAll
