/- Plain arithmetic of bytes in a word: digits to the base 256, their order turned round; the word and the digest of eight bytes. Conditions: as each lemma says. -/
import Derived.Test.YtdgmjhfkaplneaaPAllx22
import Derived.Test.YtdgmjhfkaplneaaHand
import Derived.Laws.BitsAllLaws
import Derived.Laws.Bits64
namespace Go.Proofs.Ytdgmjhfkaplneaa.Pure
open Go.RowKit Go.Proofs.Ytdgmjhfkaplneaa.PAll Go.Proofs.YtdgmjhfkaplneaaW.PrintWords Go.Proofs.YtdgmjhfkaplneaaW.PrintLast Go.Proofs.YtdgmjhfkaplneaaW.PrintMore
set_option linter.unusedVariables false
set_option linter.unusedSimpArgs false

def dig : List Nat → Nat
  | [] => 0
  | a :: r => a + 256 * dig r

theorem and_dig {a c b d : Nat} (ha : a < 256) (hc : c < 256) : (a + 256 * b) &&& (c + 256 * d) = (a &&& c) + 256 * (b &&& d) := by
  have h1 : ((a + 256 * b) &&& (c + 256 * d)) % 2 ^ 8 = a &&& c := by
    rw [Nat.and_mod_two_pow]
    congr 1 <;> omega
  have h2 : ((a + 256 * b) &&& (c + 256 * d)) / 2 ^ 8 = b &&& d := by
    rw [Nat.and_div_two_pow]
    congr 1 <;> omega
  omega

theorem or_dig {a c b d : Nat} (ha : a < 256) (hc : c < 256) : (a + 256 * b) ||| (c + 256 * d) = (a ||| c) + 256 * (b ||| d) := by
  have h1 : ((a + 256 * b) ||| (c + 256 * d)) % 2 ^ 8 = a ||| c := by
    rw [Nat.or_mod_two_pow]
    congr 1 <;> omega
  have h2 : ((a + 256 * b) ||| (c + 256 * d)) / 2 ^ 8 = b ||| d := by
    rw [Nat.or_div_two_pow]
    congr 1 <;> omega
  omega

theorem and255 {a : Nat} (ha : a < 256) : a &&& 255 = a := by
  have : a &&& 255 = a % 256 := Nat.and_two_pow_sub_one_eq_mod a 8
  omega

theorem dig_lt : ∀ (l : List Nat), (∀ x ∈ l, x < 256) → dig l < 256 ^ l.length
  | [], _ => by simp [dig]
  | a :: r, h => by
    have h1 := dig_lt r (fun x hx => h x (List.mem_cons_of_mem _ hx))
    have h2 := h a (List.mem_cons_self ..)
    simp only [dig, List.length_cons, Nat.pow_succ]
    omega

theorem and_l (a0 a1 a2 a3 a4 a5 a6 a7 c0 c1 c2 c3 c4 c5 c6 c7 : Nat) (h : a0 < 256 ∧ a1 < 256 ∧ a2 < 256 ∧ a3 < 256 ∧ a4 < 256 ∧ a5 < 256 ∧ a6 < 256 ∧ a7 < 256) (k : c0 < 256 ∧ c1 < 256 ∧ c2 < 256 ∧ c3 < 256 ∧ c4 < 256 ∧ c5 < 256 ∧ c6 < 256 ∧ c7 < 256) :
    dig [a0, a1, a2, a3, a4, a5, a6, a7] &&& dig [c0, c1, c2, c3, c4, c5, c6, c7] = dig [a0 &&& c0, a1 &&& c1, a2 &&& c2, a3 &&& c3, a4 &&& c4, a5 &&& c5, a6 &&& c6, a7 &&& c7] := by
  simp only [dig]
  rw [and_dig (by omega) (by omega), and_dig (by omega) (by omega), and_dig (by omega) (by omega), and_dig (by omega) (by omega), and_dig (by omega) (by omega), and_dig (by omega) (by omega), and_dig (by omega) (by omega), and_dig (by omega) (by omega)]
  rfl

theorem or_l (a0 a1 a2 a3 a4 a5 a6 a7 c0 c1 c2 c3 c4 c5 c6 c7 : Nat) (h : a0 < 256 ∧ a1 < 256 ∧ a2 < 256 ∧ a3 < 256 ∧ a4 < 256 ∧ a5 < 256 ∧ a6 < 256 ∧ a7 < 256) (k : c0 < 256 ∧ c1 < 256 ∧ c2 < 256 ∧ c3 < 256 ∧ c4 < 256 ∧ c5 < 256 ∧ c6 < 256 ∧ c7 < 256) :
    dig [a0, a1, a2, a3, a4, a5, a6, a7] ||| dig [c0, c1, c2, c3, c4, c5, c6, c7] = dig [a0 ||| c0, a1 ||| c1, a2 ||| c2, a3 ||| c3, a4 ||| c4, a5 ||| c5, a6 ||| c6, a7 ||| c7] := by
  simp only [dig]
  rw [or_dig (by omega) (by omega), or_dig (by omega) (by omega), or_dig (by omega) (by omega), or_dig (by omega) (by omega), or_dig (by omega) (by omega), or_dig (by omega) (by omega), or_dig (by omega) (by omega), or_dig (by omega) (by omega)]
  rfl

def Bytes8 (b0 b1 b2 b3 b4 b5 b6 b7 : Nat) : Prop := b0 < 256 ∧ b1 < 256 ∧ b2 < 256 ∧ b3 < 256 ∧ b4 < 256 ∧ b5 < 256 ∧ b6 < 256 ∧ b7 < 256

theorem dig8_lt {b0 b1 b2 b3 b4 b5 b6 b7 : Nat} (h : Bytes8 b0 b1 b2 b3 b4 b5 b6 b7) : dig [b0, b1, b2, b3, b4, b5, b6, b7] < 18446744073709551616 := by
  unfold Bytes8 at h
  simp only [dig]
  omega

theorem and_int {a b : Nat} (ha : a < 18446744073709551616) (hb : b < 18446744073709551616) : Go.bits .and .u64 (a : Int) (b : Int) = ((a &&& b : Nat) : Int) := u64_and_nat a b ha hb
theorem or_int {a b : Nat} (ha : a < 18446744073709551616) (hb : b < 18446744073709551616) : Go.bits .or .u64 (a : Int) (b : Int) = ((a ||| b : Nat) : Int) := u64_or_nat a b ha hb

theorem wrap_lt {n : Nat} (h : n < 18446744073709551616) : IntKind.u64.wrap (n : Int) = (n : Int) := by
  rw [IntKind.wrap_u64]
  exact Int.emod_eq_of_lt (Int.natCast_nonneg _) (by omega)

/-- One stage of the turning: bytes next to each other change places. -/
theorem stage1 {b0 b1 b2 b3 b4 b5 b6 b7 : Nat} (h : Bytes8 b0 b1 b2 b3 b4 b5 b6 b7) :
    Go.bits .or .u64 (Go.bits .and .u64 (((dig [b0, b1, b2, b3, b4, b5, b6, b7] : Nat) : Int) / 256) 71777214294589695) (IntKind.u64.wrap ((Go.bits .and .u64 ((dig [b0, b1, b2, b3, b4, b5, b6, b7] : Nat) : Int) 71777214294589695) * 256)) = ((dig [b1, b0, b3, b2, b5, b4, b7, b6] : Nat) : Int) := by
  have hX := dig8_lt h
  obtain ⟨h0, h1, h2, h3, h4, h5, h6, h7⟩ := id h
  have eM : (71777214294589695 : Int) = ((dig [255, 0, 255, 0, 255, 0, 255, 0] : Nat) : Int) := by decide +kernel
  have hM : dig [255, 0, 255, 0, 255, 0, 255, 0] < 18446744073709551616 := by decide +kernel
  have eD : ((dig [b0, b1, b2, b3, b4, b5, b6, b7] : Nat) : Int) / 256 = ((dig [b1, b2, b3, b4, b5, b6, b7, 0] : Nat) : Int) := by
    simp only [dig]; omega
  rw [eM, eD, and_int (a := dig [b1, b2, b3, b4, b5, b6, b7, 0]) (dig8_lt ⟨h1, h2, h3, h4, h5, h6, h7, by omega⟩) hM, and_int hX hM, and_l _ _ _ _ _ _ _ _ _ _ _ _ _ _ _ _ (by omega) (by omega), and_l _ _ _ _ _ _ _ _ _ _ _ _ _ _ _ _ (by omega) (by omega)]
  rw [and255 h0, and255 h1, and255 h2, and255 h3, and255 h4, and255 h5, and255 h6, and255 h7]
  simp only [Nat.and_zero]
  have eW : IntKind.u64.wrap (((dig [b0, 0, b2, 0, b4, 0, b6, 0] : Nat) : Int) * 256) = ((dig [0, b0, 0, b2, 0, b4, 0, b6] : Nat) : Int) := by
    have e : ((dig [b0, 0, b2, 0, b4, 0, b6, 0] : Nat) : Int) * 256 = ((dig [0, b0, 0, b2, 0, b4, 0, b6] : Nat) : Int) := by simp only [dig]; omega
    rw [e]
    exact wrap_lt (dig8_lt ⟨by omega, h0, by omega, h2, by omega, h4, by omega, h6⟩)
  rw [eW, or_int (a := dig [b1, 0, b3, 0, b5, 0, b7, 0]) (b := dig [0, b0, 0, b2, 0, b4, 0, b6]) (dig8_lt ⟨h1, by omega, h3, by omega, h5, by omega, h7, by omega⟩) (dig8_lt ⟨by omega, h0, by omega, h2, by omega, h4, by omega, h6⟩), or_l _ _ _ _ _ _ _ _ _ _ _ _ _ _ _ _ (by omega) (by omega)]
  simp only [Nat.or_zero, Nat.zero_or]

theorem stage2 {b0 b1 b2 b3 b4 b5 b6 b7 : Nat} (h : Bytes8 b0 b1 b2 b3 b4 b5 b6 b7) :
    Go.bits .or .u64 (Go.bits .and .u64 (((dig [b0, b1, b2, b3, b4, b5, b6, b7] : Nat) : Int) / 65536) 281470681808895) (IntKind.u64.wrap ((Go.bits .and .u64 ((dig [b0, b1, b2, b3, b4, b5, b6, b7] : Nat) : Int) 281470681808895) * 65536)) = ((dig [b2, b3, b0, b1, b6, b7, b4, b5] : Nat) : Int) := by
  have hX := dig8_lt h
  obtain ⟨h0, h1, h2, h3, h4, h5, h6, h7⟩ := id h
  have eM : (281470681808895 : Int) = ((dig [255, 255, 0, 0, 255, 255, 0, 0] : Nat) : Int) := by decide +kernel
  have hM : dig [255, 255, 0, 0, 255, 255, 0, 0] < 18446744073709551616 := by decide +kernel
  have eD : ((dig [b0, b1, b2, b3, b4, b5, b6, b7] : Nat) : Int) / 65536 = ((dig [b2, b3, b4, b5, b6, b7, 0, 0] : Nat) : Int) := by
    simp only [dig]; omega
  rw [eM, eD, and_int (a := dig [b2, b3, b4, b5, b6, b7, 0, 0]) (dig8_lt ⟨h2, h3, h4, h5, h6, h7, by omega, by omega⟩) hM, and_int hX hM, and_l _ _ _ _ _ _ _ _ _ _ _ _ _ _ _ _ (by omega) (by omega), and_l _ _ _ _ _ _ _ _ _ _ _ _ _ _ _ _ (by omega) (by omega)]
  rw [and255 h0, and255 h1, and255 h2, and255 h3, and255 h4, and255 h5, and255 h6, and255 h7]
  simp only [Nat.and_zero]
  have eW : IntKind.u64.wrap (((dig [b0, b1, 0, 0, b4, b5, 0, 0] : Nat) : Int) * 65536) = ((dig [0, 0, b0, b1, 0, 0, b4, b5] : Nat) : Int) := by
    have e : ((dig [b0, b1, 0, 0, b4, b5, 0, 0] : Nat) : Int) * 65536 = ((dig [0, 0, b0, b1, 0, 0, b4, b5] : Nat) : Int) := by simp only [dig]; omega
    rw [e]
    exact wrap_lt (dig8_lt ⟨by omega, by omega, h0, h1, by omega, by omega, h4, h5⟩)
  rw [eW, or_int (a := dig [b2, b3, 0, 0, b6, b7, 0, 0]) (b := dig [0, 0, b0, b1, 0, 0, b4, b5]) (dig8_lt ⟨h2, h3, by omega, by omega, h6, h7, by omega, by omega⟩) (dig8_lt ⟨by omega, by omega, h0, h1, by omega, by omega, h4, h5⟩), or_l _ _ _ _ _ _ _ _ _ _ _ _ _ _ _ _ (by omega) (by omega)]
  simp only [Nat.or_zero, Nat.zero_or]

theorem stage3 {b0 b1 b2 b3 b4 b5 b6 b7 : Nat} (h : Bytes8 b0 b1 b2 b3 b4 b5 b6 b7) :
    Go.bits .or .u64 (((dig [b0, b1, b2, b3, b4, b5, b6, b7] : Nat) : Int) / 4294967296) (IntKind.u64.wrap (((dig [b0, b1, b2, b3, b4, b5, b6, b7] : Nat) : Int) * 4294967296)) = ((dig [b4, b5, b6, b7, b0, b1, b2, b3] : Nat) : Int) := by
  obtain ⟨h0, h1, h2, h3, h4, h5, h6, h7⟩ := id h
  have eD : ((dig [b0, b1, b2, b3, b4, b5, b6, b7] : Nat) : Int) / 4294967296 = ((dig [b4, b5, b6, b7, 0, 0, 0, 0] : Nat) : Int) := by
    simp only [dig]; omega
  have eW : IntKind.u64.wrap (((dig [b0, b1, b2, b3, b4, b5, b6, b7] : Nat) : Int) * 4294967296) = ((dig [0, 0, 0, 0, b0, b1, b2, b3] : Nat) : Int) := by
    have e : ((dig [b0, b1, b2, b3, b4, b5, b6, b7] : Nat) : Int) * 4294967296 = ((dig [0, 0, 0, 0, b0, b1, b2, b3] : Nat) : Int) + ((dig [b4, b5, b6, b7] : Nat) : Int) * 18446744073709551616 := by simp only [dig]; omega
    rw [e, IntKind.wrap_u64, Int.add_mul_emod_self_right, ← IntKind.wrap_u64]
    exact wrap_lt (dig8_lt ⟨by omega, by omega, by omega, by omega, h0, h1, h2, h3⟩)
  rw [eD, eW, or_int (a := dig [b4, b5, b6, b7, 0, 0, 0, 0]) (b := dig [0, 0, 0, 0, b0, b1, b2, b3]) (dig8_lt ⟨h4, h5, h6, h7, by omega, by omega, by omega, by omega⟩) (dig8_lt ⟨by omega, by omega, by omega, by omega, h0, h1, h2, h3⟩), or_l _ _ _ _ _ _ _ _ _ _ _ _ _ _ _ _ (by omega) (by omega)]
  simp only [Nat.or_zero, Nat.zero_or]

theorem rev_bytes {b0 b1 b2 b3 b4 b5 b6 b7 : Nat} (h : Bytes8 b0 b1 b2 b3 b4 b5 b6 b7) :
    bits_ReverseBytes64.f ((dig [b0, b1, b2, b3, b4, b5, b6, b7] : Nat) : Int) = some ((dig [b7, b6, b5, b4, b3, b2, b1, b0] : Nat) : Int) := by
  obtain ⟨h0, h1, h2, h3, h4, h5, h6, h7⟩ := id h
  unfold bits_ReverseBytes64.f
  rw [stage1 h, stage2 ⟨h1, h0, h3, h2, h5, h4, h7, h6⟩, stage3 ⟨h3, h2, h1, h0, h7, h6, h5, h4⟩]

/-- A byte is laid above a word. -/
theorem lay_above {m c i : Nat} (hm : m < 256 ^ i) (hc : c < 256) (hi : i ≤ 7) : Go.bits .or .u64 (m : Int) (shl .u64 (IntKind.u64.wrap (c : Int)) (8 * (i : Int))) = ((m + 256 ^ i * c : Nat) : Int) := by
  have e1 : IntKind.u64.wrap (c : Int) = c := by rw [IntKind.wrap_u64]; omega
  have e2 : min (8 * (i : Int)).toNat IntKind.u64.bits = 8 * i := by simp [IntKind.bits]; omega
  have hp : (256 : Nat) ^ i ≤ 256 ^ 7 := Nat.pow_le_pow_right (by omega) hi
  have hb : 256 ^ i * c + m < 18446744073709551616 := by
    have h1 : 256 ^ i * c ≤ 256 ^ 7 * 255 := Nat.mul_le_mul hp (by omega)
    have h2 : (256 : Nat) ^ 7 = 72057594037927936 := by decide
    omega
  have e3 : shl .u64 (c : Int) (8 * (i : Int)) = ((256 ^ i * c : Nat) : Int) := by
    unfold shl
    rw [e2, IntKind.wrap_u64]
    have e4 : ((2 : Int) ^ (8 * i)) = ((256 ^ i : Nat) : Int) := by
      have : (256 : Nat) ^ i = 2 ^ (8 * i) := by rw [Nat.pow_mul]
      rw [this, Int.natCast_pow]; rfl
    rw [e4, Int.mul_comm]
    have : ((256 ^ i : Nat) : Int) * (c : Int) = ((256 ^ i * c : Nat) : Int) := (Int.natCast_mul _ _).symm
    rw [this]
    omega
  rw [e1, e3, or_int (by omega) (by omega)]
  congr 1
  have e5 : (256 : Nat) ^ i = 2 ^ (8 * i) := by rw [Nat.pow_mul]
  rw [Nat.or_comm, e5, ← Nat.two_pow_add_eq_or_of_lt (by rw [← e5]; exact hm) c]
  omega

theorem wordFrom_dig : ∀ (l : List Nat) (m i : Nat), (∀ x ∈ l, x < 256) → m < 256 ^ i → i + l.length ≤ 8 → wordFrom (m : Int) i (l.map Int.ofNat) = ((m + 256 ^ i * dig l : Nat) : Int)
  | [], m, i, _, _, _ => by simp [wordFrom, dig]
  | c :: r, m, i, h, hm, hl => by
    have hc := h c (List.mem_cons_self ..)
    simp only [List.length_cons] at hl
    simp only [List.map_cons, wordFrom]
    have e := lay_above (c := c) hm hc (by omega)
    have e' : Go.bits .or .u64 (m : Int) (shl .u64 (IntKind.u64.wrap (Int.ofNat c)) (8 * (i : Int))) = ((m + 256 ^ i * c : Nat) : Int) := e
    rw [e', wordFrom_dig r _ (i + 1) (fun x hx => h x (List.mem_cons_of_mem _ hx)) (by
      rw [Nat.pow_succ]
      have : 256 ^ i * c ≤ 256 ^ i * 255 := Nat.mul_le_mul_left _ (by omega)
      omega) (by omega)]
    congr 1
    simp only [dig, Nat.pow_succ]
    rw [Nat.mul_add, ← Nat.mul_assoc]
    omega

theorem wordOf_dig (l : List Nat) (h : ∀ x ∈ l, x < 256) (hl : l.length ≤ 8) : wordOf (l.map Int.ofNat) = ((dig l : Nat) : Int) := by
  unfold wordOf
  have := wordFrom_dig l 0 0 h (by simp) (by omega)
  simpa using this

end Go.Proofs.Ytdgmjhfkaplneaa.Pure
