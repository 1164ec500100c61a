/- Plain laws of hexadecimal digits: how the two Format write a word, how the two Parse read one. Conditions: as each lemma says. -/
import Derived.Test.YtdgmjhfkaplneaaPAllx26
import Derived.Test.YtdgmjhfkaplneaaPAllx27
import Derived.Test.YtdgmjhfkaplneaaPAllx28
import Derived.Test.YtdgmjhfkaplneaaPAllx29
import Derived.Test.YtdgmjhfkaplneaaPure0
import Derived.Test.YtdgmjhfkaplneaaPureBits
namespace Go.Proofs.Ytdgmjhfkaplneaa.Pure
open Go.RowKit Go.Proofs.Ytdgmjhfkaplneaa.PAll Go.Proofs.YtdgmjhfkaplneaaW.PrintWords Go.Proofs.YtdgmjhfkaplneaaW.PrintLast Go.Proofs.YtdgmjhfkaplneaaW.PrintMore
set_option linter.unusedVariables false
set_option linter.unusedSimpArgs false

abbrev table : ByteArray := (⟨#[48, 49, 50, 51, 52, 53, 54, 55, 56, 57, 97, 98, 99, 100, 101, 102]⟩ : ByteArray)

/-- A digit's byte. -/
def hexU (v : Nat) : UInt8 := #[48, 49, 50, 51, 52, 53, 54, 55, 56, 57, 97, 98, 99, 100, 101, 102].getD v 0

def hexI (v : Nat) : Int := ((hexU v).toNat : Int)

theorem table_at (v : Nat) (h : v < 16) : bt table (v : Int) = hexI v := by
  have : ∀ v : Fin 16, bt table ((v.1 : Nat) : Int) = hexI v.1 := by decide +kernel
  exact this ⟨v, h⟩

theorem table_cut (v : Nat) (h : v < 16) : table.extract v (v + 1) = ⟨#[hexU v]⟩ := by
  have : ∀ v : Fin 16, (table.extract v.1 (v.1 + 1)).data = #[hexU v.1] := by decide +kernel
  have h1 := this ⟨v, h⟩
  generalize table.extract v (v + 1) = x at h1 ⊢
  obtain ⟨y⟩ := x
  simp only at h1
  rw [h1]

theorem hexI_cases (v : Nat) (h : v < 16) : (48 ≤ hexI v ∧ hexI v ≤ 57 ∧ hexI v - 48 = v) ∨ (97 ≤ hexI v ∧ hexI v ≤ 102 ∧ hexI v - 87 = v) := by
  have : ∀ v : Fin 16, (48 ≤ hexI v.1 ∧ hexI v.1 ≤ 57 ∧ hexI v.1 - 48 = v.1) ∨ (97 ≤ hexI v.1 ∧ hexI v.1 ≤ 102 ∧ hexI v.1 - 87 = v.1) := by decide +kernel
  exact this ⟨v, h⟩

theorem hexI_digit (c : Int) (h0 : 48 ≤ c) (h1 : c ≤ 57) : hexI (c - 48).toNat = c := by
  have : ∀ v : Fin 10, hexI v.1 = 48 + (v.1 : Int) := by decide +kernel
  have h := this ⟨(c - 48).toNat, by omega⟩
  simp only at h
  rw [h]; omega

theorem hexI_letter (c : Int) (h0 : 97 ≤ c) (h1 : c ≤ 102) : hexI (c - 87).toNat = c := by
  have : ∀ v : Fin 6, hexI (v.1 + 10) = 97 + (v.1 : Int) := by decide +kernel
  have h := this ⟨(c - 97).toNat, by omega⟩
  simp only at h
  have e : (c - 87).toNat = (c - 97).toNat + 10 := by omega
  rw [e, h]; omega

/-- A text of digits. -/
def hexBA (ds : List Nat) : ByteArray := ⟨(ds.map hexU).toArray⟩

theorem hexBA_app (xs : List Nat) (a b : Nat) : hexBA xs ++ ((⟨#[hexU a]⟩ : ByteArray) ++ (⟨#[hexU b]⟩ : ByteArray)) = hexBA (xs ++ [a, b]) := by
  apply ByteArray.ext
  simp [hexBA]

/-- The sixteen digits of a word. -/
def nibs (n : Nat) : List Nat := [n / 1152921504606846976 % 16, n / 72057594037927936 % 16, n / 4503599627370496 % 16, n / 281474976710656 % 16, n / 17592186044416 % 16, n / 1099511627776 % 16, n / 68719476736 % 16, n / 4294967296 % 16, n / 268435456 % 16, n / 16777216 % 16, n / 1048576 % 16, n / 65536 % 16, n / 4096 % 16, n / 256 % 16, n / 16 % 16, n % 16]

def digs : Nat → Nat → List Nat
  | 0, _ => []
  | k + 1, n => digs k (n / 16) ++ [n % 16]

theorem nibs_digs (n : Nat) : nibs n = digs 16 n := by
  simp only [nibs, digs, Nat.div_div_eq_div_mul, List.nil_append, List.cons_append]

def valFrom : Nat → List Nat → Nat
  | m, [] => m
  | m, d :: r => valFrom (m * 16 + d) r

theorem valFrom_snoc : ∀ (l : List Nat) (m d : Nat), valFrom m (l ++ [d]) = valFrom m l * 16 + d
  | [], m, d => rfl
  | c :: r, m, d => valFrom_snoc r (m * 16 + c) d

theorem digs_val : ∀ (k : Nat) (l : List Nat), l.length = k → (∀ d ∈ l, d < 16) → digs k (valFrom 0 l) = l
  | 0, l, hl, _ => by rw [List.length_eq_zero_iff.1 hl]; rfl
  | k + 1, l, hl, hd => by
    have hne : l ≠ [] := by intro h; rw [h] at hl; simp at hl
    have e := List.dropLast_concat_getLast hne
    have hlast := hd _ (List.getLast_mem hne)
    rw [← e, valFrom_snoc, digs]
    have h1 : (valFrom 0 l.dropLast * 16 + l.getLast hne) / 16 = valFrom 0 l.dropLast := by omega
    have h2 : (valFrom 0 l.dropLast * 16 + l.getLast hne) % 16 = l.getLast hne := by omega
    rw [h1, h2, digs_val k l.dropLast (by rw [List.length_dropLast]; omega) (fun d hm => hd d (List.dropLast_subset l hm))]

theorem val_digs : ∀ (k n : Nat), valFrom 0 (digs k n) = n % 16 ^ k
  | 0, n => by simp [digs, valFrom, Nat.mod_one]
  | k + 1, n => by
    rw [digs, valFrom_snoc, val_digs k (n / 16), Nat.pow_succ]
    have h := Nat.mod_mul_left_div_self n 16 (16 ^ k)
    have h2 : n % (16 ^ k * 16) % 16 = n % 16 := Nat.mod_mul_left_mod n (16 ^ k) 16
    omega

theorem digs_lt : ∀ (k n : Nat), ∀ d ∈ digs k n, d < 16
  | 0, n, d, h => by simp [digs] at h
  | k + 1, n, d, h => by
    rw [digs] at h
    rcases List.mem_append.1 h with h | h
    · exact digs_lt k _ d h
    · simp at h; omega

theorem digs_length : ∀ (k n : Nat), (digs k n).length = k
  | 0, _ => rfl
  | k + 1, n => by rw [digs, List.length_append, digs_length k]; rfl

theorem strOf_hex (ds : List Nat) : strOfNums (ds.map hexI) = hexBA ds := by
  unfold strOfNums hexBA hexI
  simp

theorem strOf_bytes (s : ByteArray) : strOfNums (bytesOf s) = s := by
  unfold strOfNums bytesOf
  rw [List.map_map]
  have e : ((fun n : Int => UInt8.ofNat n.toNat) ∘ fun b : UInt8 => (b.toNat : Int)) = id := by
    funext b
    simp
  rw [e, List.map_id]

/-- A digit is laid below a word. -/
theorem lay16 {m v : Nat} (hm : m < 1152921504606846976) (hv : v < 16) : Go.bits .or .u64 (IntKind.u64.wrap ((m : Int) * 16)) (v : Int) = ((m * 16 + v : Nat) : Int) := by
  have e1 : (m : Int) * 16 = ((16 * m : Nat) : Int) := by omega
  rw [e1, wrap_lt (by omega), or_int (by omega) (by omega)]
  congr 1
  have := Nat.two_pow_add_eq_or_of_lt (i := 4) (b := v) (by omega) m
  have e2 : (2 : Nat) ^ 4 = 16 := by decide
  rw [e2] at this
  omega

/-- What the bytes of a text say, behind what was read. -/
def parseN : List Int → Nat → Int × Int
  | [], m => ((m : Int), 0)
  | c :: r, m => if 48 ≤ c ∧ c ≤ 57 then parseN r (m * 16 + (c - 48).toNat) else if 97 ≤ c ∧ c ≤ 102 then parseN r (m * 16 + (c - 87).toNat) else (0, 230)

theorem bytes_drop (s : ByteArray) (i : Nat) (h : i < s.size) : (bytesOf s).drop i = bt s (i : Int) :: (bytesOf s).drop (i + 1) := by
  rw [rd_drop (bytesOf s) i (by rw [bytesOf_length]; exact h), rd_bytesOf]

theorem pow16 (i : Nat) (h : i ≤ 15) : (16 : Nat) ^ i ≤ 1152921504606846976 := by
  have h1 : (16 : Nat) ^ i ≤ 16 ^ 15 := Nat.pow_le_pow_right (by omega) h
  have h2 : (16 : Nat) ^ 15 = 1152921504606846976 := by decide
  omega

theorem parse_loop (s : ByteArray) (hs : s.size = 16) (d : Nat) : ∀ (k i m : Nat), i ≤ 16 → 16 - i = d → 2 * d < k → m < 16 ^ i → digest_Parse.l0 k s (m : Int) (i : Int) = some (parseN ((bytesOf s).drop i) m) := by
  induction d with
  | zero =>
    intro k i m hi hd hk hm
    obtain ⟨k, rfl⟩ : ∃ q, k = q + 1 := ⟨k - 1, by omega⟩
    have h16 : i = 16 := by omega
    subst h16
    rw [digest_Parse.l0, if_neg (by omega), List.drop_eq_nil_of_le (by rw [bytesOf_length]; omega)]
    rfl
  | succ d ih =>
    intro k i m hi hd hk hm
    obtain ⟨k, rfl⟩ : ∃ q, k = q + 2 := ⟨k - 2, by omega⟩
    have hm2 : m < 1152921504606846976 := Nat.lt_of_lt_of_le hm (pow16 i (by omega))
    have hr := bt_range s (i : Int)
    have e : wrap64 ((i : Int) + 1) = ((i + 1 : Nat) : Int) := by unfold wrap64; omega
    have hnext : ∀ v : Nat, v < 16 → m * 16 + v < 16 ^ (i + 1) := fun v hv => by rw [Nat.pow_succ]; omega
    rw [bytes_drop s i (by omega), digest_Parse.l0, if_pos (by omega), if_pos (by omega), if_pos (by omega)]
    generalize bt s (i : Int) = c at hr ⊢
    simp only [parseN]
    by_cases h48 : c ≥ 48
    · rw [if_pos h48]
      by_cases h57 : c ≤ 57
      · rw [decide_eq_true h57, digest_Parse.j1, if_pos rfl, if_pos ⟨h48, h57⟩]
        have ec : (c - 48) % 256 = (((c - 48).toNat : Nat) : Int) := by omega
        rw [ec, lay16 hm2 (by omega), e]
        exact ih k (i + 1) _ (by omega) (by omega) (by omega) (hnext _ (by omega))
      · have n48 : ¬ (48 ≤ c ∧ c ≤ 57) := by omega
        rw [decide_eq_false h57, digest_Parse.j1, if_neg (by decide), if_neg n48]
        by_cases h97 : 97 ≤ c ∧ c ≤ 102
        · rw [if_pos h97.1, if_pos h97.2, if_pos h97]
          have ec : ((c - 97) % 256 + 10) % 256 = (((c - 87).toNat : Nat) : Int) := by omega
          rw [ec, lay16 hm2 (by omega), e]
          exact ih k (i + 1) _ (by omega) (by omega) (by omega) (hnext _ (by omega))
        · rw [if_neg h97]
          by_cases h : c ≥ 97
          · rw [if_pos h, if_neg (by omega)]
          · rw [if_neg h]
    · rw [if_neg h48, digest_Parse.j1, if_neg (by decide), if_neg (by omega), if_neg (by omega), if_neg (by omega)]

theorem parse_eq (k : Nat) (hk : 40 ≤ k) (s : ByteArray) : digest_Parse.f k s = some (if s.size = 16 then parseN (bytesOf s) 0 else (0, 230)) := by
  unfold digest_Parse.f
  by_cases h : s.size = 16
  · rw [if_pos (by omega), if_pos h]
    exact parse_loop s h 16 k 0 0 (by omega) (by omega) (by omega) (by decide)
  · rw [if_neg (by omega), if_neg h]

theorem refparse_loop (s : ByteArray) (hs : s.size = 16) (d : Nat) : ∀ (k i m : Nat), i ≤ 16 → 16 - i = d → 2 * d < k → m < 16 ^ i → kauditref23_Parse.l0 k s (m : Int) (i : Int) = some (parseN ((bytesOf s).drop i) m) := by
  induction d with
  | zero =>
    intro k i m hi hd hk hm
    obtain ⟨k, rfl⟩ : ∃ q, k = q + 1 := ⟨k - 1, by omega⟩
    have h16 : i = 16 := by omega
    subst h16
    rw [kauditref23_Parse.l0, if_neg (by omega), List.drop_eq_nil_of_le (by rw [bytesOf_length]; omega)]
    rfl
  | succ d ih =>
    intro k i m hi hd hk hm
    obtain ⟨k, rfl⟩ : ∃ q, k = q + 2 := ⟨k - 2, by omega⟩
    have hm2 : m < 1152921504606846976 := Nat.lt_of_lt_of_le hm (pow16 i (by omega))
    have hr := bt_range s (i : Int)
    have e : wrap64 ((i : Int) + 1) = ((i + 1 : Nat) : Int) := by unfold wrap64; omega
    have hnext : ∀ v : Nat, v < 16 → m * 16 + v < 16 ^ (i + 1) := fun v hv => by rw [Nat.pow_succ]; omega
    rw [bytes_drop s i (by omega), kauditref23_Parse.l0, if_pos (by omega), if_pos (by omega)]
    generalize bt s (i : Int) = c at hr ⊢
    simp only [parseN]
    by_cases h48 : 48 ≤ c
    · rw [if_pos h48]
      by_cases h57 : c ≤ 57
      · rw [decide_eq_true h57, kauditref23_Parse.j1, if_pos rfl, if_pos ⟨h48, h57⟩]
        have ec : (c - 48) % 256 = (((c - 48).toNat : Nat) : Int) := by omega
        rw [ec, lay16 hm2 (by omega), e]
        exact ih k (i + 1) _ (by omega) (by omega) (by omega) (hnext _ (by omega))
      · have n48 : ¬ (48 ≤ c ∧ c ≤ 57) := by omega
        rw [decide_eq_false h57, kauditref23_Parse.j1, if_neg (by decide), if_neg n48]
        by_cases h97 : 97 ≤ c ∧ c ≤ 102
        · rw [if_pos h97.1, if_pos h97.2, if_pos h97]
          have ec : ((c - 97) % 256 + 10) % 256 = (((c - 87).toNat : Nat) : Int) := by omega
          rw [ec, lay16 hm2 (by omega), e]
          exact ih k (i + 1) _ (by omega) (by omega) (by omega) (hnext _ (by omega))
        · rw [if_neg h97]
          by_cases h : 97 ≤ c
          · rw [if_pos h, if_neg (by omega)]
          · rw [if_neg h]
    · rw [if_neg h48, kauditref23_Parse.j1, if_neg (by decide), if_neg (by omega), if_neg (by omega), if_neg (by omega)]

theorem refparse_eq (k : Nat) (hk : 40 ≤ k) (s : ByteArray) : kauditref23_Parse.f k s = some (if s.size = 16 then parseN (bytesOf s) 0 else (0, 230)) := by
  unfold kauditref23_Parse.f
  by_cases h : s.size = 16
  · rw [if_pos (by omega), if_pos h]
    exact refparse_loop s h 16 k 0 0 (by omega) (by omega) (by omega) (by decide)
  · rw [if_neg (by omega), if_neg h]

theorem parse_hex : ∀ (ds : List Nat) (m : Nat), (∀ d ∈ ds, d < 16) → parseN (ds.map hexI) m = (((valFrom m ds : Nat) : Int), 0)
  | [], m, _ => rfl
  | d :: r, m, h => by
    have hd := h d (List.mem_cons_self ..)
    have ih := fun m => parse_hex r m (fun x hx => h x (List.mem_cons_of_mem _ hx))
    simp only [List.map_cons, parseN, valFrom]
    rcases hexI_cases d hd with ⟨a, b, c⟩ | ⟨a, b, c⟩
    · rw [if_pos ⟨a, b⟩, ih]
      have : (hexI d - 48).toNat = d := by omega
      rw [this]
    · rw [if_neg (by omega), if_pos ⟨a, b⟩, ih]
      have : (hexI d - 87).toNat = d := by omega
      rw [this]

theorem parse_inv : ∀ (l : List Int) (m : Nat), (parseN l m).2 = 0 → ∃ ds : List Nat, l = ds.map hexI ∧ (∀ d ∈ ds, d < 16) ∧ parseN l m = (((valFrom m ds : Nat) : Int), 0)
  | [], m, _ => ⟨[], rfl, by simp, rfl⟩
  | c :: r, m, h => by
    simp only [parseN] at h ⊢
    by_cases h1 : 48 ≤ c ∧ c ≤ 57
    · rw [if_pos h1] at h ⊢
      obtain ⟨ds, e1, e2, e3⟩ := parse_inv r _ h
      refine ⟨(c - 48).toNat :: ds, ?_, ?_, ?_⟩
      · rw [List.map_cons, hexI_digit c h1.1 h1.2, e1]
      · intro d hd
        rcases List.mem_cons.1 hd with rfl | hd
        · omega
        · exact e2 d hd
      · rw [e3]; rfl
    · rw [if_neg h1] at h ⊢
      by_cases h2 : 97 ≤ c ∧ c ≤ 102
      · rw [if_pos h2] at h ⊢
        obtain ⟨ds, e1, e2, e3⟩ := parse_inv r _ h
        refine ⟨(c - 87).toNat :: ds, ?_, ?_, ?_⟩
        · rw [List.map_cons, hexI_letter c h2.1 h2.2, e1]
        · intro d hd
          rcases List.mem_cons.1 hd with rfl | hd
          · omega
          · exact e2 d hd
        · rw [e3]; rfl
      · rw [if_neg h2] at h
        simp at h

end Go.Proofs.Ytdgmjhfkaplneaa.Pure
