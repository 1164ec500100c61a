/- The bytes of a digest, and which digest bytes begin with: kauditlaw23.DigestBytes returns true. Conditions: none beyond the kinds of the arguments and the form's own reach. -/
import Derived.Test.YtdgmjhfkaplneaaPAllx25
import Derived.Test.YtdgmjhfkaplneaaPure0
import Derived.Test.YtdgmjhfkaplneaaPureBits
namespace Go.Proofs.Ytdgmjhfkaplneaa.Pure
open Go.RowKit Go.Proofs.Ytdgmjhfkaplneaa.PAll Go.Proofs.YtdgmjhfkaplneaaW.PrintWords Go.Proofs.YtdgmjhfkaplneaaW.PrintLast Go.Proofs.YtdgmjhfkaplneaaW.PrintMore
set_option linter.unusedVariables false
set_option linter.unusedSimpArgs false

theorem byte_bounds {a : Int} (h : (Lit.int .u8 a).wf = true) : 0 ≤ a ∧ a ≤ 255 := by
  simpa [Lit.wf, IntKind.min, IntKind.max, IntKind.bits, IntKind.signed] using h

theorem u64_bounds {a : Int} (h : (Lit.int .u64 a).wf = true) : 0 ≤ a ∧ a ≤ 18446744073709551615 := by
  simpa [Lit.wf, IntKind.min, IntKind.max, IntKind.bits, IntKind.signed] using h

theorem refput_eq (k : Nat) (hk : 10 ≤ k) (d : Int) : kauditref23_Put.f k d = some (putL d) := by
  refine leo_up (fun k => kauditref23_Put.mono d k) (?_ : kauditref23_Put.f 10 d = some (putL d)) k hk
  kernel_rfl

/-- A byte is laid below a word. -/
theorem lay_below {m c : Nat} (hm : m < 72057594037927936) (hc : c < 256) : Go.bits .or .u64 (IntKind.u64.wrap ((m : Int) * 256)) (IntKind.u64.wrap (c : Int)) = ((m * 256 + c : Nat) : Int) := by
  have e1 : (m : Int) * 256 = ((256 * m : Nat) : Int) := by omega
  rw [e1, wrap_lt (by omega), wrap_lt (by omega), or_int (by omega) (by omega)]
  congr 1
  have := Nat.two_pow_add_eq_or_of_lt (i := 8) (b := c) (by omega) m
  have e2 : (2 : Nat) ^ 8 = 256 := by decide
  rw [e2] at this
  omega

def be8 (l : List Int) : Int := ((dig (l.map Int.toNat).reverse : Nat) : Int)

theorem list8 (l : List Int) (h : l.length = 8) (hb : ∀ x ∈ l, 0 ≤ x ∧ x ≤ 255) : ∃ b0 b1 b2 b3 b4 b5 b6 b7 : Nat, Bytes8 b0 b1 b2 b3 b4 b5 b6 b7 ∧ l = [(b0 : Int), b1, b2, b3, b4, b5, b6, b7] := by
  match l, h with
  | [x0, x1, x2, x3, x4, x5, x6, x7], _ =>
    have h0 := hb x0 (by simp)
    have h1 := hb x1 (by simp)
    have h2 := hb x2 (by simp)
    have h3 := hb x3 (by simp)
    have h4 := hb x4 (by simp)
    have h5 := hb x5 (by simp)
    have h6 := hb x6 (by simp)
    have h7 := hb x7 (by simp)
    refine ⟨x0.toNat, x1.toNat, x2.toNat, x3.toNat, x4.toNat, x5.toNat, x6.toNat, x7.toNat, by unfold Bytes8; omega, ?_⟩
    rw [Int.toNat_of_nonneg h0.1, Int.toNat_of_nonneg h1.1, Int.toNat_of_nonneg h2.1, Int.toNat_of_nonneg h3.1, Int.toNat_of_nonneg h4.1, Int.toNat_of_nonneg h5.1, Int.toNat_of_nonneg h6.1, Int.toNat_of_nonneg h7.1]

theorem be8_of (b0 b1 b2 b3 b4 b5 b6 b7 : Nat) : be8 [(b0 : Int), b1, b2, b3, b4, b5, b6, b7] = ((dig [b7, b6, b5, b4, b3, b2, b1, b0] : Nat) : Int) := by
  unfold be8
  simp only [List.map_cons, List.map_nil, Int.toNat_natCast]
  rfl

theorem take_eq (k : Nat) (hk : 10 ≤ k) (l : List Int) (hb : ∀ x ∈ l, 0 ≤ x ∧ x ≤ 255) : digest_Take.f k l = some (if l.length < 8 then (0, false) else (be8 (l.take 8), true)) := by
  unfold digest_Take.f
  by_cases h : l.length < 8
  · rw [if_pos (by omega), if_pos h]
  · rw [if_neg (by omega), if_neg h, if_pos (by omega)]
    obtain ⟨b0, b1, b2, b3, b4, b5, b6, b7, hB, e⟩ := list8 (l.take 8) (by rw [List.length_take]; omega) (fun x hx => hb x (List.mem_of_mem_take hx))
    obtain ⟨h0, h1, h2, h3, h4, h5, h6, h7⟩ := id hB
    rw [e]
    have hw : digest_word.f k [(b0 : Int), b1, b2, b3, b4, b5, b6, b7] = some ((dig [b0, b1, b2, b3, b4, b5, b6, b7] : Nat) : Int) := by
      refine leo_up (fun k => digest_word.mono _ k) (?_ : digest_word.f 10 _ = _) k hk
      rw [word_eq _ (by simp)]
      congr 1
      exact wordOf_dig [b0, b1, b2, b3, b4, b5, b6, b7] (by simp; omega) (by simp)
    rw [hw]
    simp only [Option.bind_some]
    rw [rev_bytes hB]
    simp only [Option.bind_some]
    rw [be8_of]

theorem reftake_eq (k : Nat) (hk : 10 ≤ k) (l : List Int) (hb : ∀ x ∈ l, 0 ≤ x ∧ x ≤ 255) : kauditref23_Take.f k l = some (if l.length < 8 then (0, false) else (be8 (l.take 8), true)) := by
  refine leo_up (fun k => kauditref23_Take.mono _ k) (?_ : kauditref23_Take.f 10 l = _) k hk
  unfold kauditref23_Take.f
  by_cases h : l.length < 8
  · rw [if_pos (by omega), if_pos h]
  · rw [if_neg (by omega), if_neg h, if_pos (by omega)]
    obtain ⟨b0, b1, b2, b3, b4, b5, b6, b7, hB, e⟩ := list8 (l.take 8) (by rw [List.length_take]; omega) (fun x hx => hb x (List.mem_of_mem_take hx))
    obtain ⟨h0, h1, h2, h3, h4, h5, h6, h7⟩ := id hB
    rw [e]
    have step : ∀ (k m i : Nat) (c : Nat), i < 8 → m < 256 ^ i → m < 72057594037927936 → c < 256 → rd [(b0 : Int), b1, b2, b3, b4, b5, b6, b7] (i : Int) = c →
        kauditref23_Take.l0 (k + 1) (m : Int) [(b0 : Int), b1, b2, b3, b4, b5, b6, b7] 8 (i : Int) = kauditref23_Take.l0 k ((m * 256 + c : Nat) : Int) [(b0 : Int), b1, b2, b3, b4, b5, b6, b7] 8 ((i + 1 : Nat) : Int) := by
      intro k m i c hi _ hm hc hr
      have hl : (([(b0 : Int), b1, b2, b3, b4, b5, b6, b7].length : Nat) : Int) = 8 := rfl
      rw [kauditref23_Take.l0, if_pos (by omega), if_pos (by omega), hl, if_pos (by omega), hr, lay_below hm hc]
      have e : wrap64 ((i : Int) + 1) = ((i + 1 : Nat) : Int) := by unfold wrap64; omega
      rw [e]
    have hl : (([(b0 : Int), b1, b2, b3, b4, b5, b6, b7].length : Nat) : Int) = 8 := rfl
    rw [hl, be8_of]
    have s0 := step 9 0 0 b0 (by omega) (by omega) (by omega) h0 rfl
    have s1 := step 8 _ 1 b1 (by omega) (by omega) (by omega) h1 rfl
    rw [show ((0 : Nat) : Int) = 0 from rfl] at s0
    rw [s0, step 8 _ 1 b1 (by omega) (by omega) (by omega) h1 rfl, step 7 _ 2 b2 (by omega) (by omega) (by omega) h2 rfl, step 6 _ 3 b3 (by omega) (by omega) (by omega) h3 rfl, step 5 _ 4 b4 (by omega) (by omega) (by omega) h4 rfl, step 4 _ 5 b5 (by omega) (by omega) (by omega) h5 rfl, step 3 _ 6 b6 (by omega) (by omega) (by omega) h6 rfl, step 2 _ 7 b7 (by omega) (by omega) (by omega) h7 rfl]
    rw [kauditref23_Take.l0, if_neg (by omega)]
    congr 3
    simp only [dig]
    omega

theorem putL_nat (n : Nat) : putL (n : Int) = [((n / 72057594037927936 % 256 : Nat) : Int), ((n / 281474976710656 % 256 : Nat) : Int), ((n / 1099511627776 % 256 : Nat) : Int), ((n / 4294967296 % 256 : Nat) : Int), ((n / 16777216 % 256 : Nat) : Int), ((n / 65536 % 256 : Nat) : Int), ((n / 256 % 256 : Nat) : Int), ((n % 256 : Nat) : Int)] := by
  unfold putL shr
  simp [IntKind.bits]

theorem put_be (n : Nat) (hn : n < 18446744073709551616) : be8 (putL (n : Int)) = (n : Int) := by
  rw [putL_nat, be8_of]
  congr 1
  have e2 : n / 65536 = n / 256 / 256 := by rw [Nat.div_div_eq_div_mul]
  have e3 : n / 16777216 = n / 256 / 256 / 256 := by rw [Nat.div_div_eq_div_mul, Nat.div_div_eq_div_mul]
  have e4 : n / 4294967296 = n / 256 / 256 / 256 / 256 := by rw [Nat.div_div_eq_div_mul, Nat.div_div_eq_div_mul, Nat.div_div_eq_div_mul]
  have e5 : n / 1099511627776 = n / 256 / 256 / 256 / 256 / 256 := by rw [Nat.div_div_eq_div_mul, Nat.div_div_eq_div_mul, Nat.div_div_eq_div_mul, Nat.div_div_eq_div_mul]
  have e6 : n / 281474976710656 = n / 256 / 256 / 256 / 256 / 256 / 256 := by rw [Nat.div_div_eq_div_mul, Nat.div_div_eq_div_mul, Nat.div_div_eq_div_mul, Nat.div_div_eq_div_mul, Nat.div_div_eq_div_mul]
  have e7 : n / 72057594037927936 = n / 256 / 256 / 256 / 256 / 256 / 256 / 256 := by rw [Nat.div_div_eq_div_mul, Nat.div_div_eq_div_mul, Nat.div_div_eq_div_mul, Nat.div_div_eq_div_mul, Nat.div_div_eq_div_mul, Nat.div_div_eq_div_mul]
  rw [e2, e3, e4, e5, e6, e7]
  simp only [dig]
  omega

theorem putL_bytes (n : Nat) : ∀ x ∈ putL (n : Int), 0 ≤ x ∧ x ≤ 255 := by
  rw [putL_nat]
  intro x hx
  simp only [List.mem_cons, List.not_mem_nil, or_false] at hx
  omega

theorem bytes_fin (d : Int) (is : Bool) (b : Option Bool) (hb : b = some true) :
    (if (d, true).2 = true then (if (d, true).1 = d then (if True then (if (is == is) = true then (if True then (b.bind fun t => some t) else some false) else some false) else some false) else some false) else some false) = some true := by
  subst hb
  simp

theorem DigestBytes : kauditlaw23_DigestBytes.Pure := by
  intro d l hd hm hl hw
  have bd := u64_bounds hd
  obtain ⟨n, rfl⟩ : ∃ n : Nat, d = (n : Int) := ⟨d.toNat, by omega⟩
  have hb : ∀ x ∈ l, 0 ≤ x ∧ x ≤ 255 := fun x hx => byte_bounds (hw x hx)
  have hpb := putL_bytes n
  have hlen : (putL (n : Int)).length = 8 := rfl
  refine ⟨20, ?_⟩
  unfold kauditlaw23_DigestBytes.f
  rw [put_eq 20 (by omega), refput_eq 20 (by omega)]
  simp only [Option.bind_some]
  rw [if_pos (by omega), take_eq 20 (by omega) _ (by
    intro x hx
    rcases List.mem_append.1 hx with h | h
    · exact hpb x h
    · exact hb x h), take_eq 20 (by omega) l hb, reftake_eq 20 (by omega) l hb]
  simp only [Option.bind_some]
  have hlen2 : ¬ (putL (n : Int) ++ l).length < 8 := by rw [List.length_append]; omega
  rw [if_neg hlen2]
  have htk : (putL (n : Int) ++ l).take 8 = putL (n : Int) := rfl
  rw [htk, put_be n (by omega)]
  generalize (if l.length < 8 then ((0 : Int), false) else (be8 (l.take 8), true)) = p
  exact bytes_fin (n : Int) p.2 _ (begun_true 20 (by omega))

end Go.Proofs.Ytdgmjhfkaplneaa.Pure
