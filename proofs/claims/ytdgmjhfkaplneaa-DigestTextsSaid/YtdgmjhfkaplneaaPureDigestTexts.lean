/- How digests are written, and which texts are digests: kauditlaw23.DigestTexts returns true. Conditions: none beyond the kinds of the arguments and the form's own reach. -/
import Derived.Test.YtdgmjhfkaplneaaPAllx30
import Derived.Test.YtdgmjhfkaplneaaPureHex
namespace Go.Proofs.Ytdgmjhfkaplneaa.Pure
open Go.RowKit Go.Proofs.Ytdgmjhfkaplneaa.PAll Go.Proofs.YtdgmjhfkaplneaaW.PrintWords Go.Proofs.YtdgmjhfkaplneaaW.PrintLast Go.Proofs.YtdgmjhfkaplneaaW.PrintMore
set_option linter.unusedVariables false
set_option linter.unusedSimpArgs false

theorem word_bounds {a : Int} (h : (Lit.int .u64 a).wf = true) : 0 ≤ a ∧ a ≤ 18446744073709551615 := by
  simpa [Lit.wf, IntKind.min, IntKind.max, IntKind.bits, IntKind.signed] using h

theorem and15 {x : Nat} (hx : x < 18446744073709551616) : Go.bits .and .u64 (x : Int) 15 = ((x % 16 : Nat) : Int) := by
  have e : (15 : Int) = ((15 : Nat) : Int) := rfl
  rw [e, and_int hx (by omega)]
  congr 1
  exact Nat.and_two_pow_sub_one_eq_mod x 4

/-- One digit is written. -/
theorem fmt_step (n : Nat) (hn : n < 18446744073709551616) (k i j : Nat) (xs : List Int) (hl : xs.length = 16) (hi : i < 16) (hj : 2 ^ (60 - 4 * i) = j) :
    digest_Format.l0 (k + 1) (n : Int) xs 16 (i : Int) = digest_Format.l0 k (n : Int) (xs.set i (hexI (n / j % 16))) 16 ((i + 1 : Nat) : Int) := by
  have e1 : wrap64 (4 * (i : Int)) = 4 * (i : Int) := by unfold wrap64; omega
  have e2 : wrap64 (60 - 4 * (i : Int)) = ((60 - 4 * i : Nat) : Int) := by unfold wrap64; omega
  have e3 : wrap64 ((i : Int) + 1) = ((i + 1 : Nat) : Int) := by unfold wrap64; omega
  have e4 : shr .u64 (n : Int) ((60 - 4 * i : Nat) : Int) = ((n / j : Nat) : Int) := by
    unfold shr
    have : min ((60 - 4 * i : Nat) : Int).toNat IntKind.u64.bits = 60 - 4 * i := by simp [IntKind.bits]; omega
    rw [this, ← hj, Int.natCast_ediv, Int.natCast_pow]
    rfl
  have hlt : n / j < 18446744073709551616 := Nat.lt_of_le_of_lt (Nat.div_le_self _ _) hn
  rw [digest_Format.l0, if_pos (by omega), e1, e2, if_pos (by omega), e4, and15 hlt, if_pos (by omega), if_pos (by omega), if_pos (by omega), if_pos (by omega), table_at _ (by omega), e3]
  rfl

theorem fmt_eq (k : Nat) (hk : 20 ≤ k) (n : Nat) (hn : n < 18446744073709551616) : digest_Format.f k (n : Int) = some (hexBA (nibs n)) := by
  refine leo_up (fun k => digest_Format.mono _ k) (?_ : digest_Format.f 20 _ = _) k hk
  unfold digest_Format.f
  rw [if_pos (by omega)]
  simp only [Option.bind_some]
  rw [show (((List.replicate 16 (0 : Int)).length : Nat) : Int) = 16 from rfl]
  have z : (0 : Int) = ((0 : Nat) : Int) := rfl
  have go : ∀ (k i : Nat) (j : Nat) (xs : List Int), xs.length = 16 → i < 16 → 2 ^ (60 - 4 * i) = j → digest_Format.l0 (k + 1) (n : Int) xs 16 (i : Int) = digest_Format.l0 k (n : Int) (xs.set i (hexI (n / j % 16))) 16 ((i + 1 : Nat) : Int) := fun k i j xs a b c => fmt_step n hn k i j xs a b c
  have s0 := go 19 0 1152921504606846976 (List.replicate 16 0) rfl (by omega) (by decide)
  rw [show ((0 : Nat) : Int) = 0 from rfl] at s0
  rw [s0, go 18 1 72057594037927936 _ (by simp) (by omega) (by decide), go 17 2 4503599627370496 _ (by simp) (by omega) (by decide), go 16 3 281474976710656 _ (by simp) (by omega) (by decide), go 15 4 17592186044416 _ (by simp) (by omega) (by decide), go 14 5 1099511627776 _ (by simp) (by omega) (by decide), go 13 6 68719476736 _ (by simp) (by omega) (by decide), go 12 7 4294967296 _ (by simp) (by omega) (by decide), go 11 8 268435456 _ (by simp) (by omega) (by decide), go 10 9 16777216 _ (by simp) (by omega) (by decide), go 9 10 1048576 _ (by simp) (by omega) (by decide), go 8 11 65536 _ (by simp) (by omega) (by decide), go 7 12 4096 _ (by simp) (by omega) (by decide), go 6 13 256 _ (by simp) (by omega) (by decide), go 5 14 16 _ (by simp) (by omega) (by decide), go 4 15 1 _ (by simp) (by omega) (by decide)]
  rw [digest_Format.l0, if_neg (by omega)]
  rw [← strOf_hex]
  congr 2
  rw [Nat.div_one]
  rfl

/-- The reference writes one byte: two digits. -/
theorem reffmt_step (l : List Int) (k i b : Nat) (ds : List Nat) (hl : l.length = 8) (hi : i < 8) (hb : b < 256) (hr : rd l (i : Int) = (b : Int)) (hd : ds.length ≤ 100) :
    kauditref23_Format.l0 (k + 1) (hexBA ds) l 8 (i : Int) = kauditref23_Format.l0 k (hexBA (ds ++ [b / 16, b % 16])) l 8 ((i + 1 : Nat) : Int) := by
  have e3 : wrap64 ((i : Int) + 1) = ((i + 1 : Nat) : Int) := by unfold wrap64; omega
  have e1 : (b : Int) / 16 = ((b / 16 : Nat) : Int) := by omega
  have e2 : Go.bits .and .u8 (b : Int) 15 = ((b % 16 : Nat) : Int) := by
    have h : Go.bits .and .u8 (b : Int) 15 = (b : Int) % 16 := u8_and15 (x := (b : Int)) (by omega) (by omega)
    rw [h]; omega
  have n1 : (((b / 16 : Nat) : Int) + 1) % 256 = ((b / 16 + 1 : Nat) : Int) := by omega
  have n2 : (((b % 16 : Nat) : Int) + 1) % 256 = ((b % 16 + 1 : Nat) : Int) := by omega
  have t1 : table.extract (((b / 16 : Nat) : Int)).toNat (((b / 16 + 1 : Nat) : Int)).toNat = ⟨#[hexU (b / 16)]⟩ := by
    rw [Int.toNat_natCast, Int.toNat_natCast]
    exact table_cut _ (by omega)
  have t2 : table.extract (((b % 16 : Nat) : Int)).toNat (((b % 16 + 1 : Nat) : Int)).toNat = ⟨#[hexU (b % 16)]⟩ := by
    rw [Int.toNat_natCast, Int.toNat_natCast]
    exact table_cut _ (by omega)
  have hs : (hexBA ds).size = ds.length := by simp [hexBA, ByteArray.size]
  rw [kauditref23_Format.l0, if_pos (by omega), if_pos (by omega), if_pos (by omega), hr, e1, e2, n1, n2, t1, t2, e3]
  rw [if_pos (by omega), if_pos (by omega), if_pos (by omega), if_pos (by omega), if_pos (by omega), if_pos (by omega)]
  have z1 : (⟨#[hexU (b / 16)]⟩ : ByteArray).size = 1 := rfl
  have z2 : (⟨#[hexU (b % 16)]⟩ : ByteArray).size = 1 := rfl
  have z3 : ((⟨#[hexU (b / 16)]⟩ : ByteArray) ++ (⟨#[hexU (b % 16)]⟩ : ByteArray)).size = 2 := by rw [ByteArray.size_append]; rfl
  rw [if_pos (by rw [z1, z2]; omega), if_pos (by rw [hs, z3]; omega), hexBA_app]

theorem reffmt_eq (k : Nat) (hk : 20 ≤ k) (n : Nat) (hn : n < 18446744073709551616) : kauditref23_Format.f k (n : Int) = some (hexBA (nibs n)) := by
  refine leo_up (fun k => kauditref23_Format.mono _ k) (?_ : kauditref23_Format.f 20 _ = _) k hk
  unfold kauditref23_Format.f
  rw [show kauditref23_Put.f 20 (n : Int) = some (putL (n : Int)) from leo_up (fun k => kauditref23_Put.mono (n : Int) k) (show kauditref23_Put.f 10 (n : Int) = some (putL (n : Int)) by kernel_rfl) 20 (by omega)]
  simp only [Option.bind_some]
  have hp : putL (n : Int) = [((n / 72057594037927936 % 256 : Nat) : Int), ((n / 281474976710656 % 256 : Nat) : Int), ((n / 1099511627776 % 256 : Nat) : Int), ((n / 4294967296 % 256 : Nat) : Int), ((n / 16777216 % 256 : Nat) : Int), ((n / 65536 % 256 : Nat) : Int), ((n / 256 % 256 : Nat) : Int), ((n % 256 : Nat) : Int)] := by
    unfold putL shr
    simp [IntKind.bits]
  rw [hp]
  generalize hL : [((n / 72057594037927936 % 256 : Nat) : Int), ((n / 281474976710656 % 256 : Nat) : Int), ((n / 1099511627776 % 256 : Nat) : Int), ((n / 4294967296 % 256 : Nat) : Int), ((n / 16777216 % 256 : Nat) : Int), ((n / 65536 % 256 : Nat) : Int), ((n / 256 % 256 : Nat) : Int), ((n % 256 : Nat) : Int)] = L
  have hlen : L.length = 8 := by rw [← hL]; rfl
  rw [show ((L.length : Nat) : Int) = 8 by rw [hlen]; rfl, show (⟨#[]⟩ : ByteArray) = hexBA [] from rfl]
  have s0 := reffmt_step L 19 0 (n / 72057594037927936 % 256) [] hlen (by omega) (by omega) (by rw [← hL]; rfl) (by simp)
  rw [show ((0 : Nat) : Int) = 0 from rfl] at s0
  rw [s0, reffmt_step L 18 1 (n / 281474976710656 % 256) _ hlen (by omega) (by omega) (by rw [← hL]; rfl) (by simp), reffmt_step L 17 2 (n / 1099511627776 % 256) _ hlen (by omega) (by omega) (by rw [← hL]; rfl) (by simp), reffmt_step L 16 3 (n / 4294967296 % 256) _ hlen (by omega) (by omega) (by rw [← hL]; rfl) (by simp), reffmt_step L 15 4 (n / 16777216 % 256) _ hlen (by omega) (by omega) (by rw [← hL]; rfl) (by simp), reffmt_step L 14 5 (n / 65536 % 256) _ hlen (by omega) (by omega) (by rw [← hL]; rfl) (by simp), reffmt_step L 13 6 (n / 256 % 256) _ hlen (by omega) (by omega) (by rw [← hL]; rfl) (by simp), reffmt_step L 12 7 (n % 256) _ hlen (by omega) (by omega) (by rw [← hL]; rfl) (by simp)]
  rw [kauditref23_Format.l0, if_neg (by omega)]
  congr 2
  have q1 : ∀ x : Nat, x % 256 / 16 = x / 16 % 16 := by intro x; omega
  have q2 : ∀ x : Nat, x % 256 % 16 = x % 16 := by intro x; omega
  simp only [q1, q2, Nat.div_div_eq_div_mul, List.nil_append, List.cons_append, nibs]

theorem begun_bind (b : Option Bool) (h : b = some true) : (b.bind fun t => some t) = some true := by
  subst h
  rfl

theorem DigestTexts : kauditlaw23_DigestTexts.Pure := by
  intro d s hd hs
  have bd := word_bounds hd
  obtain ⟨n, rfl⟩ : ∃ n : Nat, d = (n : Int) := ⟨d.toNat, by omega⟩
  have hn : n < 18446744073709551616 := by omega
  have h16 : (hexBA (nibs n)).size = 16 := by simp [hexBA, ByteArray.size, nibs]
  have hpn : parseN (bytesOf (hexBA (nibs n))) 0 = ((n : Int), 0) := by
    have e : bytesOf (hexBA (nibs n)) = (nibs n).map hexI := by simp [bytesOf, hexBA, hexI]
    rw [e, nibs_digs, parse_hex _ 0 (digs_lt 16 n), val_digs]
    rw [Nat.mod_eq_of_lt (by have : (16 : Nat) ^ 16 = 18446744073709551616 := by decide
                             omega)]
  refine ⟨50, ?_⟩
  unfold kauditlaw23_DigestTexts.f
  rw [fmt_eq 50 (by omega) n hn, reffmt_eq 50 (by omega) n hn]
  simp only [Option.bind_some]
  rw [parse_eq 50 (by omega), parse_eq 50 (by omega), refparse_eq 50 (by omega), if_pos h16, hpn]
  simp only [Option.bind_some]
  simp only [if_true]
  by_cases hz : (if s.size = 16 then parseN (bytesOf s) 0 else ((0 : Int), (230 : Int))).2 = 0
  · rw [if_pos hz]
    by_cases h : s.size = 16
    · rw [if_pos h] at hz ⊢
      obtain ⟨ds, e1, e2, e3⟩ := parse_inv (bytesOf s) 0 hz
      have hlen : ds.length = 16 := by
        have := congrArg List.length e1
        rw [bytesOf_length, List.length_map] at this
        omega
      have hv : valFrom 0 ds < 18446744073709551616 := by
        have h1 := val_digs 16 (valFrom 0 ds)
        rw [digs_val 16 ds hlen e2] at h1
        have h2 := Nat.mod_lt (valFrom 0 ds) (show 0 < 16 ^ 16 by decide)
        have h3 : (16 : Nat) ^ 16 = 18446744073709551616 := by decide
        omega
      rw [e3]
      simp only
      rw [fmt_eq 50 (by omega) _ hv, nibs_digs, digs_val 16 ds hlen e2, ← strOf_hex, ← e1, strOf_bytes]
      simp only [Option.bind_some, if_true]
      exact begun_bind _ (begun_true 50 (by omega))
    · rw [if_neg h] at hz
      simp at hz
  · rw [if_neg hz]
    exact begun_bind _ (begun_true 50 (by omega))

end Go.Proofs.Ytdgmjhfkaplneaa.Pure
