/- The keys of the program are the reference's: kauditlaw23.DigestKeys returns true. Conditions: none beyond the kinds of the arguments and the form's own reach. -/
import Derived.Test.YtdgmjhfkaplneaaPAllx21
import Derived.Test.YtdgmjhfkaplneaaPure0
namespace Go.Proofs.Ytdgmjhfkaplneaa.Pure
open Go.RowKit Go.Proofs.Ytdgmjhfkaplneaa.PAll Go.Proofs.YtdgmjhfkaplneaaW.PrintWords Go.Proofs.YtdgmjhfkaplneaaW.PrintLast Go.Proofs.YtdgmjhfkaplneaaW.PrintMore
set_option linter.unusedVariables false
set_option linter.unusedSimpArgs false

/-- The state and the word after the bytes of a list, the word's next byte being the one at j. -/
def sipG : List Int → Nat → Int → Int × Int × Int × Int → (Int × Int × Int × Int) × Int
  | [], _, m, s => (s, m)
  | c :: r, j, m, s => if j = 7 then sipG r 0 0 (sipTake s (Go.bits .or .u64 m (shl .u64 (IntKind.u64.wrap c) (8 * j)))) else sipG r (j + 1) (Go.bits .or .u64 m (shl .u64 (IntKind.u64.wrap c) (8 * j))) s

theorem rounds2 (a b c d : Int) (n : Nat) (hn : n ≤ 100) : kauditref23_words_rounds.f a b c d (n : Int) = some (sipRounds n (a, b, c, d)) := by
  unfold kauditref23_words_rounds.f
  rw [if_pos (by omega), Int.toNat_natCast]

theorem reftake (s : Int × Int × Int × Int) (m : Int) : kauditref23_words_take.f s.1 s.2.1 s.2.2.1 s.2.2.2 m = some (sipTake s m) := by
  unfold kauditref23_words_take.f sipTake
  have h := rounds2 s.1 s.2.1 s.2.2.1 (Go.bits .xor .u64 s.2.2.2 m) 2 (by omega)
  rw [show ((2 : Nat) : Int) = 2 from rfl] at h
  rw [h]
  rfl

def sipFin (n : Int) (p : (Int × Int × Int × Int) × Int) : Int := sipEnd (sipTake p.1 (Go.bits .or .u64 p.2 (n % 256 * 72057594037927936)))

def xor4 (u : Int × Int × Int × Int) : Int := Go.bits .xor .u64 (Go.bits .xor .u64 (Go.bits .xor .u64 u.1 u.2.1) u.2.2.1) u.2.2.2

theorem sipEnd_eq (t : Int × Int × Int × Int) : sipEnd t = xor4 (sipRounds 4 (t.1, t.2.1, Go.bits .xor .u64 t.2.2.1 255, t.2.2.2)) := by
  unfold sipEnd
  generalize sipRounds 4 (t.1, t.2.1, Go.bits .xor .u64 t.2.2.1 255, t.2.2.2) = u
  obtain ⟨u0, u1, u2, u3⟩ := u
  rfl

theorem roundsG (n : Nat) (m : Int) (hm : m = (n : Int)) (hn : n ≤ 100) (a b c d : Int) : kauditref23_words_rounds.f a b c d m = some (sipRounds n (a, b, c, d)) := by
  subst hm
  exact rounds2 a b c d n hn

theorem endG (n : Nat) (m : Int) (hm : m = (n : Int)) (hn : n ≤ 100) (t : Int × Int × Int × Int) : ((kauditref23_words_rounds.f t.1 t.2.1 (Go.bits .xor .u64 t.2.2.1 255) t.2.2.2 m).bind fun bt121 => (some (xor4 bt121))) = some (xor4 (sipRounds n (t.1, t.2.1, Go.bits .xor .u64 t.2.2.1 255, t.2.2.2))) := by
  rw [roundsG n m hm hn, Option.bind_some]

theorem reffin1 (m : Int) (s : Int × Int × Int × Int) : ((kauditref23_words_take.f s.1 s.2.1 s.2.2.1 s.2.2.2 m).bind fun bt117 => ((kauditref23_words_rounds.f bt117.1 bt117.2.1 (Go.bits .xor .u64 bt117.2.2.1 255) bt117.2.2.2 4).bind fun bt121 => (some (xor4 bt121)))) = some (sipEnd (sipTake s m)) := by
  rw [reftake, Option.bind_some, sipEnd_eq]
  generalize sipTake s m = t
  exact endG 4 4 rfl (by omega) t

theorem reffin (n m : Int) (s : Int × Int × Int × Int) : ((kauditref23_words_take.f s.1 s.2.1 s.2.2.1 s.2.2.2 (Go.bits .or .u64 m (n % 256 * 72057594037927936))).bind fun bt117 => ((kauditref23_words_rounds.f bt117.1 bt117.2.1 (Go.bits .xor .u64 bt117.2.2.1 255) bt117.2.2.2 4).bind fun bt121 => (some (Go.bits .xor .u64 (Go.bits .xor .u64 (Go.bits .xor .u64 bt121.1 bt121.2.1) bt121.2.2.1) bt121.2.2.2)))) = some (sipFin n (s, m)) := by
  unfold sipFin
  generalize Go.bits .or .u64 m (n % 256 * 72057594037927936) = x
  exact reffin1 x s

theorem ref_loop (l : List Int) (hlen : l.length < 9223372036854775807) (d : Nat) : ∀ (k i : Nat) (m : Int) (s : Int × Int × Int × Int), l.length - i = d → d < k →
    kauditref23_Sum.l0 k l m l (l.length : Int) (i : Int) s.1 s.2.1 s.2.2.1 s.2.2.2 = some (sipFin (l.length : Int) (sipG (l.drop i) (i % 8) m s)) := by
  induction d with
  | zero =>
    intro k i m s hd hk
    obtain ⟨k, rfl⟩ : ∃ q, k = q + 1 := ⟨k - 1, by omega⟩
    rw [kauditref23_Sum.l0, if_neg (by omega), List.drop_eq_nil_of_le (by omega)]
    exact reffin _ m s
  | succ d ih =>
    intro k i m s hd hk
    obtain ⟨k, rfl⟩ : ∃ q, k = q + 1 := ⟨k - 1, by omega⟩
    have e0 : Int.tmod (i : Int) 8 = ((i % 8 : Nat) : Int) := show Int.tmod (Int.ofNat i) (Int.ofNat 8) = Int.ofNat (i % 8) from rfl
    have e1 : wrap64 (8 * Int.tmod (i : Int) 8) = 8 * ((i % 8 : Nat) : Int) := by rw [e0]; unfold wrap64; omega
    have e2 : wrap64 ((i : Int) + 1) = ((i + 1 : Nat) : Int) := by unfold wrap64; omega
    rw [kauditref23_Sum.l0, if_pos (by omega), if_pos (by omega), if_pos (by omega), e1, if_pos (by omega), e2, rd_drop l i (by omega), e0, sipG]
    by_cases h7 : i % 8 = 7
    · rw [if_pos (by omega), if_pos h7, reftake, Option.bind_some, ih k (i + 1) 0 _ (by omega) (by omega)]
      have : (i + 1) % 8 = 0 := by omega
      rw [this]
    · rw [if_neg (by omega), if_neg h7, ih k (i + 1) _ s (by omega) (by omega)]
      have : (i + 1) % 8 = i % 8 + 1 := by omega
      rw [this]

theorem sipG_few : ∀ (r : List Int) (j : Nat) (m : Int) (s : Int × Int × Int × Int), j + r.length < 8 → sipG r j m s = (s, wordFrom m j r)
  | [], _, _, _, _ => rfl
  | c :: r, j, m, s, h => by
    simp only [List.length_cons] at h
    rw [sipG, if_neg (by omega), sipG_few r (j + 1) _ s (by omega)]
    rfl

theorem sipG_eight : ∀ (r : List Int) (j : Nat) (m : Int) (s : Int × Int × Int × Int), j < 8 → 8 ≤ j + r.length → sipG r j m s = sipG (r.drop (8 - j)) 0 0 (sipTake s (wordFrom m j (r.take (8 - j))))
  | [], j, _, _, hj, h => by simp only [List.length_nil] at h; omega
  | c :: r, j, m, s, hj, h => by
    simp only [List.length_cons] at h
    rw [sipG]
    by_cases h7 : j = 7
    · subst h7
      rw [if_pos rfl]
      rfl
    · rw [if_neg h7, sipG_eight r (j + 1) _ s (by omega) (by omega)]
      have e : 8 - j = (8 - (j + 1)) + 1 := by omega
      rw [e, List.drop_succ_cons, List.take_succ_cons]
      rfl

theorem sipG_all (n : Nat) : ∀ (l : List Int) (s : Int × Int × Int × Int), l.length / 8 = n → sipG l 0 0 s = (sipLoop n s l, wordOf (l.drop (8 * n))) := by
  induction n with
  | zero =>
    intro l s h
    rw [sipG_few l 0 0 s (by omega)]
    rfl
  | succ n ih =>
    intro l s h
    rw [sipG_eight l 0 0 s (by omega) (by omega), ih (l.drop 8) _ (by rw [List.length_drop]; omega), List.drop_drop]
    have e : 8 + 8 * n = 8 * (n + 1) := by omega
    rw [e]
    rfl

theorem or_comm64 (a b : Int) : Go.bits .or .u64 a b = Go.bits .or .u64 b a := by
  unfold Go.bits
  simp only []
  rw [BitVec.or_comm]

theorem refSum_eq (k : Nat) (k0 k1 : Int) (l : List Int) (hlen : l.length < 9223372036854775807) (hk : l.length < k) : kauditref23_Sum.f k k0 k1 l = some (sip k0 k1 l) := by
  unfold kauditref23_Sum.f
  have h := ref_loop l hlen l.length k 0 0 (sipBegin k0 k1) (by omega) hk
  rw [show ((0 : Nat) : Int) = 0 from rfl] at h
  refine h.trans ?_
  rw [List.drop_zero, show 0 % 8 = 0 from rfl, sipG_all (l.length / 8) l (sipBegin k0 k1) rfl]
  unfold sipFin sip
  have e : IntKind.u64.wrap (IntKind.u64.wrap (l.length : Int) * 72057594037927936) = (l.length : Int) % 256 * 72057594037927936 := by
    rw [IntKind.wrap_u64, IntKind.wrap_u64]
    omega
  rw [e, or_comm64]

/-- The key that follows. -/
def nextP (s : Int × Int) : Int × Int := (sip s.1 s.2 [107, 101, 121, 32, 48], sip s.1 s.2 [107, 101, 121, 32, 49])

def iterP : Nat → Int × Int → Int × Int
  | 0, s => s
  | n + 1, s => iterP n (nextP s)

theorem iterP_add (a b : Nat) (s : Int × Int) : iterP (a + b) s = iterP b (iterP a s) := by
  induction a generalizing s with
  | zero => rw [Nat.zero_add]; rfl
  | succ a ih => rw [Nat.succ_add]; exact ih (nextP s)

theorem next_eq (a b : Int) : digest_Next.f a b = some (nextP (a, b)) := rfl

theorem u8_bounds {a : Int} (h : (Lit.int .u8 a).wf = true) : 0 ≤ a ∧ a ≤ 255 := by
  simpa [Lit.wf, IntKind.min, IntKind.max, IntKind.bits, IntKind.signed] using h

theorem at_loop (n : Nat) : ∀ (k : Nat) (a b : Int), n < k → n ≤ 1000 → digest_At.l0 k (n : Int) a b = some (iterP n (a, b)) := by
  induction n with
  | zero =>
    intro k a b hk hn
    obtain ⟨k, rfl⟩ : ∃ q, k = q + 1 := ⟨k - 1, by omega⟩
    rw [digest_At.l0, if_neg (by omega)]
    rfl
  | succ n ih =>
    intro k a b hk hn
    obtain ⟨k, rfl⟩ : ∃ q, k = q + 1 := ⟨k - 1, by omega⟩
    have e : wrap64 (((n + 1 : Nat) : Int) - 1) = (n : Int) := by unfold wrap64; omega
    rw [digest_At.l0, if_pos (by omega), next_eq]
    simp only [Option.bind_some]
    rw [e]
    exact ih k _ _ (by omega) (by omega)

theorem at_eq (n : Nat) (hn : n ≤ 1000) (k : Nat) (hk : n + 2 < k) (a b : Int) : digest_At.f k a b (n : Int) = some (iterP n (a, b)) := by
  obtain ⟨k, rfl⟩ : ∃ q, k = q + 1 := ⟨k - 1, by omega⟩
  unfold digest_At.f
  rw [if_neg (by omega), decide_eq_false (by omega)]
  rw [digest_At.j0, if_neg (by decide)]
  exact at_loop n k a b (by omega) hn

theorem at_out (k : Nat) (a b : Int) : digest_At.f (k + 1) a b 1001 = some (0, 0) := rfl

theorem refnext_eq (k : Nat) (hk : 5 < k) (a b : Int) : kauditref23_Next.f k a b = some (nextP (a, b)) := by
  unfold kauditref23_Next.f nextP
  rw [refSum_eq k a b [107, 101, 121, 32, 48] (by decide) hk, refSum_eq k a b [107, 101, 121, 32, 49] (by decide) hk]
  rfl

theorem refat_loop (n : Nat) : ∀ (k : Nat) (a b : Int), n + 6 < k → n ≤ 1000 → kauditref23_At.l0 k (n : Int) a b = some (iterP n (a, b)) := by
  induction n with
  | zero =>
    intro k a b hk hn
    obtain ⟨k, rfl⟩ : ∃ q, k = q + 1 := ⟨k - 1, by omega⟩
    rw [kauditref23_At.l0, if_neg (by omega)]
    rfl
  | succ n ih =>
    intro k a b hk hn
    obtain ⟨k, rfl⟩ : ∃ q, k = q + 1 := ⟨k - 1, by omega⟩
    have e : wrap64 (((n + 1 : Nat) : Int) - 1) = (n : Int) := by unfold wrap64; omega
    rw [kauditref23_At.l0, if_pos (by omega), refnext_eq k (by omega)]
    simp only [Option.bind_some]
    rw [e]
    exact ih k _ _ (by omega) (by omega)

theorem refat_eq (n : Nat) (hn : n ≤ 1000) (k : Nat) (hk : n + 8 < k) (a b : Int) : kauditref23_At.f k a b (n : Int) = some (iterP n (a, b)) := by
  obtain ⟨k, rfl⟩ : ∃ q, k = q + 1 := ⟨k - 1, by omega⟩
  unfold kauditref23_At.f
  rw [if_neg (by omega), decide_eq_false (by omega)]
  rw [kauditref23_At.j0, if_neg (by decide)]
  exact refat_loop n k a b (by omega) hn

/-- Whatever the number: both give the same key. -/
theorem at_same (k : Nat) (hk : 1009 < k) (a b n : Int) : ∃ p, digest_At.f k a b n = some p ∧ kauditref23_At.f k a b n = some p := by
  by_cases h0 : n < 0
  · obtain ⟨k, rfl⟩ : ∃ q, k = q + 1 := ⟨k - 1, by omega⟩
    refine ⟨(0, 0), ?_, ?_⟩
    · unfold digest_At.f
      rw [if_pos h0, digest_At.j0, if_pos rfl]
    · unfold kauditref23_At.f
      rw [if_pos h0, kauditref23_At.j0, if_pos rfl]
  · by_cases h1 : n > 1000
    · obtain ⟨k, rfl⟩ : ∃ q, k = q + 1 := ⟨k - 1, by omega⟩
      refine ⟨(0, 0), ?_, ?_⟩
      · unfold digest_At.f
        rw [if_neg h0, decide_eq_true h1, digest_At.j0, if_pos rfl]
      · unfold kauditref23_At.f
        rw [if_neg h0, decide_eq_true h1, kauditref23_At.j0, if_pos rfl]
    · obtain ⟨m, rfl⟩ : ∃ m : Nat, n = (m : Int) := ⟨n.toNat, by omega⟩
      exact ⟨_, at_eq m (by omega) k (by omega) a b, refat_eq m (by omega) k (by omega) a b⟩

theorem bytes_zero (s : ByteArray) : bytesOf (s ++ ⟨#[0]⟩) = bytesOf s ++ [0] := by
  unfold bytesOf
  have e : (s ++ ⟨#[0]⟩ : ByteArray).data = s.data ++ #[0] := ByteArray.data_append
  rw [e]
  simp

theorem fresh_same (s : ByteArray) (hs : s.size < 140737488355327) : ∃ p, digest_Fresh.f s = some p ∧ kauditref23_Fresh.f s = some p := by
  refine ⟨(sip 0 0 (bytesOf s), sip 0 0 (bytesOf s ++ [0])), ?_, ?_⟩
  · unfold digest_Fresh.f
    rw [if_pos hs, bytes_zero]
  · unfold kauditref23_Fresh.f
    have h1 : (bytesOf s).length = s.size := bytesOf_length s
    have h2 : (bytesOf s ++ [0]).length = s.size + 1 := by rw [List.length_append, h1]; rfl
    rw [if_pos hs, refSum_eq (s.size + 10) 0 0 (bytesOf s) (by omega) (by omega), refSum_eq (s.size + 10) 0 0 (bytesOf s ++ [0]) (by omega) (by omega), Option.bind_some, Option.bind_some]

theorem keys_fin (u v x y : Int × Int) (Bg : Option Bool) (hb : Bg = some true) :
    ((some u).bind fun bt178 => ((some u).bind fun bt180 => (if (bt178.1 == bt180.1 && (bt178.2 == bt180.2)) = true then ((some v).bind fun bt182 => ((some v).bind fun bt184 => (if (bt182.1 == bt184.1 && (bt182.2 == bt184.2)) = true then ((some x).bind fun bt186 => ((some x).bind fun bt188 => (if (bt186.1 == bt188.1 && (bt186.2 == bt188.2)) = true then ((some y).bind fun bt190 => ((some y).bind fun bt192 => (if (bt190.1 == bt192.1 && (bt190.2 == bt192.2)) = true then (Bg.bind fun t194 => (some t194)) else (some false)))) else (some false)))) else (some false)))) else (some false)))) = some true := by
  subst hb
  simp

theorem DigestKeys : kauditlaw23_DigestKeys.Pure := by
  intro s k0 k1 n m hs h0 h1 hn hm
  obtain ⟨u, hu, hu'⟩ := fresh_same s (by omega)
  obtain ⟨x, hx, hx'⟩ := at_same 1100 (by omega) k0 k1 n
  obtain ⟨y, hy, hy'⟩ := at_same 1100 (by omega) k0 k1 (wrap64 m)
  have hv := next_eq k0 k1
  have hv' := refnext_eq 1100 (by omega) k0 k1
  have hg := begun_true 1100 (by omega)
  refine ⟨1100, ?_⟩
  unfold kauditlaw23_DigestKeys.f
  rw [hu, hu', hv, hv', hx, hx', hy, hy']
  generalize nextP (k0, k1) = v
  exact keys_fin u v x y _ hg

end Go.Proofs.Ytdgmjhfkaplneaa.Pure
