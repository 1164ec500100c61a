/- The program's digest is the reference's, by itself and chained: kauditlaw23.DigestSums returns true. Conditions: none beyond the kinds of the arguments and the form's own reach. -/
import Derived.Test.YtdgmjhfkaplneaaPAllx14
import Derived.Test.YtdgmjhfkaplneaaPure0
namespace Go.Proofs.Ytdgmjhfkaplneaa.Pure
open Go.RowKit Go.Proofs.Ytdgmjhfkaplneaa.PAll Go.Proofs.YtdgmjhfkaplneaaW.PrintWords Go.Proofs.YtdgmjhfkaplneaaW.PrintLast Go.Proofs.YtdgmjhfkaplneaaW.PrintMore
set_option linter.unusedVariables false
set_option linter.unusedSimpArgs false

/-- The state and the word after the bytes of a list, the word's next byte being the one at j. -/
def sipG : List Int → Nat → Int → Int × Int × Int × Int → (Int × Int × Int × Int) × Int
  | [], _, m, s => (s, m)
  | c :: r, j, m, s => if j = 7 then sipG r 0 0 (sipTake s (Go.bits .or .u64 m (shl .u64 (IntKind.u64.wrap c) (8 * j)))) else sipG r (j + 1) (Go.bits .or .u64 m (shl .u64 (IntKind.u64.wrap c) (8 * j))) s

theorem rounds2 (a b c d : Int) (n : Nat) (hn : n ≤ 100) : kauditref23_words_rounds.f a b c d (n : Int) = some (sipRounds n (a, b, c, d)) := by
  unfold kauditref23_words_rounds.f
  rw [if_pos (by omega), Int.toNat_natCast]

theorem reftake (s : Int × Int × Int × Int) (m : Int) : kauditref23_words_take.f s.1 s.2.1 s.2.2.1 s.2.2.2 m = some (sipTake s m) := by
  unfold kauditref23_words_take.f sipTake
  have h := rounds2 s.1 s.2.1 s.2.2.1 (Go.bits .xor .u64 s.2.2.2 m) 2 (by omega)
  rw [show ((2 : Nat) : Int) = 2 from rfl] at h
  rw [h]
  rfl

def sipFin (n : Int) (p : (Int × Int × Int × Int) × Int) : Int := sipEnd (sipTake p.1 (Go.bits .or .u64 p.2 (n % 256 * 72057594037927936)))

def xor4 (u : Int × Int × Int × Int) : Int := Go.bits .xor .u64 (Go.bits .xor .u64 (Go.bits .xor .u64 u.1 u.2.1) u.2.2.1) u.2.2.2

theorem sipEnd_eq (t : Int × Int × Int × Int) : sipEnd t = xor4 (sipRounds 4 (t.1, t.2.1, Go.bits .xor .u64 t.2.2.1 255, t.2.2.2)) := by
  unfold sipEnd
  generalize sipRounds 4 (t.1, t.2.1, Go.bits .xor .u64 t.2.2.1 255, t.2.2.2) = u
  obtain ⟨u0, u1, u2, u3⟩ := u
  rfl

theorem roundsG (n : Nat) (m : Int) (hm : m = (n : Int)) (hn : n ≤ 100) (a b c d : Int) : kauditref23_words_rounds.f a b c d m = some (sipRounds n (a, b, c, d)) := by
  subst hm
  exact rounds2 a b c d n hn

theorem endG (n : Nat) (m : Int) (hm : m = (n : Int)) (hn : n ≤ 100) (t : Int × Int × Int × Int) : ((kauditref23_words_rounds.f t.1 t.2.1 (Go.bits .xor .u64 t.2.2.1 255) t.2.2.2 m).bind fun bt121 => (some (xor4 bt121))) = some (xor4 (sipRounds n (t.1, t.2.1, Go.bits .xor .u64 t.2.2.1 255, t.2.2.2))) := by
  rw [roundsG n m hm hn, Option.bind_some]

theorem reffin1 (m : Int) (s : Int × Int × Int × Int) : ((kauditref23_words_take.f s.1 s.2.1 s.2.2.1 s.2.2.2 m).bind fun bt117 => ((kauditref23_words_rounds.f bt117.1 bt117.2.1 (Go.bits .xor .u64 bt117.2.2.1 255) bt117.2.2.2 4).bind fun bt121 => (some (xor4 bt121)))) = some (sipEnd (sipTake s m)) := by
  rw [reftake, Option.bind_some, sipEnd_eq]
  generalize sipTake s m = t
  exact endG 4 4 rfl (by omega) t

theorem reffin (n m : Int) (s : Int × Int × Int × Int) : ((kauditref23_words_take.f s.1 s.2.1 s.2.2.1 s.2.2.2 (Go.bits .or .u64 m (n % 256 * 72057594037927936))).bind fun bt117 => ((kauditref23_words_rounds.f bt117.1 bt117.2.1 (Go.bits .xor .u64 bt117.2.2.1 255) bt117.2.2.2 4).bind fun bt121 => (some (Go.bits .xor .u64 (Go.bits .xor .u64 (Go.bits .xor .u64 bt121.1 bt121.2.1) bt121.2.2.1) bt121.2.2.2)))) = some (sipFin n (s, m)) := by
  unfold sipFin
  generalize Go.bits .or .u64 m (n % 256 * 72057594037927936) = x
  exact reffin1 x s

theorem ref_loop (l : List Int) (hlen : l.length < 9223372036854775807) (d : Nat) : ∀ (k i : Nat) (m : Int) (s : Int × Int × Int × Int), l.length - i = d → d < k →
    kauditref23_Sum.l0 k l m l (l.length : Int) (i : Int) s.1 s.2.1 s.2.2.1 s.2.2.2 = some (sipFin (l.length : Int) (sipG (l.drop i) (i % 8) m s)) := by
  induction d with
  | zero =>
    intro k i m s hd hk
    obtain ⟨k, rfl⟩ : ∃ q, k = q + 1 := ⟨k - 1, by omega⟩
    rw [kauditref23_Sum.l0, if_neg (by omega), List.drop_eq_nil_of_le (by omega)]
    exact reffin _ m s
  | succ d ih =>
    intro k i m s hd hk
    obtain ⟨k, rfl⟩ : ∃ q, k = q + 1 := ⟨k - 1, by omega⟩
    have e0 : Int.tmod (i : Int) 8 = ((i % 8 : Nat) : Int) := show Int.tmod (Int.ofNat i) (Int.ofNat 8) = Int.ofNat (i % 8) from rfl
    have e1 : wrap64 (8 * Int.tmod (i : Int) 8) = 8 * ((i % 8 : Nat) : Int) := by rw [e0]; unfold wrap64; omega
    have e2 : wrap64 ((i : Int) + 1) = ((i + 1 : Nat) : Int) := by unfold wrap64; omega
    rw [kauditref23_Sum.l0, if_pos (by omega), if_pos (by omega), if_pos (by omega), e1, if_pos (by omega), e2, rd_drop l i (by omega), e0, sipG]
    by_cases h7 : i % 8 = 7
    · rw [if_pos (by omega), if_pos h7, reftake, Option.bind_some, ih k (i + 1) 0 _ (by omega) (by omega)]
      have : (i + 1) % 8 = 0 := by omega
      rw [this]
    · rw [if_neg (by omega), if_neg h7, ih k (i + 1) _ s (by omega) (by omega)]
      have : (i + 1) % 8 = i % 8 + 1 := by omega
      rw [this]

theorem sipG_few : ∀ (r : List Int) (j : Nat) (m : Int) (s : Int × Int × Int × Int), j + r.length < 8 → sipG r j m s = (s, wordFrom m j r)
  | [], _, _, _, _ => rfl
  | c :: r, j, m, s, h => by
    simp only [List.length_cons] at h
    rw [sipG, if_neg (by omega), sipG_few r (j + 1) _ s (by omega)]
    rfl

theorem sipG_eight : ∀ (r : List Int) (j : Nat) (m : Int) (s : Int × Int × Int × Int), j < 8 → 8 ≤ j + r.length → sipG r j m s = sipG (r.drop (8 - j)) 0 0 (sipTake s (wordFrom m j (r.take (8 - j))))
  | [], j, _, _, hj, h => by simp only [List.length_nil] at h; omega
  | c :: r, j, m, s, hj, h => by
    simp only [List.length_cons] at h
    rw [sipG]
    by_cases h7 : j = 7
    · subst h7
      rw [if_pos rfl]
      rfl
    · rw [if_neg h7, sipG_eight r (j + 1) _ s (by omega) (by omega)]
      have e : 8 - j = (8 - (j + 1)) + 1 := by omega
      rw [e, List.drop_succ_cons, List.take_succ_cons]
      rfl

theorem sipG_all (n : Nat) : ∀ (l : List Int) (s : Int × Int × Int × Int), l.length / 8 = n → sipG l 0 0 s = (sipLoop n s l, wordOf (l.drop (8 * n))) := by
  induction n with
  | zero =>
    intro l s h
    rw [sipG_few l 0 0 s (by omega)]
    rfl
  | succ n ih =>
    intro l s h
    rw [sipG_eight l 0 0 s (by omega) (by omega), ih (l.drop 8) _ (by rw [List.length_drop]; omega), List.drop_drop]
    have e : 8 + 8 * n = 8 * (n + 1) := by omega
    rw [e]
    rfl

theorem or_comm64 (a b : Int) : Go.bits .or .u64 a b = Go.bits .or .u64 b a := by
  unfold Go.bits
  simp only []
  rw [BitVec.or_comm]

theorem refSum_eq (k : Nat) (k0 k1 : Int) (l : List Int) (hlen : l.length < 9223372036854775807) (hk : l.length < k) : kauditref23_Sum.f k k0 k1 l = some (sip k0 k1 l) := by
  unfold kauditref23_Sum.f
  have h := ref_loop l hlen l.length k 0 0 (sipBegin k0 k1) (by omega) hk
  rw [show ((0 : Nat) : Int) = 0 from rfl] at h
  refine h.trans ?_
  rw [List.drop_zero, show 0 % 8 = 0 from rfl, sipG_all (l.length / 8) l (sipBegin k0 k1) rfl]
  unfold sipFin sip
  have e : IntKind.u64.wrap (IntKind.u64.wrap (l.length : Int) * 72057594037927936) = (l.length : Int) % 256 * 72057594037927936 := by
    rw [IntKind.wrap_u64, IntKind.wrap_u64]
    omega
  rw [e, or_comm64]

theorem refputS_eq (k : Nat) (hk : 10 ≤ k) (d : Int) : kauditref23_Put.f k d = some (putL d) := by
  refine leo_up (fun k => kauditref23_Put.mono d k) (?_ : kauditref23_Put.f 10 d = some (putL d)) k hk
  kernel_rfl

theorem sums_fin (y : Option Bool) (hb : y = some true) (z z' : Int) : ((some z).bind fun t138 => ((some z).bind fun t139 => (if t138 = t139 then (((some z').bind fun t => some t).bind fun t140 => (((some z').bind fun t => some t).bind fun t141 => (if t140 = t141 then (y.bind fun t142 => (some t142)) else (some false)))) else (some false)))) = some true := by
  subst hb
  simp

theorem DigestSums : kauditlaw23_DigestSums.Pure := by
  intro k0 k1 d l h0 h1 h2 hm hl hw
  refine ⟨l.length + 30, ?_⟩
  have hlen8 : (putL d).length = 8 := rfl
  have hlen : (putL d).length + l.length < 140737488355328 := by omega
  have hla : (putL d ++ l).length = l.length + 8 := by rw [List.length_append]; omega
  unfold kauditlaw23_DigestSums.f digest_Chain.f kauditref23_Chain.f
  rw [put_eq (l.length + 30) (by omega), refputS_eq (l.length + 30) (by omega), refSum_eq (l.length + 30) k0 k1 l (by omega) (by omega)]
  simp only [Option.bind_some]
  simp only [if_pos hlen]
  rw [refSum_eq (l.length + 30) k0 k1 (putL d ++ l) (by omega) (by omega)]
  unfold digest_Sum.f
  generalize sip k0 k1 (putL d ++ l) = z'
  generalize sip k0 k1 l = z
  exact sums_fin _ (begun_true (l.length + 30) (by omega)) z z'

end Go.Proofs.Ytdgmjhfkaplneaa.Pure
