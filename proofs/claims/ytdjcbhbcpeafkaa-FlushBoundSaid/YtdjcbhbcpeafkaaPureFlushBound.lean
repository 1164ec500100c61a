/- If a flush is made whenever it is due, never more than N - 1 entries wait with FlushCount, and none with FlushAlways: kauditlaw28.FlushBound returns true. Conditions: none beyond the kinds of the arguments. -/
import Derived.Test.YtdjcbhbcpeafkaaPFlushBoundx2
namespace Go.Proofs.Ytdjcbhbcpeafkaa.Pure
open Go.RowKit Go.Proofs.Ytdjcbhbcpeafkaa.PFlushBound Go.Proofs.YtdjcbhbcpeafkaaW.PrintWords Go.Proofs.YtdjcbhbcpeafkaaW.PrintLast

theorem u8_bounds {a : Int} (h : (Lit.int .u8 a).wf = true) : 0 ≤ a ∧ a ≤ 255 := by
  simpa [Lit.wf, IntKind.min, IntKind.max, IntKind.bits, IntKind.signed] using h

theorem begun_true : kauditlaw28_begun.f = some true := by decide +kernel

/-- FlushAlways: every Wrote is due. -/
theorem wrote_always (c s t : Int) (h0 : 0 ≤ c) (h1 : c ≤ 255) : flush_Wrote.f 4 0 c s t = some (c + 1, s, true) := by
  unfold flush_Wrote.f flush_Valid.f
  rw [if_neg (by omega), if_pos rfl]
  simp only [Option.bind_some, beq_self_eq_true, if_true]
  have : mn (mx c 0) 1099511627775 = c := by unfold mn mx; omega
  rw [this]

/-- FlushCount n + 1: a Wrote is due where the new count has come to n + 1. -/
theorem wrote_count (n c s t : Int) (hn0 : 0 ≤ n) (hn1 : n ≤ 255) (h0 : 0 ≤ c) (h1 : c ≤ 255) : flush_Wrote.f 2 (1 + n) c s t = some (c + 1, s, decide (c + 1 ≥ 1 + n)) := by
  have hv : flush_Valid.f 2 (1 + n) = some true := by
    unfold flush_Valid.f
    rw [if_neg (by omega), if_neg (by omega), if_pos rfl, if_pos (by omega)]
    simp; omega
  have e : mn (mx c 0) 1099511627775 = c := by unfold mn mx; omega
  unfold flush_Wrote.f
  rw [hv]
  simp only [Option.bind_some, if_true]
  rw [if_neg (by omega), e]

theorem loop_always (m : Int) (h0 : 0 ≤ m) (h1 : m ≤ 255) (d : Nat) : ∀ (k : Nat) (i c s : Int), 0 ≤ i → i ≤ m → m - i = d → c = 0 → d < k →
    kauditlaw28_FlushBound.l0 k m 0 i 4 0 c s = some true := by
  have em : wrap64 m = m := by unfold wrap64; omega
  induction d with
  | zero =>
    intro k i c s hi hm hd hc hk
    obtain ⟨k, rfl⟩ : ∃ q, k = q + 1 := ⟨k - 1, by omega⟩
    simp only [kauditlaw28_FlushBound.l0]
    rw [em, if_neg (by omega), begun_true]
    rfl
  | succ d ih =>
    intro k i c s hi hm hd hc hk
    obtain ⟨k, rfl⟩ : ∃ q, k = q + 1 := ⟨k - 1, by omega⟩
    have ei : wrap64 (i + 1) = i + 1 := by unfold wrap64; omega
    simp only [kauditlaw28_FlushBound.l0]
    rw [em, if_pos (by omega), wrote_always c s i (by omega) (by omega)]
    simp only [Option.bind_some, if_true, flush_Done.f]
    rw [if_neg (by omega), if_neg (by omega), ei]
    exact ih k (i + 1) 0 i (by omega) (by omega) (by omega) rfl (by omega)

theorem loop_count (n m : Int) (hn0 : 0 ≤ n) (hn1 : n ≤ 255) (h0 : 0 ≤ m) (h1 : m ≤ 255) (d : Nat) : ∀ (k : Nat) (i c s : Int), 0 ≤ i → i ≤ m → m - i = d → 0 ≤ c → c ≤ n → d < k →
    kauditlaw28_FlushBound.l0 k m n i 2 (1 + n) c s = some true := by
  have em : wrap64 m = m := by unfold wrap64; omega
  induction d with
  | zero =>
    intro k i c s hi hm hd hc hc' hk
    obtain ⟨k, rfl⟩ : ∃ q, k = q + 1 := ⟨k - 1, by omega⟩
    simp only [kauditlaw28_FlushBound.l0]
    rw [em, if_neg (by omega), begun_true]
    rfl
  | succ d ih =>
    intro k i c s hi hm hd hc hc' hk
    obtain ⟨k, rfl⟩ : ∃ q, k = q + 1 := ⟨k - 1, by omega⟩
    have ei : wrap64 (i + 1) = i + 1 := by unfold wrap64; omega
    simp only [kauditlaw28_FlushBound.l0]
    rw [em, if_pos (by omega), wrote_count n c s i hn0 hn1 (by omega) (by omega)]
    simp only [Option.bind_some]
    by_cases hx : c + 1 ≥ 1 + n
    · rw [decide_eq_true hx]
      simp only [if_true, flush_Done.f, Option.bind_some]
      rw [if_neg (by omega), if_neg (by omega), ei]
      exact ih k (i + 1) 0 i (by omega) (by omega) (by omega) (by omega) (by omega) (by omega)
    · rw [decide_eq_false hx]
      rw [if_neg (by decide), if_neg (by omega), if_neg (by omega), ei]
      exact ih k (i + 1) (c + 1) s (by omega) (by omega) (by omega) (by omega) (by omega) (by omega)

theorem FlushBound : kauditlaw28_FlushBound.Pure := by
  intro a0 a1 a2 h1 h2
  have b1 := u8_bounds h1
  have b2 := u8_bounds h2
  have e1 : wrap64 a1 = a1 := by unfold wrap64; omega
  have e3 : wrap64 (1 + a1) = 1 + a1 := by unfold wrap64; omega
  refine ⟨a2.toNat + 2, ?_⟩
  unfold kauditlaw28_FlushBound.f
  rw [e1, e3]
  cases a0 with
  | true =>
    rw [if_pos rfl]
    simp only [kauditlaw28_FlushBound.j0, flush_Done.f, Option.bind_some]
    exact loop_count a1 a2 (by omega) (by omega) (by omega) (by omega) a2.toNat _ _ _ _ (by omega) (by omega) (by omega) (by omega) (by omega) (by omega)
  | false =>
    rw [if_neg (by decide)]
    simp only [kauditlaw28_FlushBound.j0, flush_Done.f, Option.bind_some]
    exact loop_always a2 (by omega) (by omega) a2.toNat _ _ _ _ (by omega) (by omega) (by omega) rfl (by omega)

end Go.Proofs.Ytdjcbhbcpeafkaa.Pure
