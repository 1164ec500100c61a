/- With FlushTime, a flush is due as soon as N milliseconds have passed since the last one, and not before: kauditlaw28.FlushTimes returns true. Conditions: none beyond the kinds of the arguments. -/
import Derived.Test.YtdjcbhbcpeafkaaPFlushTimesx2
namespace Go.Proofs.Ytdjcbhbcpeafkaa.Pure
open Go.RowKit Go.Proofs.Ytdjcbhbcpeafkaa.PFlushTimes Go.Proofs.YtdjcbhbcpeafkaaW.PrintWords Go.Proofs.YtdjcbhbcpeafkaaW.PrintLast

theorem u16_bounds {a : Int} (h : (Lit.int .u16 a).wf = true) : 0 ≤ a ∧ a ≤ 65535 := by
  simpa [Lit.wf, IntKind.min, IntKind.max, IntKind.bits, IntKind.signed] using h

theorem begun_true : kauditlaw28_begun.f = some true := by decide +kernel

theorem FlushTimes : kauditlaw28_FlushTimes.Pure := by
  intro a0 a1 a2 h0 h1 h2
  have b0 := u16_bounds h0
  have b1 := u16_bounds h1
  have b2 := u16_bounds h2
  have e0 : wrap64 a0 = a0 := by unfold wrap64; omega
  have e1 : wrap64 a1 = a1 := by unfold wrap64; omega
  have e2 : wrap64 a2 = a2 := by unfold wrap64; omega
  have e3 : wrap64 (1 + a0) = 1 + a0 := by unfold wrap64; omega
  have e4 : wrap64 (a1 + a2) = a1 + a2 := by unfold wrap64; omega
  have e5 : wrap64 (9223372036854775807 - (1 + a0)) = 9223372036854775807 - (1 + a0) := by unfold wrap64; omega
  have e6 : wrap64 (a1 + (1 + a0)) = a1 + (1 + a0) := by unfold wrap64; omega
  have hv : flush_Valid.f 3 (1 + a0) = some true := by
    unfold flush_Valid.f
    rw [if_neg (by omega), if_neg (by omega), if_neg (by omega), if_pos rfl, if_pos (by omega)]
    simp; omega
  have hp : flush_passed.f (a1 + a2) a1 (1 + a0) = some (decide (a2 ≥ 1 + a0)) := by
    unfold flush_passed.f
    rw [e5, if_pos (by omega), e6]
    congr 1
    exact decide_eq_decide.mpr (by omega)
  have hw : flush_Wrote.f 3 (1 + a0) 0 a1 (a1 + a2) = some (1, a1, decide (a2 ≥ 1 + a0)) := by
    unfold flush_Wrote.f
    rw [hv]
    simp only [Option.bind_some, if_true]
    rw [if_neg (by omega), if_neg (by omega), hp]
    rfl
  have hd1 : flush_Due.f 3 (1 + a0) 1 a1 (a1 + a2) = some (decide (a2 ≥ 1 + a0)) := by
    unfold flush_Due.f
    rw [hv]
    simp only [Option.bind_some, if_true]
    rw [if_pos (by omega), hp]
    rfl
  have hd0 : flush_Due.f 3 (1 + a0) 0 a1 (a1 + a2) = some false := by
    unfold flush_Due.f
    rw [hv]
    simp only [Option.bind_some, if_true]
    rw [if_neg (by omega)]
  unfold kauditlaw28_FlushTimes.f flush_Done.f
  simp only [e0, e1, e2, e3, e4, Option.bind_some]
  rw [hw]
  simp only [Option.bind_some, beq_self_eq_true, if_true]
  rw [hd1]
  simp only [Option.bind_some, beq_self_eq_true, if_true]
  rw [hd0]
  simp only [Option.bind_some]
  rw [begun_true]
  rfl

end Go.Proofs.Ytdjcbhbcpeafkaa.Pure
