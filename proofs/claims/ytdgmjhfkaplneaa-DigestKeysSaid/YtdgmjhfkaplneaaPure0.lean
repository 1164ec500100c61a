/- Plain laws shared by the statements of chapter 23: the example's digest, the bytes of a digest. Conditions: as each lemma says. -/
import Derived.Test.YtdgmjhfkaplneaaPAllx9
import Derived.Test.YtdgmjhfkaplneaaPAllx13
namespace Go.Proofs.Ytdgmjhfkaplneaa.Pure
open Go.RowKit Go.Proofs.Ytdgmjhfkaplneaa.PAll Go.Proofs.YtdgmjhfkaplneaaW.PrintWords Go.Proofs.YtdgmjhfkaplneaaW.PrintLast Go.Proofs.YtdgmjhfkaplneaaW.PrintMore
set_option linter.unusedVariables false
set_option linter.unusedSimpArgs false

theorem leo_up {α : Type} {g : Nat → Option α} (hm : ∀ k, LeO (g k) (g (k + 1))) {m : Nat} {r : α} (h : g m = some r) (k : Nat) (hk : m ≤ k) : g k = some r := by
  obtain ⟨d, rfl⟩ : ∃ d, k = m + d := ⟨k - m, by omega⟩
  clear hk
  induction d with
  | zero => exact h
  | succ d ih => exact hm _ _ ih

theorem begun_true (k : Nat) (hk : 16 ≤ k) : kauditlaw23_begun.f k = some true :=
  leo_up (fun k => kauditlaw23_begun.mono k) (show kauditlaw23_begun.f 16 = some true by decide +kernel) k hk

/-- The bytes of a digest, the most significant one first. -/
def putL (d : Int) : List Int := [shr .u64 d 56 % 256, shr .u64 d 48 % 256, shr .u64 d 40 % 256, shr .u64 d 32 % 256, shr .u64 d 24 % 256, shr .u64 d 16 % 256, shr .u64 d 8 % 256, shr .u64 d 0 % 256]

theorem put_eq (k : Nat) (hk : 9 ≤ k) (d : Int) : digest_Put.f k d = some (putL d) := by
  refine leo_up (fun k => digest_Put.mono d k) (?_ : digest_Put.f 9 d = some (putL d)) k hk
  kernel_rfl

end Go.Proofs.Ytdgmjhfkaplneaa.Pure
