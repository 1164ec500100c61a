/- A chained digest is the digest of the bytes of the one before it, followed by the bytes: kauditlaw23.DigestChains returns true. Conditions: none beyond the kinds of the arguments and the form's own reach. -/
import Derived.Test.YtdgmjhfkaplneaaPAllx15
import Derived.Test.YtdgmjhfkaplneaaPure0
namespace Go.Proofs.Ytdgmjhfkaplneaa.Pure
open Go.RowKit Go.Proofs.Ytdgmjhfkaplneaa.PAll Go.Proofs.YtdgmjhfkaplneaaW.PrintWords Go.Proofs.YtdgmjhfkaplneaaW.PrintLast Go.Proofs.YtdgmjhfkaplneaaW.PrintMore
set_option linter.unusedVariables false
set_option linter.unusedSimpArgs false

theorem fin (y : Option Bool) (hb : y = some true) (z : Int) : (((some z).bind fun t136 => some t136).bind fun t159 =>
      (some z).bind fun t166 =>
        if t159 = t166 then y.bind fun t167 => some t167 else some false) =
    some true := by
  subst hb
  simp

theorem DigestChains : kauditlaw23_DigestChains.Pure := by
  intro k0 k1 d l h0 h1 h2 hm hl hw
  refine ⟨20, ?_⟩
  have hlen : (putL d).length + l.length < 140737488355328 := by
    have : (putL d).length = 8 := rfl
    omega
  unfold kauditlaw23_DigestChains.f digest_Chain.f
  rw [put_eq 20 (by omega)]
  simp only [Option.bind_some]
  simp only [if_pos hlen]
  unfold digest_Sum.f
  generalize sip k0 k1 (putL d ++ l) = z
  exact fin _ (begun_true 20 (by omega)) z

end Go.Proofs.Ytdgmjhfkaplneaa.Pure
