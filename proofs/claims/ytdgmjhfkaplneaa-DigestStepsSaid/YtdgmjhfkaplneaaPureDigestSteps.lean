/- The key of a number is reached in steps: kauditlaw23.DigestSteps returns true. Conditions: none beyond the kinds of the arguments. -/
import Derived.Test.YtdgmjhfkaplneaaPAllx18
import Derived.Test.YtdgmjhfkaplneaaPure0
namespace Go.Proofs.Ytdgmjhfkaplneaa.Pure
open Go.RowKit Go.Proofs.Ytdgmjhfkaplneaa.PAll Go.Proofs.YtdgmjhfkaplneaaW.PrintWords Go.Proofs.YtdgmjhfkaplneaaW.PrintLast Go.Proofs.YtdgmjhfkaplneaaW.PrintMore
set_option linter.unusedVariables false
set_option linter.unusedSimpArgs false

/-- The key that follows. -/
def nextP (s : Int × Int) : Int × Int := (sip s.1 s.2 [107, 101, 121, 32, 48], sip s.1 s.2 [107, 101, 121, 32, 49])

def iterP : Nat → Int × Int → Int × Int
  | 0, s => s
  | n + 1, s => iterP n (nextP s)

theorem iterP_add (a b : Nat) (s : Int × Int) : iterP (a + b) s = iterP b (iterP a s) := by
  induction a generalizing s with
  | zero => rw [Nat.zero_add]; rfl
  | succ a ih => rw [Nat.succ_add]; exact ih (nextP s)

theorem next_eq (a b : Int) : digest_Next.f a b = some (nextP (a, b)) := rfl

theorem u8_bounds {a : Int} (h : (Lit.int .u8 a).wf = true) : 0 ≤ a ∧ a ≤ 255 := by
  simpa [Lit.wf, IntKind.min, IntKind.max, IntKind.bits, IntKind.signed] using h

theorem at_loop (n : Nat) : ∀ (k : Nat) (a b : Int), n < k → n ≤ 1000 → digest_At.l0 k (n : Int) a b = some (iterP n (a, b)) := by
  induction n with
  | zero =>
    intro k a b hk hn
    obtain ⟨k, rfl⟩ : ∃ q, k = q + 1 := ⟨k - 1, by omega⟩
    rw [digest_At.l0, if_neg (by omega)]
    rfl
  | succ n ih =>
    intro k a b hk hn
    obtain ⟨k, rfl⟩ : ∃ q, k = q + 1 := ⟨k - 1, by omega⟩
    have e : wrap64 (((n + 1 : Nat) : Int) - 1) = (n : Int) := by unfold wrap64; omega
    rw [digest_At.l0, if_pos (by omega), next_eq]
    simp only [Option.bind_some]
    rw [e]
    exact ih k _ _ (by omega) (by omega)

theorem at_eq (n : Nat) (hn : n ≤ 1000) (k : Nat) (hk : n + 2 < k) (a b : Int) : digest_At.f k a b (n : Int) = some (iterP n (a, b)) := by
  obtain ⟨k, rfl⟩ : ∃ q, k = q + 1 := ⟨k - 1, by omega⟩
  unfold digest_At.f
  rw [if_neg (by omega), decide_eq_false (by omega)]
  rw [digest_At.j0, if_neg (by decide)]
  exact at_loop n k a b (by omega) hn

theorem at_out (k : Nat) (a b : Int) : digest_At.f (k + 1) a b 1001 = some (0, 0) := rfl

theorem pair_self (p : Int × Int) : (p.1 == p.1 && (p.2 == p.2)) = true := by simp

theorem steps_fin (u v : Int × Int) (a0 a1 : Int) (Bg : Option Bool) (hb : Bg = some true) :
    (if (u.1 == u.1 && (u.2 == u.2)) = true then ((some (a0, a1)).bind fun bt174 => (if (bt174.1 == a0 && (bt174.2 == a1)) = true then ((some v).bind fun bt176 => ((some v).bind fun bt178 => (if (bt176.1 == bt178.1 && (bt176.2 == bt178.2)) = true then ((some ((0 : Int), (0 : Int))).bind fun bt180 => (if (bt180.1 == 0 && (bt180.2 == 0)) = true then (Bg.bind fun t182 => (some t182)) else (some false))) else (some false)))) else (some false))) else (some false)) = some true := by
  subst hb
  simp

theorem iterP_one (s : Int × Int) : iterP 1 s = nextP s := by
  rw [iterP, iterP]

theorem DigestSteps : kauditlaw23_DigestSteps.Pure := by
  intro k0 k1 a b h0 h1 ha hb
  have ba := u8_bounds ha
  have bb := u8_bounds hb
  obtain ⟨m, rfl⟩ : ∃ m : Nat, a = (m : Int) := ⟨a.toNat, by omega⟩
  obtain ⟨n, rfl⟩ : ∃ n : Nat, b = (n : Int) := ⟨b.toNat, by omega⟩
  have e1 : wrap64 (m : Int) = (m : Int) := by unfold wrap64; omega
  have e2 : wrap64 (n : Int) = (n : Int) := by unfold wrap64; omega
  have e3 : wrap64 ((m : Int) + (n : Int)) = ((m + n : Nat) : Int) := by unfold wrap64; omega
  have hm := at_eq m (by omega) 1000 (by omega) k0 k1
  have hmn := at_eq (m + n) (by omega) 1000 (by omega) k0 k1
  have hn := fun s0 s1 => at_eq n (by omega) 1000 (by omega) s0 s1
  have h00 := at_eq 0 (by omega) 1000 (by omega) k0 k1
  have h01 := at_eq 1 (by omega) 1000 (by omega) k0 k1
  rw [iterP_one] at h01
  rw [iterP] at h00
  rw [iterP_add] at hmn
  have hx := next_eq k0 k1
  have hout := at_out 999 k0 k1
  have hg := begun_true 1000 (by omega)
  rw [show ((0 : Nat) : Int) = 0 from rfl] at h00
  rw [show ((1 : Nat) : Int) = 1 from rfl] at h01
  rw [show 999 + 1 = 1000 from rfl] at hout
  refine ⟨1000, ?_⟩
  unfold kauditlaw23_DigestSteps.f
  rw [e1, e2, e3, hm, hmn, h00, h01, hx, hout]
  generalize iterP m (k0, k1) = s
  obtain ⟨s0, s1⟩ := s
  rw [Option.bind_some, hn s0 s1]
  generalize iterP n (s0, s1) = u
  generalize nextP (k0, k1) = v
  rw [Option.bind_some, Option.bind_some]
  exact steps_fin u v k0 k1 _ hg

end Go.Proofs.Ytdgmjhfkaplneaa.Pure
