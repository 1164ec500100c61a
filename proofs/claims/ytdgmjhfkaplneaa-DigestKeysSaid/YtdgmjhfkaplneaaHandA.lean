/- Contracts of the two round functions of the digests (digest's state.rounds, state.take; the reference's words.rounds), by hand. Conditions: the state's block holds four words. -/
import Derived.Test.YtdgmjhfkaplneaaPAllx3
import Derived.Test.YtdgmjhfkaplneaaPAllx6
import Derived.RegionTactic
import Derived.Laws.BitsLemmas
import Derived.ChangeAlike
import Derived.BigRegion
import Derived.RegionCalls
import Derived.LoopTactic
import Derived.Deep.CutRange
import Derived.Deep.DeepCutAuto
namespace Go.Proofs.Ytdgmjhfkaplneaa.PAll
open Go.RowKit Go.Proofs.YtdgmjhfkaplneaaW.PrintWords Go.Proofs.YtdgmjhfkaplneaaW.PrintLast Go.Proofs.YtdgmjhfkaplneaaW.PrintMore
set_option linter.unusedVariables false
set_option linter.unusedSimpArgs false

/-- A word turned to the left by n. -/
def rotN (x n : Int) : Int := Go.bits .or .u64 (shl .u64 x n) (shr .u64 x (64 - n))

abbrev Blk (w : World) (g : Nat) (v0 v1 v2 v3 : Int) : Prop := w.heap[g]? = some (.cells #[.int .u64 v0, .int .u64 v1, .int .u64 v2, .int .u64 v3] 45 (0, 0))

/-- What a call leaves: the state's block, and nothing else changed below it. -/
def RPost (g : Nat) (s : Int × Int × Int × Int) (w w' : World) : Prop := Blk w' g s.1 s.2.1 s.2.2.1 s.2.2.2 ∧ Below g w w'

theorem rot_any (x n : Int) (w : World) (h0 : 0 ≤ n) (h1 : n ≤ 63) : Calls Try.prog 35 #[.int .u64 x, .int .i64 n] w fun e w' => e = .returned (.int .u64 (rotN x n)) ∧ Drawn0 w w' := by
  have e1 : IntKind.u64.wrap n = n := by simp [IntKind.wrap, IntKind.signed, IntKind.bits]; omega
  have e2 : Go.bits .and .u64 n 63 = n := by
    have hm : Go.bits .and .u64 n 63 = n % 64 := bits_mask .u64 8 (by decide) (fun z z0 z1 => by simp [IntKind.wrap, IntKind.signed, IntKind.bits]; omega) 6 (by decide) n h0 (by omega)
    rw [hm]; omega
  have e3 : IntKind.u64.wrap (64 - n) = 64 - n := by simp [IntKind.wrap, IntKind.signed, IntKind.bits]; omega
  refine bits_RotateLeft64.calls x n _ w ?_
  unfold bits_RotateLeft64.f rotN
  rw [e1, e2, e3, if_pos h0, if_pos (by omega)]

theorem turn_any (x n : Int) (w : World) (h0 : 0 ≤ n) (h1 : n ≤ 63) : Calls Try.prog 36 #[.int .u64 x, .int .i64 n] w fun e w' => e = .returned (.int .u64 (rotN x n)) ∧ Drawn0 w w' := by
  have e3 : wrap64 (64 - n) = 64 - n := by unfold wrap64; omega
  refine kauditref23_turn.calls x n _ w ?_
  unfold kauditref23_turn.f rotN
  rw [e3, if_pos h0, if_pos (by omega)]

/-- One round of SipHash. -/
def sipRound (s : Int × Int × Int × Int) : Int × Int × Int × Int :=
  match s with
  | (x0, x1, x2, x3) =>
    let y0 := IntKind.u64.wrap (x0 + x1)
    let y1 := Go.bits .xor .u64 (rotN x1 13) y0
    let y2 := rotN y0 32
    let y3 := IntKind.u64.wrap (x2 + x3)
    let y4 := Go.bits .xor .u64 (rotN x3 16) y3
    let y5 := IntKind.u64.wrap (y2 + y4)
    let y6 := Go.bits .xor .u64 (rotN y4 21) y5
    let y7 := IntKind.u64.wrap (y3 + y1)
    let y8 := Go.bits .xor .u64 (rotN y1 17) y7
    let y9 := rotN y7 32
    (y5, y8, y9, y6)

/-- n rounds. -/
def sipRounds : Nat → Int × Int × Int × Int → Int × Int × Int × Int
  | 0, s => s
  | n + 1, s => sipRounds n (sipRound s)

theorem sipRounds_step (k : Nat) (hk : 0 < k) (s : Int × Int × Int × Int) : sipRounds k s = sipRounds (k - 1) (sipRound s) := by
  obtain ⟨k, rfl⟩ : ∃ m, k = m + 1 := ⟨k - 1, by omega⟩
  rfl

set_option maxHeartbeats 8000000 in
set_option maxRecDepth 100000 in
theorem rounds_any (g : Nat) (n : Nat) (hn : n ≤ 100) (v0 v1 v2 v3 : Int) (w : World) (hb : Blk w g v0 v1 v2 v3) :
    Calls Try.prog 31 #[.pointer (some ⟨g, 0, none⟩), .int .i64 n] w fun e w' => e = .returned (.tuple #[]) ∧ RPost g (sipRounds n (v0, v1, v2, v3)) w w' := by
  have HB0 := Aside0.mk hb
  clear hb
  go_enter Try.func31, Try.ntmps31
  go_wp2
  go_loopw [1] (fun i wr => ∃ (k : Nat) (x0 x1 x2 x3 : Int), i = .int .i64 k ∧ k ≤ n ∧ Aside0 (sipRounds k (x0, x1, x2, x3) = sipRounds n (v0, v1, v2, v3)) ∧ Aside0 (Blk wr g x0 x1 x2 x3) ∧ Aside0 (Below g w wr)) (fun i _ => (intOf i).toNat)
  case atStart => exact ⟨n, v0, v1, v2, v3, rfl, Nat.le_refl _, ⟨rfl⟩, HB0, ⟨Below.refl _ _⟩⟩
  case round =>
    obtain ⟨k, x0, x1, x2, x3, rfl, hk, hs, hb1, hB⟩ := hrel
    by_cases hk0 : 0 < k
    · have hs' : Aside0 (sipRounds (k - 1) (sipRound (x0, x1, x2, x3)) = sipRounds n (v0, v1, v2, v3)) := ⟨(sipRounds_step k hk0 _).symm.trans hs.out⟩
      have c0 := (blk_cell hb1.out 0).trans rfl
      have c1 := (blk_cell hb1.out 1).trans rfl
      have c2 := (blk_cell hb1.out 2).trans rfl
      have c3 := (blk_cell hb1.out 3).trans rfl
      have f0 := blk_frozen hb1.out 0
      have f1 := blk_frozen hb1.out 1
      have f2 := blk_frozen hb1.out 2
      have f3 := blk_frozen hb1.out 3
      go_upto_region 2 with fail
      go_cut [] (fun wx => ∃ y0 : Int, Aside0 (y0 = IntKind.u64.wrap (x0 + x1)) ∧ Aside0 (Blk wx g y0 x1 x2 x3) ∧ Aside0 (Below g w wx))
      case first =>
        go_region
        all_goals
          go_wp2_with fail
          go_meet
          exact ⟨_, ⟨rfl⟩, ⟨by (with_reducible repeat (first | refine blk_drewN ?_ _ | refine blk_drew ?_)); refine blk_put hb1.out 0 _ rfl⟩, ⟨by (repeat (first | apply Below.drew | apply pw_below_drewN | refine Below.setCell ?_ (by exact (Nat.le_refl _)) _)); exact hB.out⟩⟩
      case rest =>
      obtain ⟨y0, hy0, hb2, hB2⟩ := hcut
      clear c0 c1 c2 c3 f0 f1 f2 f3
      have c0 := (blk_cell hb2.out 0).trans rfl
      have c1 := (blk_cell hb2.out 1).trans rfl
      have c2 := (blk_cell hb2.out 2).trans rfl
      have c3 := (blk_cell hb2.out 3).trans rfl
      have f0 := blk_frozen hb2.out 0
      have f1 := blk_frozen hb2.out 1
      have f2 := blk_frozen hb2.out 2
      have f3 := blk_frozen hb2.out 3
      go_upto_region 3 with fail
      go_cut [] (fun wx => ∃ y1 : Int, Aside0 (y1 = Go.bits .xor .u64 (rotN x1 13) y0) ∧ Aside0 (Blk wx g y0 y1 x2 x3) ∧ Aside0 (Below g w wx))
      case first =>
        go_region_with ((go_at_call 35; refine (rot_any _ _ _ (by omega) (by omega)).mono ?_; rintro e w' ⟨rfl, ⟨nd, rfl⟩⟩))
        all_goals
          go_wp2_with fail
          go_meet
          exact ⟨_, ⟨rfl⟩, ⟨by (with_reducible repeat (first | refine blk_drewN ?_ _ | refine blk_drew ?_)); refine blk_put hb2.out 1 _ rfl⟩, ⟨by (repeat (first | apply Below.drew | apply pw_below_drewN | refine Below.setCell ?_ (by exact (Nat.le_refl _)) _)); exact hB2.out⟩⟩
      case rest =>
      obtain ⟨y1, hy1, hb3, hB3⟩ := hcut
      clear c0 c1 c2 c3 f0 f1 f2 f3
      have c0 := (blk_cell hb3.out 0).trans rfl
      have c1 := (blk_cell hb3.out 1).trans rfl
      have c2 := (blk_cell hb3.out 2).trans rfl
      have c3 := (blk_cell hb3.out 3).trans rfl
      have f0 := blk_frozen hb3.out 0
      have f1 := blk_frozen hb3.out 1
      have f2 := blk_frozen hb3.out 2
      have f3 := blk_frozen hb3.out 3
      go_upto_region 4 with fail
      go_cut [] (fun wx => ∃ y2 : Int, Aside0 (y2 = rotN y0 32) ∧ Aside0 (Blk wx g y2 y1 x2 x3) ∧ Aside0 (Below g w wx))
      case first =>
        go_region_with ((go_at_call 35; refine (rot_any _ _ _ (by omega) (by omega)).mono ?_; rintro e w' ⟨rfl, ⟨nd, rfl⟩⟩))
        all_goals
          go_wp2_with fail
          go_meet
          exact ⟨_, ⟨rfl⟩, ⟨by (with_reducible repeat (first | refine blk_drewN ?_ _ | refine blk_drew ?_)); refine blk_put hb3.out 0 _ rfl⟩, ⟨by (repeat (first | apply Below.drew | apply pw_below_drewN | refine Below.setCell ?_ (by exact (Nat.le_refl _)) _)); exact hB3.out⟩⟩
      case rest =>
      obtain ⟨y2, hy2, hb4, hB4⟩ := hcut
      clear c0 c1 c2 c3 f0 f1 f2 f3
      have c0 := (blk_cell hb4.out 0).trans rfl
      have c1 := (blk_cell hb4.out 1).trans rfl
      have c2 := (blk_cell hb4.out 2).trans rfl
      have c3 := (blk_cell hb4.out 3).trans rfl
      have f0 := blk_frozen hb4.out 0
      have f1 := blk_frozen hb4.out 1
      have f2 := blk_frozen hb4.out 2
      have f3 := blk_frozen hb4.out 3
      go_upto_region 5 with fail
      go_cut [] (fun wx => ∃ y3 : Int, Aside0 (y3 = IntKind.u64.wrap (x2 + x3)) ∧ Aside0 (Blk wx g y2 y1 y3 x3) ∧ Aside0 (Below g w wx))
      case first =>
        go_region
        all_goals
          go_wp2_with fail
          go_meet
          exact ⟨_, ⟨rfl⟩, ⟨by (with_reducible repeat (first | refine blk_drewN ?_ _ | refine blk_drew ?_)); refine blk_put hb4.out 2 _ rfl⟩, ⟨by (repeat (first | apply Below.drew | apply pw_below_drewN | refine Below.setCell ?_ (by exact (Nat.le_refl _)) _)); exact hB4.out⟩⟩
      case rest =>
      obtain ⟨y3, hy3, hb5, hB5⟩ := hcut
      clear c0 c1 c2 c3 f0 f1 f2 f3
      have c0 := (blk_cell hb5.out 0).trans rfl
      have c1 := (blk_cell hb5.out 1).trans rfl
      have c2 := (blk_cell hb5.out 2).trans rfl
      have c3 := (blk_cell hb5.out 3).trans rfl
      have f0 := blk_frozen hb5.out 0
      have f1 := blk_frozen hb5.out 1
      have f2 := blk_frozen hb5.out 2
      have f3 := blk_frozen hb5.out 3
      go_upto_region 6 with fail
      go_cut [] (fun wx => ∃ y4 : Int, Aside0 (y4 = Go.bits .xor .u64 (rotN x3 16) y3) ∧ Aside0 (Blk wx g y2 y1 y3 y4) ∧ Aside0 (Below g w wx))
      case first =>
        go_region_with ((go_at_call 35; refine (rot_any _ _ _ (by omega) (by omega)).mono ?_; rintro e w' ⟨rfl, ⟨nd, rfl⟩⟩))
        all_goals
          go_wp2_with fail
          go_meet
          exact ⟨_, ⟨rfl⟩, ⟨by (with_reducible repeat (first | refine blk_drewN ?_ _ | refine blk_drew ?_)); refine blk_put hb5.out 3 _ rfl⟩, ⟨by (repeat (first | apply Below.drew | apply pw_below_drewN | refine Below.setCell ?_ (by exact (Nat.le_refl _)) _)); exact hB5.out⟩⟩
      case rest =>
      obtain ⟨y4, hy4, hb6, hB6⟩ := hcut
      clear c0 c1 c2 c3 f0 f1 f2 f3
      have c0 := (blk_cell hb6.out 0).trans rfl
      have c1 := (blk_cell hb6.out 1).trans rfl
      have c2 := (blk_cell hb6.out 2).trans rfl
      have c3 := (blk_cell hb6.out 3).trans rfl
      have f0 := blk_frozen hb6.out 0
      have f1 := blk_frozen hb6.out 1
      have f2 := blk_frozen hb6.out 2
      have f3 := blk_frozen hb6.out 3
      go_upto_region 7 with fail
      go_cut [] (fun wx => ∃ y5 : Int, Aside0 (y5 = IntKind.u64.wrap (y2 + y4)) ∧ Aside0 (Blk wx g y5 y1 y3 y4) ∧ Aside0 (Below g w wx))
      case first =>
        go_region
        all_goals
          go_wp2_with fail
          go_meet
          exact ⟨_, ⟨rfl⟩, ⟨by (with_reducible repeat (first | refine blk_drewN ?_ _ | refine blk_drew ?_)); refine blk_put hb6.out 0 _ rfl⟩, ⟨by (repeat (first | apply Below.drew | apply pw_below_drewN | refine Below.setCell ?_ (by exact (Nat.le_refl _)) _)); exact hB6.out⟩⟩
      case rest =>
      obtain ⟨y5, hy5, hb7, hB7⟩ := hcut
      clear c0 c1 c2 c3 f0 f1 f2 f3
      have c0 := (blk_cell hb7.out 0).trans rfl
      have c1 := (blk_cell hb7.out 1).trans rfl
      have c2 := (blk_cell hb7.out 2).trans rfl
      have c3 := (blk_cell hb7.out 3).trans rfl
      have f0 := blk_frozen hb7.out 0
      have f1 := blk_frozen hb7.out 1
      have f2 := blk_frozen hb7.out 2
      have f3 := blk_frozen hb7.out 3
      go_upto_region 8 with fail
      go_cut [] (fun wx => ∃ y6 : Int, Aside0 (y6 = Go.bits .xor .u64 (rotN y4 21) y5) ∧ Aside0 (Blk wx g y5 y1 y3 y6) ∧ Aside0 (Below g w wx))
      case first =>
        go_region_with ((go_at_call 35; refine (rot_any _ _ _ (by omega) (by omega)).mono ?_; rintro e w' ⟨rfl, ⟨nd, rfl⟩⟩))
        all_goals
          go_wp2_with fail
          go_meet
          exact ⟨_, ⟨rfl⟩, ⟨by (with_reducible repeat (first | refine blk_drewN ?_ _ | refine blk_drew ?_)); refine blk_put hb7.out 3 _ rfl⟩, ⟨by (repeat (first | apply Below.drew | apply pw_below_drewN | refine Below.setCell ?_ (by exact (Nat.le_refl _)) _)); exact hB7.out⟩⟩
      case rest =>
      obtain ⟨y6, hy6, hb8, hB8⟩ := hcut
      clear c0 c1 c2 c3 f0 f1 f2 f3
      have c0 := (blk_cell hb8.out 0).trans rfl
      have c1 := (blk_cell hb8.out 1).trans rfl
      have c2 := (blk_cell hb8.out 2).trans rfl
      have c3 := (blk_cell hb8.out 3).trans rfl
      have f0 := blk_frozen hb8.out 0
      have f1 := blk_frozen hb8.out 1
      have f2 := blk_frozen hb8.out 2
      have f3 := blk_frozen hb8.out 3
      go_upto_region 9 with fail
      go_cut [] (fun wx => ∃ y7 : Int, Aside0 (y7 = IntKind.u64.wrap (y3 + y1)) ∧ Aside0 (Blk wx g y5 y1 y7 y6) ∧ Aside0 (Below g w wx))
      case first =>
        go_region
        all_goals
          go_wp2_with fail
          go_meet
          exact ⟨_, ⟨rfl⟩, ⟨by (with_reducible repeat (first | refine blk_drewN ?_ _ | refine blk_drew ?_)); refine blk_put hb8.out 2 _ rfl⟩, ⟨by (repeat (first | apply Below.drew | apply pw_below_drewN | refine Below.setCell ?_ (by exact (Nat.le_refl _)) _)); exact hB8.out⟩⟩
      case rest =>
      obtain ⟨y7, hy7, hb9, hB9⟩ := hcut
      clear c0 c1 c2 c3 f0 f1 f2 f3
      have c0 := (blk_cell hb9.out 0).trans rfl
      have c1 := (blk_cell hb9.out 1).trans rfl
      have c2 := (blk_cell hb9.out 2).trans rfl
      have c3 := (blk_cell hb9.out 3).trans rfl
      have f0 := blk_frozen hb9.out 0
      have f1 := blk_frozen hb9.out 1
      have f2 := blk_frozen hb9.out 2
      have f3 := blk_frozen hb9.out 3
      go_upto_region 10 with fail
      go_cut [] (fun wx => ∃ y8 : Int, Aside0 (y8 = Go.bits .xor .u64 (rotN y1 17) y7) ∧ Aside0 (Blk wx g y5 y8 y7 y6) ∧ Aside0 (Below g w wx))
      case first =>
        go_region_with ((go_at_call 35; refine (rot_any _ _ _ (by omega) (by omega)).mono ?_; rintro e w' ⟨rfl, ⟨nd, rfl⟩⟩))
        all_goals
          go_wp2_with fail
          go_meet
          exact ⟨_, ⟨rfl⟩, ⟨by (with_reducible repeat (first | refine blk_drewN ?_ _ | refine blk_drew ?_)); refine blk_put hb9.out 1 _ rfl⟩, ⟨by (repeat (first | apply Below.drew | apply pw_below_drewN | refine Below.setCell ?_ (by exact (Nat.le_refl _)) _)); exact hB9.out⟩⟩
      case rest =>
      obtain ⟨y8, hy8, hb10, hB10⟩ := hcut
      clear c0 c1 c2 c3 f0 f1 f2 f3
      have c0 := (blk_cell hb10.out 0).trans rfl
      have c1 := (blk_cell hb10.out 1).trans rfl
      have c2 := (blk_cell hb10.out 2).trans rfl
      have c3 := (blk_cell hb10.out 3).trans rfl
      have f0 := blk_frozen hb10.out 0
      have f1 := blk_frozen hb10.out 1
      have f2 := blk_frozen hb10.out 2
      have f3 := blk_frozen hb10.out 3
      go_upto_region 11 with fail
      go_region_with ((go_at_call 35; refine (rot_any _ _ _ (by omega) (by omega)).mono ?_; rintro e w' ⟨rfl, ⟨nd, rfl⟩⟩))
      all_goals
        go_wp2
        go_roundw
        case rel =>
          have hz : ((k : Int) - 1) = ((k - 1 : Nat) : Int) := by omega
          refine ⟨k - 1, _, _, _, _, by first | rw [hz] | (simp only [hz]), by omega, ⟨?_⟩, ⟨by (with_reducible repeat (first | refine blk_drewN ?_ _ | refine blk_drew ?_)); refine blk_put hb10.out 2 _ rfl⟩, ⟨by (repeat (first | apply Below.drew | apply pw_below_drewN | refine Below.setCell ?_ (by exact Nat.le_refl _) _)); exact hB10.out⟩⟩
          obtain ⟨rfl⟩ := hy0
          obtain ⟨rfl⟩ := hy1
          obtain ⟨rfl⟩ := hy2
          obtain ⟨rfl⟩ := hy3
          obtain ⟨rfl⟩ := hy4
          obtain ⟨rfl⟩ := hy5
          obtain ⟨rfl⟩ := hy6
          obtain ⟨rfl⟩ := hy7
          obtain ⟨rfl⟩ := hy8
          exact hs'.out
        case measure => simp [intOf]; omega
    · have hk00 : k = 0 := by omega
      subst hk00
      go_wp2
      go_end0
      refine ⟨rfl, ?_, hB.out⟩
      rw [← hs.out]
      exact hb1.out

/-- A word is taken. -/
def sipTake (s : Int × Int × Int × Int) (m : Int) : Int × Int × Int × Int :=
  match sipRounds 2 (s.1, s.2.1, s.2.2.1, Go.bits .xor .u64 s.2.2.2 m) with
  | (a, b, c, d) => (Go.bits .xor .u64 a m, b, c, d)

set_option maxHeartbeats 4000000 in
set_option maxRecDepth 100000 in
theorem take_any (g : Nat) (v0 v1 v2 v3 m : Int) (w : World) (hb : Blk w g v0 v1 v2 v3) :
    Calls Try.prog 29 #[.pointer (some ⟨g, 0, none⟩), .int .u64 m] w fun e w' => e = .returned (.tuple #[]) ∧ RPost g (sipTake (v0, v1, v2, v3) m) w w' := by
  obtain ⟨⟨a, b, c, d⟩, hs⟩ : ∃ s, s = sipRounds 2 (v0, v1, v2, Go.bits .xor .u64 v3 m) := ⟨_, rfl⟩
  have hR : Aside0 (∀ W, Blk W g v0 v1 v2 (Go.bits .xor .u64 v3 m) → Calls Try.prog 31 #[.pointer (some ⟨g, 0, none⟩), .int .i64 2] W fun e w' => e = .returned (.tuple #[]) ∧ RPost g (a, b, c, d) W w') := ⟨fun W h => by rw [hs]; exact rounds_any g 2 (by omega) _ _ _ _ W h⟩
  have hT : Aside0 (sipTake (v0, v1, v2, v3) m = (Go.bits .xor .u64 a m, b, c, d)) := ⟨by unfold sipTake; rw [← hs]⟩
  clear hs
  have HB0 := Aside0.mk hb
  have c3 := (blk_cell hb 3).trans rfl
  have f3 := blk_frozen hb 3
  clear hb
  go_enter Try.func29, Try.ntmps29
  go_wp2
  go_region
  go_wp2_with (go_at_call 31; refine (hR.out _ (blk_drew (blk_put HB0.out 3 _ rfl))).mono ?_; rintro e w1 ⟨rfl, hr1, hB1⟩; have HR1 := Aside0.mk hr1; have HBB := Aside0.mk hB1; have d0 := (blk_cell hr1 0).trans rfl; have g0 := blk_frozen hr1 0; clear hr1 hB1)
  go_region
  go_wp2
  go_end0
  refine ⟨rfl, ?_⟩
  rw [hT.out]
  refine ⟨by (with_reducible repeat (first | refine blk_drewN ?_ _ | refine blk_drew ?_)); exact blk_put HR1.out 0 _ rfl, ?_⟩
  (repeat (first | apply Below.drew | apply pw_below_drewN | refine Below.setCell ?_ (by exact Nat.le_refl _) _))
  exact Below.trans ((Below.setCell (Below.refl _ _) (by exact Nat.le_refl _) _).drew) HBB.out

theorem new_at (w : World) (o : Obj) {n : Nat} (h : w.heap.size = n) : (w.alloc o).heap[n]? = some o := by
  rw [← h]
  exact blk_new w o

/-- The reference's rounds: for a number of rounds from 0 to 100. -/
def kauditref23_words_rounds.f (a0_0 a0_1 a0_2 a0_3 a1 : Int) : Option (Int × Int × Int × Int) := if 0 ≤ a1 ∧ a1 ≤ 100 then some (sipRounds a1.toNat (a0_0, a0_1, a0_2, a0_3)) else none

abbrev BlkR (w : World) (g : Nat) (v0 v1 v2 v3 : Int) : Prop := w.heap[g]? = some (.cells #[.int .u64 v0, .int .u64 v1, .int .u64 v2, .int .u64 v3] 53 (0, 0))

set_option maxHeartbeats 8000000 in
set_option maxRecDepth 100000 in
theorem ref_rounds_any (n : Nat) (hn : n ≤ 100) (v0 v1 v2 v3 : Int) (w : World) (r0 r1 r2 r3 : Int) (hr : (r0, r1, r2, r3) = sipRounds n (v0, v1, v2, v3)) :
    Calls Try.prog 33 #[.agg #[.int .u64 v0, .int .u64 v1, .int .u64 v2, .int .u64 v3], .int .i64 n] w fun e w' => e = .returned (.agg #[.int .u64 r0, .int .u64 r1, .int .u64 r2, .int .u64 r3]) ∧ Below w.heap.size w w' := by
  have hu53 := Try.underlying53
  have HR := Aside0.mk hr
  clear hr
  go_enter Try.func33, Try.ntmps33
  go_wp2
  have hb0 : Aside0 (BlkR ((w.alloc (.cells #[.int .u64 v0, .int .u64 v1, .int .u64 v2, .int .u64 v3] 53)).alloc (.cells #[.int .u64 0, .int .u64 0, .int .u64 0, .int .u64 0] 53)) w.heap.size v0 v1 v2 v3) := ⟨blk_alloc (blk_new _ _) _⟩
  have hz0 : Aside0 (BlkR ((w.alloc (.cells #[.int .u64 v0, .int .u64 v1, .int .u64 v2, .int .u64 v3] 53)).alloc (.cells #[.int .u64 0, .int .u64 0, .int .u64 0, .int .u64 0] 53)) (w.heap.size + 1) 0 0 0 0) := ⟨new_at (w.alloc (.cells #[.int .u64 v0, .int .u64 v1, .int .u64 v2, .int .u64 v3] 53)) (.cells #[.int .u64 0, .int .u64 0, .int .u64 0, .int .u64 0] 53) (by simp)⟩
  have hB0 : Aside0 (Below w.heap.size w ((w.alloc (.cells #[.int .u64 v0, .int .u64 v1, .int .u64 v2, .int .u64 v3] 53)).alloc (.cells #[.int .u64 0, .int .u64 0, .int .u64 0, .int .u64 0] 53))) := ⟨below_alloc (below_alloc (Below.refl _ _) _) _⟩
  go_loopw [1] (fun i wr => ∃ (k : Nat) (x0 x1 x2 x3 : Int), i = .int .i64 k ∧ k ≤ n ∧ Aside0 (sipRounds k (x0, x1, x2, x3) = sipRounds n (v0, v1, v2, v3)) ∧ Aside0 (BlkR wr w.heap.size x0 x1 x2 x3) ∧ Aside0 (Below w.heap.size w wr) ∧ Aside0 (BlkR wr (w.heap.size + 1) 0 0 0 0)) (fun i _ => (intOf i).toNat)
  case atStart => exact ⟨n, v0, v1, v2, v3, rfl, Nat.le_refl _, ⟨rfl⟩, hb0, hB0, hz0⟩
  case round =>
    clear hb0 hB0 hz0
    obtain ⟨k, x0, x1, x2, x3, rfl, hk, hs, hb1, hB, hz1⟩ := hrel
    by_cases hk0 : 0 < k
    · have hs' : Aside0 (sipRounds (k - 1) (sipRound (x0, x1, x2, x3)) = sipRounds n (v0, v1, v2, v3)) := ⟨(sipRounds_step k hk0 _).symm.trans hs.out⟩
      have c0 := (blk_cell hb1.out 0).trans rfl
      have c1 := (blk_cell hb1.out 1).trans rfl
      have c2 := (blk_cell hb1.out 2).trans rfl
      have c3 := (blk_cell hb1.out 3).trans rfl
      have f0 := blk_frozen hb1.out 0
      have f1 := blk_frozen hb1.out 1
      have f2 := blk_frozen hb1.out 2
      have f3 := blk_frozen hb1.out 3
      go_upto_region 3 with fail
      go_cut [] (fun wx => ∃ y0 : Int, Aside0 (y0 = IntKind.u64.wrap (x0 + x1)) ∧ Aside0 (BlkR wx w.heap.size y0 x1 x2 x3) ∧ Aside0 (Below w.heap.size w wx) ∧ Aside0 (BlkR wx (w.heap.size + 1) 0 0 0 0))
      case first =>
        go_wp2_with fail
        all_goals
          go_meet
          exact ⟨_, ⟨rfl⟩, ⟨by (with_reducible repeat (first | refine blk_drewN ?_ _ | refine blk_drew ?_)); refine blk_put hb1.out 0 _ rfl⟩, ⟨by (repeat (first | apply Below.drew | apply pw_below_drewN | refine Below.setCell ?_ (by exact (Nat.le_refl _)) _)); exact hB.out⟩, ⟨by (with_reducible repeat (first | refine blk_drewN ?_ _ | refine blk_drew ?_)); refine blk_far ?_ (by simp) _; (with_reducible repeat (first | refine blk_drewN ?_ _ | refine blk_drew ?_)); exact hz1.out⟩⟩
      case rest =>
      obtain ⟨y0, hy0, hb2, hB2, hz2⟩ := hcut
      clear c0 c1 c2 c3 f0 f1 f2 f3
      have c0 := (blk_cell hb2.out 0).trans rfl
      have c1 := (blk_cell hb2.out 1).trans rfl
      have c2 := (blk_cell hb2.out 2).trans rfl
      have c3 := (blk_cell hb2.out 3).trans rfl
      have f0 := blk_frozen hb2.out 0
      have f1 := blk_frozen hb2.out 1
      have f2 := blk_frozen hb2.out 2
      have f3 := blk_frozen hb2.out 3
      go_upto_region 4 with fail
      go_cut [] (fun wx => ∃ y1 : Int, Aside0 (y1 = Go.bits .xor .u64 (rotN x1 13) y0) ∧ Aside0 (BlkR wx w.heap.size y0 y1 x2 x3) ∧ Aside0 (Below w.heap.size w wx) ∧ Aside0 (BlkR wx (w.heap.size + 1) 0 0 0 0))
      case first =>
        go_region_with ((go_at_call 36; refine (turn_any _ _ _ (by omega) (by omega)).mono ?_; rintro e w' ⟨rfl, ⟨nd, rfl⟩⟩))
        all_goals
          go_wp2_with fail
          go_meet
          exact ⟨_, ⟨rfl⟩, ⟨by (with_reducible repeat (first | refine blk_drewN ?_ _ | refine blk_drew ?_)); refine blk_put hb2.out 1 _ rfl⟩, ⟨by (repeat (first | apply Below.drew | apply pw_below_drewN | refine Below.setCell ?_ (by exact (Nat.le_refl _)) _)); exact hB2.out⟩, ⟨by (with_reducible repeat (first | refine blk_drewN ?_ _ | refine blk_drew ?_)); refine blk_far ?_ (by simp) _; (with_reducible repeat (first | refine blk_drewN ?_ _ | refine blk_drew ?_)); exact hz2.out⟩⟩
      case rest =>
      obtain ⟨y1, hy1, hb3, hB3, hz3⟩ := hcut
      clear c0 c1 c2 c3 f0 f1 f2 f3
      have c0 := (blk_cell hb3.out 0).trans rfl
      have c1 := (blk_cell hb3.out 1).trans rfl
      have c2 := (blk_cell hb3.out 2).trans rfl
      have c3 := (blk_cell hb3.out 3).trans rfl
      have f0 := blk_frozen hb3.out 0
      have f1 := blk_frozen hb3.out 1
      have f2 := blk_frozen hb3.out 2
      have f3 := blk_frozen hb3.out 3
      go_upto_region 5 with fail
      go_cut [] (fun wx => ∃ y2 : Int, Aside0 (y2 = rotN y0 32) ∧ Aside0 (BlkR wx w.heap.size y2 y1 x2 x3) ∧ Aside0 (Below w.heap.size w wx) ∧ Aside0 (BlkR wx (w.heap.size + 1) 0 0 0 0))
      case first =>
        go_wp2_with ((go_at_call 36; refine (turn_any _ _ _ (by omega) (by omega)).mono ?_; rintro e w' ⟨rfl, ⟨nd, rfl⟩⟩))
        all_goals
          go_meet
          exact ⟨_, ⟨rfl⟩, ⟨by (with_reducible repeat (first | refine blk_drewN ?_ _ | refine blk_drew ?_)); refine blk_put hb3.out 0 _ rfl⟩, ⟨by (repeat (first | apply Below.drew | apply pw_below_drewN | refine Below.setCell ?_ (by exact (Nat.le_refl _)) _)); exact hB3.out⟩, ⟨by (with_reducible repeat (first | refine blk_drewN ?_ _ | refine blk_drew ?_)); refine blk_far ?_ (by simp) _; (with_reducible repeat (first | refine blk_drewN ?_ _ | refine blk_drew ?_)); exact hz3.out⟩⟩
      case rest =>
      obtain ⟨y2, hy2, hb4, hB4, hz4⟩ := hcut
      clear c0 c1 c2 c3 f0 f1 f2 f3
      have c0 := (blk_cell hb4.out 0).trans rfl
      have c1 := (blk_cell hb4.out 1).trans rfl
      have c2 := (blk_cell hb4.out 2).trans rfl
      have c3 := (blk_cell hb4.out 3).trans rfl
      have f0 := blk_frozen hb4.out 0
      have f1 := blk_frozen hb4.out 1
      have f2 := blk_frozen hb4.out 2
      have f3 := blk_frozen hb4.out 3
      go_upto_region 6 with fail
      go_cut [] (fun wx => ∃ y3 : Int, Aside0 (y3 = IntKind.u64.wrap (x2 + x3)) ∧ Aside0 (BlkR wx w.heap.size y2 y1 y3 x3) ∧ Aside0 (Below w.heap.size w wx) ∧ Aside0 (BlkR wx (w.heap.size + 1) 0 0 0 0))
      case first =>
        go_wp2_with fail
        all_goals
          go_meet
          exact ⟨_, ⟨rfl⟩, ⟨by (with_reducible repeat (first | refine blk_drewN ?_ _ | refine blk_drew ?_)); refine blk_put hb4.out 2 _ rfl⟩, ⟨by (repeat (first | apply Below.drew | apply pw_below_drewN | refine Below.setCell ?_ (by exact (Nat.le_refl _)) _)); exact hB4.out⟩, ⟨by (with_reducible repeat (first | refine blk_drewN ?_ _ | refine blk_drew ?_)); refine blk_far ?_ (by simp) _; (with_reducible repeat (first | refine blk_drewN ?_ _ | refine blk_drew ?_)); exact hz4.out⟩⟩
      case rest =>
      obtain ⟨y3, hy3, hb5, hB5, hz5⟩ := hcut
      clear c0 c1 c2 c3 f0 f1 f2 f3
      have c0 := (blk_cell hb5.out 0).trans rfl
      have c1 := (blk_cell hb5.out 1).trans rfl
      have c2 := (blk_cell hb5.out 2).trans rfl
      have c3 := (blk_cell hb5.out 3).trans rfl
      have f0 := blk_frozen hb5.out 0
      have f1 := blk_frozen hb5.out 1
      have f2 := blk_frozen hb5.out 2
      have f3 := blk_frozen hb5.out 3
      go_upto_region 7 with fail
      go_cut [] (fun wx => ∃ y4 : Int, Aside0 (y4 = Go.bits .xor .u64 (rotN x3 16) y3) ∧ Aside0 (BlkR wx w.heap.size y2 y1 y3 y4) ∧ Aside0 (Below w.heap.size w wx) ∧ Aside0 (BlkR wx (w.heap.size + 1) 0 0 0 0))
      case first =>
        go_region_with ((go_at_call 36; refine (turn_any _ _ _ (by omega) (by omega)).mono ?_; rintro e w' ⟨rfl, ⟨nd, rfl⟩⟩))
        all_goals
          go_wp2_with fail
          go_meet
          exact ⟨_, ⟨rfl⟩, ⟨by (with_reducible repeat (first | refine blk_drewN ?_ _ | refine blk_drew ?_)); refine blk_put hb5.out 3 _ rfl⟩, ⟨by (repeat (first | apply Below.drew | apply pw_below_drewN | refine Below.setCell ?_ (by exact (Nat.le_refl _)) _)); exact hB5.out⟩, ⟨by (with_reducible repeat (first | refine blk_drewN ?_ _ | refine blk_drew ?_)); refine blk_far ?_ (by simp) _; (with_reducible repeat (first | refine blk_drewN ?_ _ | refine blk_drew ?_)); exact hz5.out⟩⟩
      case rest =>
      obtain ⟨y4, hy4, hb6, hB6, hz6⟩ := hcut
      clear c0 c1 c2 c3 f0 f1 f2 f3
      have c0 := (blk_cell hb6.out 0).trans rfl
      have c1 := (blk_cell hb6.out 1).trans rfl
      have c2 := (blk_cell hb6.out 2).trans rfl
      have c3 := (blk_cell hb6.out 3).trans rfl
      have f0 := blk_frozen hb6.out 0
      have f1 := blk_frozen hb6.out 1
      have f2 := blk_frozen hb6.out 2
      have f3 := blk_frozen hb6.out 3
      go_upto_region 8 with fail
      go_cut [] (fun wx => ∃ y5 : Int, Aside0 (y5 = IntKind.u64.wrap (y2 + y4)) ∧ Aside0 (BlkR wx w.heap.size y5 y1 y3 y4) ∧ Aside0 (Below w.heap.size w wx) ∧ Aside0 (BlkR wx (w.heap.size + 1) 0 0 0 0))
      case first =>
        go_wp2_with fail
        all_goals
          go_meet
          exact ⟨_, ⟨rfl⟩, ⟨by (with_reducible repeat (first | refine blk_drewN ?_ _ | refine blk_drew ?_)); refine blk_put hb6.out 0 _ rfl⟩, ⟨by (repeat (first | apply Below.drew | apply pw_below_drewN | refine Below.setCell ?_ (by exact (Nat.le_refl _)) _)); exact hB6.out⟩, ⟨by (with_reducible repeat (first | refine blk_drewN ?_ _ | refine blk_drew ?_)); refine blk_far ?_ (by simp) _; (with_reducible repeat (first | refine blk_drewN ?_ _ | refine blk_drew ?_)); exact hz6.out⟩⟩
      case rest =>
      obtain ⟨y5, hy5, hb7, hB7, hz7⟩ := hcut
      clear c0 c1 c2 c3 f0 f1 f2 f3
      have c0 := (blk_cell hb7.out 0).trans rfl
      have c1 := (blk_cell hb7.out 1).trans rfl
      have c2 := (blk_cell hb7.out 2).trans rfl
      have c3 := (blk_cell hb7.out 3).trans rfl
      have f0 := blk_frozen hb7.out 0
      have f1 := blk_frozen hb7.out 1
      have f2 := blk_frozen hb7.out 2
      have f3 := blk_frozen hb7.out 3
      go_upto_region 9 with fail
      go_cut [] (fun wx => ∃ y6 : Int, Aside0 (y6 = Go.bits .xor .u64 (rotN y4 21) y5) ∧ Aside0 (BlkR wx w.heap.size y5 y1 y3 y6) ∧ Aside0 (Below w.heap.size w wx) ∧ Aside0 (BlkR wx (w.heap.size + 1) 0 0 0 0))
      case first =>
        go_region_with ((go_at_call 36; refine (turn_any _ _ _ (by omega) (by omega)).mono ?_; rintro e w' ⟨rfl, ⟨nd, rfl⟩⟩))
        all_goals
          go_wp2_with fail
          go_meet
          exact ⟨_, ⟨rfl⟩, ⟨by (with_reducible repeat (first | refine blk_drewN ?_ _ | refine blk_drew ?_)); refine blk_put hb7.out 3 _ rfl⟩, ⟨by (repeat (first | apply Below.drew | apply pw_below_drewN | refine Below.setCell ?_ (by exact (Nat.le_refl _)) _)); exact hB7.out⟩, ⟨by (with_reducible repeat (first | refine blk_drewN ?_ _ | refine blk_drew ?_)); refine blk_far ?_ (by simp) _; (with_reducible repeat (first | refine blk_drewN ?_ _ | refine blk_drew ?_)); exact hz7.out⟩⟩
      case rest =>
      obtain ⟨y6, hy6, hb8, hB8, hz8⟩ := hcut
      clear c0 c1 c2 c3 f0 f1 f2 f3
      have c0 := (blk_cell hb8.out 0).trans rfl
      have c1 := (blk_cell hb8.out 1).trans rfl
      have c2 := (blk_cell hb8.out 2).trans rfl
      have c3 := (blk_cell hb8.out 3).trans rfl
      have f0 := blk_frozen hb8.out 0
      have f1 := blk_frozen hb8.out 1
      have f2 := blk_frozen hb8.out 2
      have f3 := blk_frozen hb8.out 3
      go_upto_region 10 with fail
      go_cut [] (fun wx => ∃ y7 : Int, Aside0 (y7 = IntKind.u64.wrap (y3 + y1)) ∧ Aside0 (BlkR wx w.heap.size y5 y1 y7 y6) ∧ Aside0 (Below w.heap.size w wx) ∧ Aside0 (BlkR wx (w.heap.size + 1) 0 0 0 0))
      case first =>
        go_wp2_with fail
        all_goals
          go_meet
          exact ⟨_, ⟨rfl⟩, ⟨by (with_reducible repeat (first | refine blk_drewN ?_ _ | refine blk_drew ?_)); refine blk_put hb8.out 2 _ rfl⟩, ⟨by (repeat (first | apply Below.drew | apply pw_below_drewN | refine Below.setCell ?_ (by exact (Nat.le_refl _)) _)); exact hB8.out⟩, ⟨by (with_reducible repeat (first | refine blk_drewN ?_ _ | refine blk_drew ?_)); refine blk_far ?_ (by simp) _; (with_reducible repeat (first | refine blk_drewN ?_ _ | refine blk_drew ?_)); exact hz8.out⟩⟩
      case rest =>
      obtain ⟨y7, hy7, hb9, hB9, hz9⟩ := hcut
      clear c0 c1 c2 c3 f0 f1 f2 f3
      have c0 := (blk_cell hb9.out 0).trans rfl
      have c1 := (blk_cell hb9.out 1).trans rfl
      have c2 := (blk_cell hb9.out 2).trans rfl
      have c3 := (blk_cell hb9.out 3).trans rfl
      have f0 := blk_frozen hb9.out 0
      have f1 := blk_frozen hb9.out 1
      have f2 := blk_frozen hb9.out 2
      have f3 := blk_frozen hb9.out 3
      go_upto_region 11 with fail
      go_cut [] (fun wx => ∃ y8 : Int, Aside0 (y8 = Go.bits .xor .u64 (rotN y1 17) y7) ∧ Aside0 (BlkR wx w.heap.size y5 y8 y7 y6) ∧ Aside0 (Below w.heap.size w wx) ∧ Aside0 (BlkR wx (w.heap.size + 1) 0 0 0 0))
      case first =>
        go_region_with ((go_at_call 36; refine (turn_any _ _ _ (by omega) (by omega)).mono ?_; rintro e w' ⟨rfl, ⟨nd, rfl⟩⟩))
        all_goals
          go_wp2_with fail
          go_meet
          exact ⟨_, ⟨rfl⟩, ⟨by (with_reducible repeat (first | refine blk_drewN ?_ _ | refine blk_drew ?_)); refine blk_put hb9.out 1 _ rfl⟩, ⟨by (repeat (first | apply Below.drew | apply pw_below_drewN | refine Below.setCell ?_ (by exact (Nat.le_refl _)) _)); exact hB9.out⟩, ⟨by (with_reducible repeat (first | refine blk_drewN ?_ _ | refine blk_drew ?_)); refine blk_far ?_ (by simp) _; (with_reducible repeat (first | refine blk_drewN ?_ _ | refine blk_drew ?_)); exact hz9.out⟩⟩
      case rest =>
      obtain ⟨y8, hy8, hb10, hB10, hz10⟩ := hcut
      clear c0 c1 c2 c3 f0 f1 f2 f3
      have c0 := (blk_cell hb10.out 0).trans rfl
      have c1 := (blk_cell hb10.out 1).trans rfl
      have c2 := (blk_cell hb10.out 2).trans rfl
      have c3 := (blk_cell hb10.out 3).trans rfl
      have f0 := blk_frozen hb10.out 0
      have f1 := blk_frozen hb10.out 1
      have f2 := blk_frozen hb10.out 2
      have f3 := blk_frozen hb10.out 3
      go_upto_region 12 with fail
      go_wp2_with ((go_at_call 36; refine (turn_any _ _ _ (by omega) (by omega)).mono ?_; rintro e w' ⟨rfl, ⟨nd, rfl⟩⟩))
      go_roundw
      case rel =>
        have hz : ((k : Int) - 1) = ((k - 1 : Nat) : Int) := by omega
        refine ⟨k - 1, _, _, _, _, by first | rw [hz] | (simp only [hz]), by omega, ⟨?_⟩, ⟨by (with_reducible repeat (first | refine blk_drewN ?_ _ | refine blk_drew ?_)); refine blk_put hb10.out 2 _ rfl⟩, ⟨by (repeat (first | apply Below.drew | apply pw_below_drewN | refine Below.setCell ?_ (by exact Nat.le_refl _) _)); exact hB10.out⟩, ⟨by (with_reducible repeat (first | refine blk_drewN ?_ _ | refine blk_drew ?_)); refine blk_far ?_ (by simp) _; (with_reducible repeat (first | refine blk_drewN ?_ _ | refine blk_drew ?_)); exact hz10.out⟩⟩
        obtain ⟨rfl⟩ := hy0
        obtain ⟨rfl⟩ := hy1
        obtain ⟨rfl⟩ := hy2
        obtain ⟨rfl⟩ := hy3
        obtain ⟨rfl⟩ := hy4
        obtain ⟨rfl⟩ := hy5
        obtain ⟨rfl⟩ := hy6
        obtain ⟨rfl⟩ := hy7
        obtain ⟨rfl⟩ := hy8
        exact hs'.out
      case measure => simp [intOf]; omega
    · have hk00 : k = 0 := by omega
      subst hk00
      obtain ⟨h0, h1, h2, h3⟩ : r0 = x0 ∧ r1 = x1 ∧ r2 = x2 ∧ r3 = x3 := by
        have h := HR.out.trans hs.out.symm
        simpa [sipRounds] using h
      subst h0 h1 h2 h3
      have c0 := (blk_cell hb1.out 0).trans rfl
      have c1 := (blk_cell hb1.out 1).trans rfl
      have c2 := (blk_cell hb1.out 2).trans rfl
      have c3 := (blk_cell hb1.out 3).trans rfl
      have d0 := (blk_cell hz1.out 0).trans rfl
      have d1 := (blk_cell hz1.out 1).trans rfl
      have d2 := (blk_cell hz1.out 2).trans rfl
      have d3 := (blk_cell hz1.out 3).trans rfl
      have f0 := blk_frozen hz1.out 0
      have f1 := blk_frozen hz1.out 1
      have f2 := blk_frozen hz1.out 2
      have f3 := blk_frozen hz1.out 3
      go_wp2
      refine bodyPost_ret (results_cell_row rfl _ _ (w.heap.size + 1) 53 #[.int .u64 r0, .int .u64 r1, .int .u64 r2, .int .u64 r3] (0, 0) _ rfl ?_ Try.underlying53 rfl (by kernel_rfl)) rfl ?_
      · exact blk_put (blk_put (blk_put (blk_put hz1.out 0 _ rfl) 1 _ rfl) 2 _ rfl) 3 _ rfl
      · exact ⟨rfl, by (repeat (refine Below.setCell ?_ (by exact Nat.le_succ _) _)); exact hB.out⟩

theorem kauditref23_words_rounds.calls (a0_0 a0_1 a0_2 a0_3 a1 r1 r2 r3 r4 : Int) (w : World) (h : kauditref23_words_rounds.f a0_0 a0_1 a0_2 a0_3 a1 = some (r1, r2, r3, r4)) :
    Calls Try.prog 33 #[.agg #[.int .u64 a0_0, .int .u64 a0_1, .int .u64 a0_2, .int .u64 a0_3], .int .i64 a1] w fun e w' => e = .returned (.agg #[.int .u64 r1, .int .u64 r2, .int .u64 r3, .int .u64 r4]) ∧ Below w.heap.size w w' := by
  unfold kauditref23_words_rounds.f at h
  split at h
  · next hn =>
    obtain ⟨n, rfl⟩ : ∃ n : Nat, a1 = (n : Int) := ⟨a1.toNat, by omega⟩
    have h1 := Option.some.inj h
    rw [Int.toNat_natCast] at h1
    exact ref_rounds_any n (by omega) _ _ _ _ w r1 r2 r3 r4 h1.symm
  · cases h

end Go.Proofs.Ytdgmjhfkaplneaa.PAll
