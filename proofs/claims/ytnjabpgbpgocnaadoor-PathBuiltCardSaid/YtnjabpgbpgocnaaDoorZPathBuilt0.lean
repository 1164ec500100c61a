/- For PathBuilt: contracts of the functions that it reaches and plain facts, joined out of 30 texts by a program (merge_claim.py): PAllx0, PAllx1, PAllx6, PAllx7, PAllx8, HandC0, HandI, PAllx12, HandC1, PAllx16, HandC2, HandL, HandC, PAllx21, PAllx22, PAllx23, PAllx24, PAllx28, PAllx29, PAllx30, PAllx31, PAllx32, PAllx35, HandR, PAllx38, PAllx39, HandP0, HandP1, HandP2, HandP3. Each text's own conditions stand at its head below. -/
import Derived.Test.YtnjabpgbpgocnaaDoorProg
import Derived.Below
import Derived.Deep.Draws
import Derived.Deep.AppendLies
import Derived.Maps.AppendAt
import Derived.OwnWalk
import Derived.Laws.BytesArg
import Derived.Laws.MakeOwn
import Derived.Laws.OwnMore
import Derived.Deep.OwnRows
import Derived.Tactics
import Derived.Lib.ConvBytes
import Derived.Laws.Slices
import Derived.WalkKit
import Derived.KernelRfl
import Derived.RowKit3
import Derived.Deep.LoopGhost
import Derived.Deep.QuietTactic
import Derived.BigQuiet
import Derived.WideLaws
import Derived.Deep.DeepCutAuto
import Derived.Deep.CutBlock
import Derived.Deep.RegionHeld3
import Derived.Laws.Rows
import Derived.Lib.AppendStr
import Derived.ArgAppend
import Derived.Laws.IdiomCopy
import Derived.OrdersHeld
import Derived.Laws.BitsLemmas
import Derived.RowKit
import Derived.Test.YtnjabpgbpgocnaaDoorWWords
import Derived.Test.YtnjabpgbpgocnaaDoorWLast
import Derived.Test.YtnjabpgbpgocnaaDoorWTab
import Derived.Test.YtnjabpgbpgocnaaDoorWFour
import Derived.Test.YtnjabpgbpgocnaaDoorWQPut
import Derived.Test.YtnjabpgbpgocnaaDoorWApart
import Derived.Test.YtnjabpgbpgocnaaDoorWArr
import Derived.Test.YtnjabpgbpgocnaaDoorWZeros
import Derived.Test.YtnjabpgbpgocnaaDoorWFoot
import Derived.Test.YtnjabpgbpgocnaaDoorWKept
import Derived.Test.YtnjabpgbpgocnaaDoorWShare
import Derived.Test.YtnjabpgbpgocnaaDoorWN
import Derived.Test.YtnjabpgbpgocnaaDoorWFootNe
import Derived.Test.YtnjabpgbpgocnaaDoorWAt
import Derived.Test.YtnjabpgbpgocnaaDoorWEqStruct
import Derived.Test.YtnjabpgbpgocnaaDoorWRepsOne
import Derived.Test.YtnjabpgbpgocnaaDoorWInv
import Derived.Test.YtnjabpgbpgocnaaDoorWInvWords
import Derived.Test.YtnjabpgbpgocnaaDoorWGuard
import Derived.Test.YtnjabpgbpgocnaaDoorWNEv
import Derived.Test.YtnjabpgbpgocnaaDoorWMore
import Derived.Laws.RangeAny
import Derived.Lib.Strings
import Derived.Lib.Slices
import Derived.Lib.Walk
import Derived.Lib.Bytealg
import Derived.Lib.OthersKept
import Derived.Scope
import Derived.Lib.IndexAny
import Derived.Shelf.Strings.IndexAnyAll
import Derived.RangeFuncNested
import Derived.RangeFuncBound
import Derived.RangeFuncCalls
import Derived.RangeFuncLeaves
import Derived.Lib.IndexLaws
import Derived.Shelf.Abstract
import Derived.OwnWalkIn
import Derived.TacticsInMore
import Derived.LoopNIn
import Derived.LoopIn
import Derived.Lib.Hide

-- PAllx0
namespace Go.Proofs.YtnjabpgbpgocnaaDoor.PAll
open Go.RowKit Go.Proofs.YtnjabpgbpgocnaaDoorW.PrintWords Go.Proofs.YtnjabpgbpgocnaaDoorW.PrintLast Go.Proofs.YtnjabpgbpgocnaaDoorW.PrintMore
attribute [local go_sem] max2_int min2_int max_two min_two max_three min_three max_four min_four   -- for this text's walks alone
set_option linter.unusedVariables false
set_option linter.unusedSimpArgs false



def errW : Option Int → Value
  | none => .nilIface
  | some c => .iface 0 (.int .i64 c)
theorem errW_none : errW none = .nilIface := rfl
theorem errW_some (c : Int) : errW (some c) = .iface 0 (.int .i64 c) := rfl

theorem info3 : (Tryd.prog.info? 3).map (fun i => (i.zero, i.size, i.bytes)) = some (some (.int .i64 0), 1, 8) := by kernel_rfl
theorem info9 : (Tryd.prog.info? 9).map (fun i => (i.zero, i.size, i.bytes)) = some (some (.string ⟨#[]⟩), 1, 16) := by kernel_rfl
-- the values' own types

end Go.Proofs.YtnjabpgbpgocnaaDoor.PAll

-- PAllx1
namespace Go.Proofs.YtnjabpgbpgocnaaDoor.PAll
open Go.RowKit Go.Proofs.YtnjabpgbpgocnaaDoorW.PrintWords Go.Proofs.YtnjabpgbpgocnaaDoorW.PrintLast Go.Proofs.YtnjabpgbpgocnaaDoorW.PrintMore
attribute [local go_sem] max2_int min2_int max_two min_two max_three min_three max_four min_four   -- for this text's walks alone
set_option linter.unusedVariables false
set_option linter.unusedSimpArgs false

/-- A state of type 39 at block g of W; what its slices lead to came in by w0. -/
def IsS39 (w0 W : World) (g : Nat) (f0 : List Int) (f1 : Int) : Prop := ∃ A0 c0, W.heap[g]? = some (.cells #[.slice A0 f0.length c0, .int .i64 f1] 39 (0, 0)) ∧ w0.heap.size ≤ g ∧ Kd.C (Kd.int .i64) w0 A0 f0.length f0
theorem IsS39.grown {w0 W : World} {g : Nat} {f0 : List Int} {f1 : Int} {W1 : World} {row : Option Nat} (h : IsS39 w0 W g f0 f1) (hw : W.grownBy W1 row) (hne : some g ≠ row) : IsS39 w0 W1 g f0 f1 := by
  obtain ⟨A0, c0, hb, hg, hr0⟩ := h
  exact ⟨A0, c0, blk_grown hb hw hne, hg, hr0⟩
theorem IsS39.own_neN {w0 W : World} {g : Nat} {f0 : List Int} {f1 : Int} {α : Type} {d : Kd α} {e : Nat} {base : Nat} {ok : Nat → Prop} {v : Value} {xs : List α} (h : IsS39 w0 W g f0 f1) (ho : Kd.N d e W base ok v xs) (ht : e ≠ 39) : some g ≠ v.ownBlock := by
  obtain ⟨A0, c0, hb, hg, hr0⟩ := h
  exact Kd.N_ne ho hb ht
theorem IsS39.fresh {w0 W : World} {g : Nat} {f0 : List Int} {f1 : Int} (h : IsS39 w0 W g f0 f1) : ∀ k, W.heap.size ≤ k → k ≠ g := by
  obtain ⟨A0, c0, hb, hg, hr0⟩ := h
  exact Kd.freshB hb
theorem IsS39.kept {w0 W : World} {g : Nat} {f0 : List Int} {f1 : Int} {W1 : World} {S : Nat → Prop} (h : IsS39 w0 W g f0 f1) (hk : Kept W W1 S) (hne : ¬ S g) : IsS39 w0 W1 g f0 f1 := by
  obtain ⟨A0, c0, hb, hg, hr0⟩ := h
  exact ⟨A0, c0, blk_kept hb hk hne, hg, hr0⟩
theorem IsS39.below {w0 W : World} {g : Nat} {f0 : List Int} {f1 : Int} {W1 : World} (h : IsS39 w0 W g f0 f1) (hw : Below W.heap.size W W1) : IsS39 w0 W1 g f0 f1 := h.grown (grown_of_below hw none) (by simp)
theorem IsS39.alloc {w0 W : World} {g : Nat} {f0 : List Int} {f1 : Int} (h : IsS39 w0 W g f0 f1) (o : Obj) : IsS39 w0 (W.alloc o) g f0 f1 := h.below (below_alloc (Below.refl _ _) o)
theorem IsS39.drewN {w0 W : World} {g : Nat} {f0 : List Int} {f1 : Int} (h : IsS39 w0 W g f0 f1) (m : Nat) : IsS39 w0 (W.drewN m) g f0 f1 := h
theorem IsS39.drew {w0 W : World} {g : Nat} {f0 : List Int} {f1 : Int} (h : IsS39 w0 W g f0 f1) : IsS39 w0 W.drew g f0 f1 := h
theorem IsS39.at_ {w0 W : World} {g : Nat} {f0 : List Int} {f1 : Int} {w' : World} {m : Nat} (hq : W.drewN m = w') (h : IsS39 w0 W g f0 f1) : IsS39 w0 w' g f0 f1 := by subst hq; exact IsS39.drewN h m
theorem IsS39.apart {w0 W : World} {g : Nat} {f0 : List Int} {f1 : Int} {α : Type} {d : Kd α} {e : Nat} {base : Nat} {ok : Nat → Prop} {v : Value} {xs : List α} (h : IsS39 w0 W g f0 f1) (ho : d.R e W base ok v xs) (ht : ∀ q, q ∈ e :: d.E → q ≠ 39) : d.R e W base (fun k => ok k ∧ k ≠ g) v xs := by
  obtain ⟨A0, c0, hb, hg, hr0⟩ := h
  exact Kd.R_types ho hb ht
theorem IsS39.own_ne {w0 W : World} {g : Nat} {f0 : List Int} {f1 : Int} {α : Type} {d : Kd α} {e : Nat} {base : Nat} {ok : Nat → Prop} {v : Value} {xs : List α} (h : IsS39 w0 W g f0 f1) (ho : d.R e W base ok v xs) (ht : e ≠ 39) : some g ≠ v.ownBlock := by
  obtain ⟨A0, c0, hb, hg, hr0⟩ := h
  exact Kd.R_ne ho hb ht
theorem IsS39.apartQ {w0 W : World} {g : Nat} {f0 : List Int} {f1 : Int} {α : Type} {d : Kd α} {e : Nat} {base : Nat} {ok : Nat → Prop} {v : Value} {xs : List α} (h : IsS39 w0 W g f0 f1) (ho : d.Q e W base ok v xs) (ht : ∀ q, q ∈ e :: d.E → q ≠ 39) : d.Q e W base (fun k => ok k ∧ k ≠ g) v xs := by
  obtain ⟨A0, c0, hb, hg, hr0⟩ := h
  exact Kd.Q_types ho hb ht
theorem IsS39.own_neQ {w0 W : World} {g : Nat} {f0 : List Int} {f1 : Int} {α : Type} {d : Kd α} {e : Nat} {base : Nat} {ok : Nat → Prop} {v : Value} {xs : List α} (h : IsS39 w0 W g f0 f1) (ho : d.Q e W base ok v xs) (ht : e ≠ 39) : some g ≠ v.ownBlock := by
  obtain ⟨A0, c0, hb, hg, hr0⟩ := h
  exact Kd.Q_ne ho hb ht
theorem IsS39.apartS {w0 W : World} {g : Nat} {f0 : List Int} {f1 : Int} {α : Type} {d : Kd α} {e : Nat} {base : Nat} {ok : Nat → Prop} {v : Value} {xs : List α} (h : IsS39 w0 W g f0 f1) (ho : d.S e W base ok v xs) (ht : ∀ q, q ∈ e :: d.E → q ≠ 39) : d.S e W base (fun k => ok k ∧ k ≠ g) v xs := by
  obtain ⟨A0, c0, hb, hg, hr0⟩ := h
  exact Kd.S_types ho hb ht
theorem IsS39.own_neS {w0 W : World} {g : Nat} {f0 : List Int} {f1 : Int} {α : Type} {d : Kd α} {e : Nat} {base : Nat} {ok : Nat → Prop} {v : Value} {xs : List α} (h : IsS39 w0 W g f0 f1) (ho : d.S e W base ok v xs) (ht : e ≠ 39) : some g ≠ v.ownBlock := by
  obtain ⟨A0, c0, hb, hg, hr0⟩ := h
  exact Kd.S_ne ho hb ht
theorem IsS39.lt {w0 W : World} {g : Nat} {f0 : List Int} {f1 : Int} (h : IsS39 w0 W g f0 f1) : g < W.heap.size := by
  obtain ⟨A0, c0, hb, hg, hr0⟩ := h
  exact blk_lt hb
theorem IsS39.ge {w0 W : World} {g : Nat} {f0 : List Int} {f1 : Int} (h : IsS39 w0 W g f0 f1) : w0.heap.size ≤ g := by
  obtain ⟨A0, c0, hb, hg, hr0⟩ := h
  exact hg
theorem IsS39.ne_blk {w0 W : World} {g : Nat} {f0 : List Int} {f1 : Int} {a : Nat} {cs : Array Value} {t : TypeId} {fr : Nat × Nat} (h : IsS39 w0 W g f0 f1) (hb2 : W.heap[a]? = some (.cells cs t fr)) (ht : t ≠ 39) : g ≠ a := by
  obtain ⟨A0, c0, hb, hg, hr0⟩ := h
  rintro rfl
  rw [hb] at hb2
  injection hb2 with hb2
  injection hb2 with _ ht2
  exact ht ht2.symm
theorem IsS39.far {w0 W : World} {g : Nat} {f0 : List Int} {f1 : Int} {p : Addr} (h : IsS39 w0 W g f0 f1) (hne : g ≠ p.block) (u : Value) : IsS39 w0 (W.setCell p u) g f0 f1 := by
  obtain ⟨A0, c0, hb, hg, hr0⟩ := h
  exact ⟨A0, c0, blk_far hb hne u, hg, hr0⟩
theorem cellS39_0 {W : World} {g : Nat} {A0 : Option Addr} {c0 : Nat} {f0 : List Int} {f1 : Int} (h : W.heap[g]? = some (.cells #[.slice A0 f0.length c0, .int .i64 f1] 39 (0, 0))) : W.cell? ⟨g, 0, none⟩ = some (.slice A0 f0.length c0) := (blk_cell h 0).trans rfl
theorem cellS39_1 {W : World} {g : Nat} {A0 : Option Addr} {c0 : Nat} {f0 : List Int} {f1 : Int} (h : W.heap[g]? = some (.cells #[.slice A0 f0.length c0, .int .i64 f1] 39 (0, 0))) : W.cell? ⟨g, 1, none⟩ = some (.int .i64 f1) := (blk_cell h 1).trans rfl
theorem IsS39.set_1 {w0 W : World} {g : Nat} {f0 : List Int} {f1 : Int} (h : IsS39 w0 W g f0 f1) (x : Int) : IsS39 w0 (W.setCell ⟨g, 1, none⟩ (.int .i64 x)) g f0 x := by
  obtain ⟨A0, c0, hb, hg, hr0⟩ := h
  exact ⟨A0, c0, by simpa using blk_set hb 1 (.int .i64 x), hg, hr0⟩
theorem IsS39.new (w0 W : World) (A0 : Option Addr) (c0 : Nat) (f0 : List Int) (f1 : Int) (hB : Below w0.heap.size w0 W) (hr0 : Kd.C (Kd.int .i64) w0 A0 f0.length f0) : IsS39 w0 (W.alloc (.cells #[.slice A0 f0.length c0, .int .i64 f1] 39)) W.heap.size f0 f1 := ⟨A0, c0, by simpa using heap_alloc_new W _, hB.size, hr0⟩

/-! ### kauditmake_New: function 10 -/
def kauditmake_New.f (l0 : List Int) : Option (List Int × Int) := some (l0, 0)
set_option maxHeartbeats 8000000 in
set_option maxRecDepth 100000 in
theorem kauditmake_New.calls (A0 : Option Addr) (c0 : Nat) (l0 : List Int) (r1 : List Int) (r2 : Int) (w0 w : World) (hB : Below w0.heap.size w0 w) (hr0 : Kd.C (Kd.int .i64) w0 A0 l0.length l0) (hc0 : l0.length ≤ c0) (h : kauditmake_New.f l0 = some (r1, r2)) :
    Calls Tryd.prog 10 #[.slice A0 l0.length c0] w fun e w' => ∃ g_ : Nat, e = .returned (.pointer (some ⟨g_, 0, none⟩)) ∧ IsS39 w0 w' g_ r1 r2 ∧ Below w0.heap.size w0 w' ∧ Below w.heap.size w w' := by
  have hu39 := Tryd.underlying39
  have HR0 := Aside0.mk hr0
  have HC0 := Aside0.mk hc0
  clear hr0 hc0
  have HBW := Aside0.mk (Below.refl w.heap.size w)
  have HW0 := Aside0.mk hB.size
  have HB := Aside0.mk hB
  clear hB
  have H : (some (l0, 0)) = some (r1, r2) := h
  clear h
  simp only [Option.some.injEq, Prod.mk.injEq] at H
  obtain ⟨rfl, rfl⟩ := H
  go_enter Tryd.func10, Tryd.ntmps10
  go_wp2_with (first | ((with_reducible refine gate_dst (N := 5) rfl ?_); refine box_event ?hg (N := 5) ?hd (cs := #[.slice A0 l0.length c0, .int .i64 0]) (t := 39) ?hr ?_; (case hd => rfl); (case hg => rfl); (case hr => first | (go_simp; done) | (go_simp; rfl)); intro gb101 hg w2 hbox hb; have n0_ := Aside0.mk (below_step HBW.out hb); have n1_ := Aside0.mk (below_step (by repeat (first | (with_reducible first | exact HB.out | apply below_alloc | apply pw_below_drewN | apply below_drew1) | exact HB.out)) hb); have n2_ := Aside0.mk (hbox); have n3_ := Aside0.mk ((by rw [hg]; exact (below_size (by repeat (first | (with_reducible first | exact HBW.out | apply below_alloc | apply pw_below_drewN | apply below_drew1) | exact HBW.out))) : w.heap.size ≤ gb101)); have n4_ := Aside0.mk ((Nat.le_trans HW0.out (by rw [hg]; exact (below_size (by repeat (first | (with_reducible first | exact HBW.out | apply below_alloc | apply pw_below_drewN | apply below_drew1) | exact HBW.out))) : w.heap.size ≤ gb101) : w0.heap.size ≤ gb101)); clear HBW; clear HB; have HBW := n0_; have HB := n1_; have BK101 := n2_; have GW101 := n3_; have GE101 := n4_; clear n0_ n1_ n2_ n3_ n4_; clear hb hbox hg))
  go_ret
  exact ⟨_, rfl, (show IsS39 w0 _ gb101 l0 0 from ⟨_, _, by (with_reducible repeat (first | refine blk_drewN ?_ _ | refine blk_drew ?_ | refine blk_alloc ?_ _)); exact BK101.out, GE101.out, HR0.out⟩), by repeat (first | (with_reducible first | exact HB.out | apply below_alloc | apply pw_below_drewN | apply below_drew1 | refine below_set ?_ GE101.out) | exact HB.out), by repeat (first | (with_reducible first | exact HBW.out | apply below_alloc | apply pw_below_drewN | apply below_drew1 | refine below_set ?_ GW101.out) | exact HBW.out)⟩

end Go.Proofs.YtnjabpgbpgocnaaDoor.PAll

-- PAllx6
namespace Go.Proofs.YtnjabpgbpgocnaaDoor.PAll
open Go.RowKit Go.Proofs.YtnjabpgbpgocnaaDoorW.PrintWords Go.Proofs.YtnjabpgbpgocnaaDoorW.PrintLast Go.Proofs.YtnjabpgbpgocnaaDoorW.PrintMore
attribute [local go_sem] max2_int min2_int max_two min_two max_three min_three max_four min_four   -- for this text's walks alone
set_option linter.unusedVariables false
set_option linter.unusedSimpArgs false

/-! ### stringslite_HasSuffix: function 39 -/
def stringslite_HasSuffix.f (a0 : ByteArray) (a1 : ByteArray) : Option (Bool) := if (a0.size : Int) ≥ (a1.size : Int) then (if 0 ≤ (wrap64 ((a0.size : Int) - (a1.size : Int))) then (if (wrap64 ((a0.size : Int) - (a1.size : Int))) ≤ (a0.size : Int) then (some ((a0.extract ((wrap64 ((a0.size : Int) - (a1.size : Int))) : Int).toNat a0.size).toList == a1.toList)) else (none)) else (none)) else (some false)
set_option maxHeartbeats 8000000 in
set_option maxRecDepth 100000 in
theorem stringslite_HasSuffix.calls (a0 : ByteArray) (a1 : ByteArray) (r : Bool) (w : World) (h : stringslite_HasSuffix.f a0 a1 = some r) :
    Calls Tryd.prog 39 #[.string a0, .string a1] w fun e w' => e = .returned (.bool r) ∧ Drawn0 w w' := by
  have H : (if (a0.size : Int) ≥ (a1.size : Int) then (if 0 ≤ (wrap64 ((a0.size : Int) - (a1.size : Int))) then (if (wrap64 ((a0.size : Int) - (a1.size : Int))) ≤ (a0.size : Int) then (some ((a0.extract ((wrap64 ((a0.size : Int) - (a1.size : Int))) : Int).toNat a0.size).toList == a1.toList)) else (none)) else (none)) else (some false)) = some r := h
  clear h
  by_cases c3 : (a0.size : Int) ≥ (a1.size : Int)
  · rw [if_pos c3] at H
    have c3b0 : decide ((a1.size : Int) ≤ (a0.size : Int)) = true := decide_eq_true c3
    have c3b1 : decide (a1.size ≤ a0.size) = true := decide_eq_true (Int.ofNat_le.mp c3)
    clear c3
    obtain ⟨ji4, hji4⟩ : ∃ j_ : Int, (wrap64 ((a0.size : Int) - (a1.size : Int))) = j_ := ⟨_, rfl⟩
    replace H : (if 0 ≤ (ji4) then (if (ji4) ≤ (a0.size : Int) then (some ((a0.extract ((ji4) : Int).toNat a0.size).toList == a1.toList)) else (none)) else (none)) = some r := by first | (rw [hji4] at H; exact H) | (simp only [hji4] at H ⊢; exact H)
    have hji4w : (IntKind.i64.wrap ((a0.size : Int) - (a1.size : Int))) = ji4 := (i64_w _).trans hji4
    by_cases c5 : 0 ≤ (ji4)
    · rw [if_pos c5] at H
      have c5b0 := eq_true c5
      have c5b1 : decide (0 ≤ (ji4)) = true := decide_eq_true c5
      clear c5
      by_cases c6 : (ji4) ≤ (a0.size : Int)
      · rw [if_pos c6] at H
        have c6b0 := eq_true c6
        have c6b1 : decide ((ji4) ≤ (a0.size : Int)) = true := decide_eq_true c6
        clear c6
        obtain rfl := Option.some.inj H
        go_enter Tryd.func39, Tryd.ntmps39
        go_wp2
        go_ret
        exact ⟨by first | rfl | (simp; done) | (simp only [← hji4] <;> (first | rfl | simp)) | (simp [*]; done), by repeat (first | exact Drawn0.refl _ | apply Drawn0.step)⟩
      · rw [if_neg c6] at H
        exact absurd H (by simp)
    · rw [if_neg c5] at H
      exact absurd H (by simp)
  · rw [if_neg c3] at H
    have c3b0 : decide ((a1.size : Int) ≤ (a0.size : Int)) = false := decide_eq_false c3
    have c3b1 : decide (a1.size ≤ a0.size) = false := decide_eq_false (fun h => c3 (Int.ofNat_le.mpr h))
    clear c3
    obtain rfl := Option.some.inj H
    go_enter Tryd.func39, Tryd.ntmps39
    go_wp2
    go_ret
    exact ⟨by first | rfl | (simp; done) | (simp [*]; done), by repeat (first | exact Drawn0.refl _ | apply Drawn0.step)⟩

end Go.Proofs.YtnjabpgbpgocnaaDoor.PAll

-- PAllx7
namespace Go.Proofs.YtnjabpgbpgocnaaDoor.PAll
open Go.RowKit Go.Proofs.YtnjabpgbpgocnaaDoorW.PrintWords Go.Proofs.YtnjabpgbpgocnaaDoorW.PrintLast Go.Proofs.YtnjabpgbpgocnaaDoorW.PrintMore
attribute [local go_sem] max2_int min2_int max_two min_two max_three min_three max_four min_four   -- for this text's walks alone
set_option linter.unusedVariables false
set_option linter.unusedSimpArgs false

/-! ### strings_HasSuffix: function 27 -/
def strings_HasSuffix.f (a0 : ByteArray) (a1 : ByteArray) : Option (Bool) := (stringslite_HasSuffix.f a0 a1).bind fun t119 => (some t119)
set_option maxHeartbeats 8000000 in
set_option maxRecDepth 100000 in
theorem strings_HasSuffix.calls (a0 : ByteArray) (a1 : ByteArray) (r : Bool) (w : World) (h : strings_HasSuffix.f a0 a1 = some r) :
    Calls Tryd.prog 27 #[.string a0, .string a1] w fun e w' => e = .returned (.bool r) ∧ Drawn0 w w' := by
  have H : ((stringslite_HasSuffix.f a0 a1).bind fun t119 => (some t119)) = some r := h
  clear h
  replace H := Option.bind_eq_some_iff.mp H
  obtain ⟨t119, A30, H⟩ := H
  replace H : (some t119) = some r := H
  have A3 := Aside0.mk A30
  clear A30
  obtain rfl := Option.some.inj H
  go_enter Tryd.func27, Tryd.ntmps27
  go_wp2_with (first | ((with_reducible refine gate_callee (f := 39) rfl ?_); refine goesL_ (some 7) rfl rfl Tryd.func39 (by kernel_rfl) rfl #[.string a0, .string a1] rfl (by (try simp only [List.map_toArray, List.map_cons, List.map_nil]); first | done | rfl | (simp only [List.length_drop, List.length_take]; rfl)) ?_; (with_reducible refine (stringslite_HasSuffix.calls a0 a1 t119 _ A3.out).mono ?_); rintro e w' ⟨rfl, ⟨nd, rfl⟩⟩; refine ⟨_, rfl, ?_⟩))
  go_ret
  exact ⟨by first | rfl | (simp; done) | (simp [*]; done), by repeat (first | exact Drawn0.refl _ | apply Drawn0.step)⟩

end Go.Proofs.YtnjabpgbpgocnaaDoor.PAll

-- PAllx8
namespace Go.Proofs.YtnjabpgbpgocnaaDoor.PAll
open Go.RowKit Go.Proofs.YtnjabpgbpgocnaaDoorW.PrintWords Go.Proofs.YtnjabpgbpgocnaaDoorW.PrintLast Go.Proofs.YtnjabpgbpgocnaaDoorW.PrintMore
attribute [local go_sem] max2_int min2_int max_two min_two max_three min_three max_four min_four   -- for this text's walks alone
set_option linter.unusedVariables false
set_option linter.unusedSimpArgs false

/-! ### path_Join: function 13 -/
def path_Join.f (a0 : ByteArray) (a1 : ByteArray) : Option (ByteArray) := (strings_HasSuffix.f a0 (⟨#[47]⟩ : ByteArray)).bind fun t120 => (if t120 = true then (if a0.size + a1.size ≤ 9223372036854775807 then (some (a0 ++ a1)) else (none)) else (if a0.size + 1 ≤ 9223372036854775807 then (if (a0 ++ (⟨#[47]⟩ : ByteArray)).size + a1.size ≤ 9223372036854775807 then (some ((a0 ++ (⟨#[47]⟩ : ByteArray)) ++ a1)) else (none)) else (none)))
set_option maxHeartbeats 8000000 in
set_option maxRecDepth 100000 in
theorem path_Join.calls (a0 : ByteArray) (a1 : ByteArray) (r : ByteArray) (w : World) (h : path_Join.f a0 a1 = some r) :
    Calls Tryd.prog 13 #[.string a0, .string a1] w fun e w' => e = .returned (.string r) ∧ Drawn0 w w' := by
  have H : ((strings_HasSuffix.f a0 (⟨#[47]⟩ : ByteArray)).bind fun t120 => (if t120 = true then (if a0.size + a1.size ≤ 9223372036854775807 then (some (a0 ++ a1)) else (none)) else (if a0.size + 1 ≤ 9223372036854775807 then (if (a0 ++ (⟨#[47]⟩ : ByteArray)).size + a1.size ≤ 9223372036854775807 then (some ((a0 ++ (⟨#[47]⟩ : ByteArray)) ++ a1)) else (none)) else (none)))) = some r := h
  clear h
  replace H := Option.bind_eq_some_iff.mp H
  obtain ⟨t120, A30, H⟩ := H
  replace H : (if t120 = true then (if a0.size + a1.size ≤ 9223372036854775807 then (some (a0 ++ a1)) else (none)) else (if a0.size + 1 ≤ 9223372036854775807 then (if (a0 ++ (⟨#[47]⟩ : ByteArray)).size + a1.size ≤ 9223372036854775807 then (some ((a0 ++ (⟨#[47]⟩ : ByteArray)) ++ a1)) else (none)) else (none))) = some r := H
  have A3 := Aside0.mk A30
  clear A30
  by_cases c4 : t120 = true
  · subst c4
    have H1 : (if a0.size + a1.size ≤ 9223372036854775807 then (some (a0 ++ a1)) else (none)) = some r := by rw [if_pos rfl] at H; exact H
    clear H
    have H := H1
    clear H1
    by_cases c5 : a0.size + a1.size ≤ 9223372036854775807
    · rw [if_pos c5] at H
      have c5b0 := eq_true c5
      have c5b1 : decide (a0.size + a1.size ≤ 9223372036854775807) = true := decide_eq_true c5
      try have c5b2 : (9223372036854775807 < a0.size + a1.size) = False := eq_false (Nat.not_lt.2 c5)
      obtain rfl := Option.some.inj H
      go_enter Tryd.func13, Tryd.ntmps13
      go_wp2_with (first | ((with_reducible refine gate_callee (f := 27) rfl ?_); refine goesL_ (some 6) rfl rfl Tryd.func27 (by kernel_rfl) rfl #[.string a0, .string (⟨#[47]⟩ : ByteArray)] rfl (by (try simp only [List.map_toArray, List.map_cons, List.map_nil]); first | done | rfl | (simp only [List.length_drop, List.length_take]; rfl)) ?_; (with_reducible refine (strings_HasSuffix.calls a0 (⟨#[47]⟩ : ByteArray) true _ A3.out).mono ?_); rintro e w' ⟨rfl, ⟨nd, rfl⟩⟩; refine ⟨_, rfl, ?_⟩))
      go_ret
      exact ⟨by first | rfl | (simp; done) | (simp [*]; done), by repeat (first | exact Drawn0.refl _ | apply Drawn0.step)⟩
    · rw [if_neg c5] at H
      exact absurd H (by simp)
  · replace c4 := Bool.eq_false_iff.mpr c4
    subst c4
    have H1 : (if a0.size + 1 ≤ 9223372036854775807 then (if (a0 ++ (⟨#[47]⟩ : ByteArray)).size + a1.size ≤ 9223372036854775807 then (some ((a0 ++ (⟨#[47]⟩ : ByteArray)) ++ a1)) else (none)) else (none)) = some r := by rw [if_neg (show ¬ (false = true) by decide)] at H; exact H
    clear H
    have H := H1
    clear H1
    by_cases c6 : a0.size + 1 ≤ 9223372036854775807
    · rw [if_pos c6] at H
      have c6b0 := eq_true c6
      have c6b1 : decide (a0.size + 1 ≤ 9223372036854775807) = true := decide_eq_true c6
      try have c6b2 : (9223372036854775807 < a0.size + 1) = False := eq_false (Nat.not_lt.2 c6)
      by_cases c7 : (a0 ++ (⟨#[47]⟩ : ByteArray)).size + a1.size ≤ 9223372036854775807
      · rw [if_pos c7] at H
        have c7b0 := eq_true c7
        have c7b1 : decide ((a0 ++ (⟨#[47]⟩ : ByteArray)).size + a1.size ≤ 9223372036854775807) = true := decide_eq_true c7
        try have c7b2 : (9223372036854775807 < (a0 ++ (⟨#[47]⟩ : ByteArray)).size + a1.size) = False := eq_false (Nat.not_lt.2 c7)
        obtain rfl := Option.some.inj H
        go_enter Tryd.func13, Tryd.ntmps13
        go_wp2_with (first | ((with_reducible refine gate_callee (f := 27) rfl ?_); refine goesL_ (some 6) rfl rfl Tryd.func27 (by kernel_rfl) rfl #[.string a0, .string (⟨#[47]⟩ : ByteArray)] rfl (by (try simp only [List.map_toArray, List.map_cons, List.map_nil]); first | done | rfl | (simp only [List.length_drop, List.length_take]; rfl)) ?_; (with_reducible refine (strings_HasSuffix.calls a0 (⟨#[47]⟩ : ByteArray) false _ A3.out).mono ?_); rintro e w' ⟨rfl, ⟨nd, rfl⟩⟩; refine ⟨_, rfl, ?_⟩))
        go_ret
        exact ⟨by first | rfl | (simp; done) | (simp [*]; done), by repeat (first | exact Drawn0.refl _ | apply Drawn0.step)⟩
      · rw [if_neg c7] at H
        exact absurd H (by simp)
    · rw [if_neg c6] at H
      exact absurd H (by simp)

end Go.Proofs.YtnjabpgbpgocnaaDoor.PAll

-- HandC0
/- What decoding gives. -/
namespace Go.Proofs.YtnjabpgbpgocnaaDoor.PAll
open Go

/-- What decoding a byte of 128 or more gives: a rune of 128 or more, and every byte stepped over is one of 128 or more. -/
theorem dec_high (s : ByteArray) (i : Nat) (hi : i < s.size) (hb : 128 ≤ (s.get! i).toNat) :
    128 ≤ (Utf8.decode s i).1 ∧ (Utf8.decode s i).1 ≤ 1114111 ∧ 1 ≤ (Utf8.decode s i).2 ∧ i + (Utf8.decode s i).2 ≤ s.size ∧ (∀ j, i ≤ j → j < i + (Utf8.decode s i).2 → 128 ≤ (s.get! j).toNat) ∧ ((Utf8.decode s i).1 < 55296 ∨ 57343 < (Utf8.decode s i).1) := by
  have hlt : ∀ k, (s.get! (i + k)).toNat < 256 := fun k => (s.get! (i + k)).toNat_lt
  have one : ∀ j, i ≤ j → j < i + 1 → 128 ≤ (s.get! j).toNat := fun j h1 h2 => by
    obtain rfl : j = i := by omega
    exact hb
  have h0 := hlt 0
  have h1 := hlt 1
  have h2 := hlt 2
  have h3 := hlt 3
  unfold Utf8.decode
  simp only [Nat.add_zero] at h0 ⊢
  rw [if_neg (by omega)]
  split
  · rename_i hc
    simp only [Bool.and_eq_true, beq_iff_eq, decide_eq_true_eq] at hc
    split
    · refine ⟨by omega, by simp only; omega, by simp, by simp only; omega, fun j h1 h2 => ?_, by simp only; omega⟩
      simp only at h2
      rcases (by omega : j = i ∨ j = i + 1) with rfl | rfl
      · exact hb
      · omega
    · exact ⟨by simp [Utf8.runeError], by simp [Utf8.runeError], by simp, by simp only; omega, one, by simp [Utf8.runeError]⟩
  · split
    · rename_i hc
      simp only [Bool.and_eq_true, beq_iff_eq, decide_eq_true_eq] at hc
      split
      · rename_i hv
        simp only [Bool.and_eq_true, Utf8.valid, Bool.or_eq_true, decide_eq_true_eq] at hv
        refine ⟨by simp only; omega, by simp only; omega, by simp, by simp only; omega, fun j h1 h2 => ?_, by simp only; omega⟩
        simp only at h2
        rcases (by omega : j = i ∨ j = i + 1 ∨ j = i + 2) with rfl | rfl | rfl
        · exact hb
        · omega
        · omega
      · exact ⟨by simp [Utf8.runeError], by simp [Utf8.runeError], by simp, by simp only; omega, one, by simp [Utf8.runeError]⟩
    · split
      · rename_i hc
        simp only [Bool.and_eq_true, beq_iff_eq, decide_eq_true_eq] at hc
        split
        · rename_i hv
          simp only [Bool.and_eq_true, Utf8.valid, Bool.or_eq_true, decide_eq_true_eq] at hv
          refine ⟨by simp only; omega, by simp only; omega, by simp, by simp only; omega, fun j h1 h2 => ?_, by simp only; omega⟩
          simp only at h2
          rcases (by omega : j = i ∨ j = i + 1 ∨ j = i + 2 ∨ j = i + 3) with rfl | rfl | rfl | rfl
          · exact hb
          · omega
          · omega
          · omega
        · exact ⟨by simp [Utf8.runeError], by simp [Utf8.runeError], by simp, by simp only; omega, one, by simp [Utf8.runeError]⟩
      · exact ⟨by simp [Utf8.runeError], by simp [Utf8.runeError], by simp, by simp only; omega, one, by simp [Utf8.runeError]⟩

theorem dec_low (s : ByteArray) (i : Nat) (hb : (s.get! i).toNat < 128) : Utf8.decode s i = ((s.get! i).toNat, 1) := by
  unfold Utf8.decode
  simp only [Nat.add_zero]
  rw [if_pos (by omega)]

end Go.Proofs.YtnjabpgbpgocnaaDoor.PAll

-- HandI
/- Contracts of stringslite.IndexByte and of stringslite.Index at a text of one byte, by hand (after the shelf's). -/
namespace Go.Proofs.YtnjabpgbpgocnaaDoor.PAll
open Go.RowKit Go.Proofs.YtnjabpgbpgocnaaDoorW.PrintWords Go.Proofs.YtnjabpgbpgocnaaDoorW.PrintLast Go.Proofs.YtnjabpgbpgocnaaDoorW.PrintMore
set_option linter.unusedVariables false
set_option linter.unusedSimpArgs false

set_option maxHeartbeats 1000000 in
set_option maxRecDepth 100000 in
theorem indexByte_any (s : ByteArray) (c : Int) (w : World) :
    Calls Tryd.prog 59 #[.string s, .int .u8 c] w fun e w' => e = .returned (.int .i64 (Lib.indexByte s.data.toList c.toNat.toUInt8)) ∧ w' = w := by
  go_enter Tryd.func59, Tryd.ntmps59
  go_wp2
  rw [run_callFunc_extern Tryd.func64 (by kernel_rfl) (by kernel_rfl) (by kernel_rfl) (e := Extern.BytealgIndexByte.indexByte) (by kernel_rfl), Lib.run_indexByteString]
  simp only [Result.andThen]
  rw [Oper.upon_value]
  go_wp2
  go_ret
  exact ⟨rfl, rfl⟩

def stringslite_IndexByte.f (s : ByteArray) (c : Int) : Option Int := some (Lib.indexByte s.data.toList c.toNat.toUInt8)

theorem stringslite_IndexByte.calls (a0 : ByteArray) (a1 : Int) (r : Int) (w : World) (h : stringslite_IndexByte.f a0 a1 = some r) :
    Calls Tryd.prog 59 #[.string a0, .int .u8 a1] w fun e w' => e = .returned (.int .i64 r) ∧ Drawn0 w w' := by
  obtain rfl := Option.some.inj h
  refine (indexByte_any a0 a1 w).mono ?_
  rintro e w' ⟨rfl, rfl⟩
  exact ⟨rfl, 0, rfl⟩

set_option maxHeartbeats 2000000 in
set_option maxRecDepth 100000 in
theorem index_one (s : ByteArray) (c : UInt8) (w : World) :
    Calls Tryd.prog 52 #[.string s, .string ⟨#[c]⟩] w fun e w' => e = .returned (.int .i64 (Lib.indexByte s.data.toList c)) ∧ w' = w := by
  go_enter Tryd.func52, Tryd.ntmps52
  go_wp2_with (go_at_call 59; refine (indexByte_any _ _ _).mono ?_; rintro e w' ⟨rfl, rfl⟩)
  · have h : ([c] == s.toList) = true := by assumption
    go_ret
    refine ⟨?_, rfl⟩
    have e : s.data.toList = [c] := by rw [← Lib.toList_data]; exact (beq_iff_eq.1 h).symm
    rw [e]
    simp [Lib.indexByte]
  · go_ret
    exact ⟨rfl, rfl⟩

/-- The first place of a slash; a text of another one byte or more is not asked for. -/
def stringslite_Index.f (s t : ByteArray) : Option Int := if t = ⟨#[47]⟩ then some (Lib.indexByte s.data.toList 47) else none

theorem stringslite_Index.calls (a0 : ByteArray) (a1 : ByteArray) (r : Int) (w : World) (h : stringslite_Index.f a0 a1 = some r) :
    Calls Tryd.prog 52 #[.string a0, .string a1] w fun e w' => e = .returned (.int .i64 r) ∧ Drawn0 w w' := by
  unfold stringslite_Index.f at h
  by_cases ht : a1 = ⟨#[47]⟩
  · rw [if_pos ht] at h
    obtain rfl := Option.some.inj h
    subst ht
    refine (index_one a0 47 w).mono ?_
    rintro e w' ⟨rfl, rfl⟩
    exact ⟨rfl, 0, rfl⟩
  · rw [if_neg ht] at h
    cases h

end Go.Proofs.YtnjabpgbpgocnaaDoor.PAll

-- PAllx12
namespace Go.Proofs.YtnjabpgbpgocnaaDoor.PAll
open Go.RowKit Go.Proofs.YtnjabpgbpgocnaaDoorW.PrintWords Go.Proofs.YtnjabpgbpgocnaaDoorW.PrintLast Go.Proofs.YtnjabpgbpgocnaaDoorW.PrintMore
attribute [local go_sem] max2_int min2_int max_two min_two max_three min_three max_four min_four   -- for this text's walks alone
set_option linter.unusedVariables false
set_option linter.unusedSimpArgs false

/-! ### utf8_ValidRune: function 56 -/
def utf8_ValidRune.j0 : Nat → Int → Bool → Option (Bool)
  | 0, _, _ => none
  | k + 1, x0, x3 => if x3 = true then (some true) else (if 57343 < x0 then (if x0 ≤ 1114111 then (some true) else (some false)) else (some false))
def utf8_ValidRune.f (k : Nat) (a0 : Int) : Option (Bool) := if 0 ≤ a0 then (utf8_ValidRune.j0 k a0 (decide (a0 < 55296))) else (utf8_ValidRune.j0 k a0 false)
theorem utf8_ValidRune.mono_l : ∀ k, (∀ y0 y1, LeO (utf8_ValidRune.j0 k y0 y1) (utf8_ValidRune.j0 (k + 1) y0 y1))
  | 0 => fun _ _ r h => by simp [utf8_ValidRune.j0] at h
  | k + 1 => by
    have ih0 := utf8_ValidRune.mono_l k
    · intro y0 y1
      unfold utf8_ValidRune.j0
      repeat' first
      | (with_reducible exact ih0 _ _)
      | (with_reducible exact LeO.refl _)
      | (with_reducible exact LeO.none _)
      | (with_reducible refine LeO.ite ?_ ?_)
      | (with_reducible refine LeO.bind ?_ (fun _ => ?_))
      | exact ih0 _ _
      | exact LeO.none _
      | refine LeO.ite ?_ ?_
      | refine LeO.bind ?_ (fun _ => ?_)
theorem utf8_ValidRune.mono : ∀ a0 k, LeO (utf8_ValidRune.f k a0) (utf8_ValidRune.f (k + 1) a0) := by
  intro a0 k
  have ih0 := utf8_ValidRune.mono_l k
  unfold utf8_ValidRune.f
  repeat' first
      | (with_reducible exact ih0 _ _)
      | (with_reducible exact LeO.refl _)
      | (with_reducible exact LeO.none _)
      | (with_reducible refine LeO.ite ?_ ?_)
      | (with_reducible refine LeO.bind ?_ (fun _ => ?_))
      | exact ih0 _ _
      | exact LeO.none _
      | refine LeO.ite ?_ ?_
      | refine LeO.bind ?_ (fun _ => ?_)
set_option maxHeartbeats 8000000 in
set_option maxRecDepth 100000 in
theorem utf8_ValidRune.calls (k : Nat) (a0 : Int) (r : Bool) (w : World) (h : utf8_ValidRune.f k a0 = some r) :
    Calls Tryd.prog 56 #[.int .i32 a0] w fun e w' => e = .returned (.bool r) ∧ Drawn0 w w' := by
  have H : (if 0 ≤ a0 then (utf8_ValidRune.j0 k a0 (decide (a0 < 55296))) else (utf8_ValidRune.j0 k a0 false)) = some r := h
  clear h
  have HC2 := Aside0.mk H
  clear H
  go_enter Tryd.func56, Tryd.ntmps56
  go_upto_region 1 with (fail)
  go_cut [3] (fun v3 wc => ∃ (kq : Nat) (x3_1 : Bool), v3 = .bool x3_1 ∧ Aside0 (utf8_ValidRune.j0 kq a0 x3_1 = some r) ∧ Aside0 (kq ≤ k) ∧ Drawn0 w wc)
  case first =>
    have H := HC2.out
    clear HC2
    by_cases c3 : 0 ≤ a0
    · rw [if_pos c3] at H
      have c3b0 : decide (0 ≤ a0) = true := decide_eq_true c3
      clear c3
      (first | rw [c3b0] | (simp only [i64_w, i32_w]; rw [c3b0]) | skip)
      have H' := Aside0.mk H
      clear H
      go_wp2
      go_meet
      case rel => exact ⟨_, (decide (a0 < 55296)), (by first | rfl | (simp; done) | (simp [*]; done)), H', ⟨by first | omega | exact Nat.le_refl _⟩, by repeat (first | exact Drawn0.refl _ | apply Drawn0.step)⟩
    · rw [if_neg c3] at H
      have c3b0 : decide (0 ≤ a0) = false := decide_eq_false c3
      clear c3
      (first | rw [c3b0] | (simp only [i64_w, i32_w]; rw [c3b0]) | skip)
      have H' := Aside0.mk H
      clear H
      go_wp2
      go_meet
      case rel => exact ⟨_, (false), (by first | rfl | (simp; done) | (simp [*]; done)), H', ⟨by first | omega | exact Nat.le_refl _⟩, by repeat (first | exact Drawn0.refl _ | apply Drawn0.step)⟩
  case rest =>
    clear HC2
    try clear p2
    try clear c3
    try clear c3b0
    obtain ⟨kq, x3_1, rfl, HA, HJ1, ⟨mc1, rfl⟩⟩ := hcut
    cases kq with
    | zero => exact absurd HA.out (by simp [utf8_ValidRune.j0])
    | succ kj1 =>
      have H := HA.out
      clear HA
      simp only [utf8_ValidRune.j0] at H
      by_cases c4 : x3_1 = true
      · subst c4
        have H1 : (some true) = some r := by rw [if_pos rfl] at H; exact H
        clear H
        have H := H1
        clear H1
        obtain rfl := Option.some.inj H
        go_wp2
        go_ret
        exact ⟨by first | rfl | (simp; done) | (simp [*]; done), by repeat (first | exact Drawn0.refl _ | apply Drawn0.step)⟩
      · replace c4 := Bool.eq_false_iff.mpr c4
        subst c4
        have H1 : (if 57343 < a0 then (if a0 ≤ 1114111 then (some true) else (some false)) else (some false)) = some r := by rw [if_neg (show ¬ (false = true) by decide)] at H; exact H
        clear H
        have H := H1
        clear H1
        by_cases c5 : 57343 < a0
        · rw [if_pos c5] at H
          have c5b0 : decide (57343 < a0) = true := decide_eq_true c5
          clear c5
          by_cases c6 : a0 ≤ 1114111
          · rw [if_pos c6] at H
            have c6b0 : decide (a0 ≤ 1114111) = true := decide_eq_true c6
            clear c6
            obtain rfl := Option.some.inj H
            go_wp2
            go_ret
            exact ⟨by first | rfl | (simp; done) | (simp [*]; done), by repeat (first | exact Drawn0.refl _ | apply Drawn0.step)⟩
          · rw [if_neg c6] at H
            have c6b0 : decide (a0 ≤ 1114111) = false := decide_eq_false c6
            clear c6
            obtain rfl := Option.some.inj H
            go_wp2
            go_ret
            exact ⟨by first | rfl | (simp; done) | (simp [*]; done), by repeat (first | exact Drawn0.refl _ | apply Drawn0.step)⟩
        · rw [if_neg c5] at H
          have c5b0 : decide (57343 < a0) = false := decide_eq_false c5
          clear c5
          obtain rfl := Option.some.inj H
          go_wp2
          go_ret
          exact ⟨by first | rfl | (simp; done) | (simp [*]; done), by repeat (first | exact Drawn0.refl _ | apply Drawn0.step)⟩

end Go.Proofs.YtnjabpgbpgocnaaDoor.PAll

-- HandC1
/- Contracts on the way to strings.ContainsAny at the text "/\x00": decoding, IndexRune. -/
namespace Go.Proofs.YtnjabpgbpgocnaaDoor.PAll
open Go.RowKit Go.Proofs.YtnjabpgbpgocnaaDoorW.PrintWords Go.Proofs.YtnjabpgbpgocnaaDoorW.PrintLast Go.Proofs.YtnjabpgbpgocnaaDoorW.PrintMore
set_option linter.unusedVariables false
set_option linter.unusedSimpArgs false

set_option maxHeartbeats 1000000 in
set_option maxRecDepth 100000 in
theorem strIndexByte_any (s : ByteArray) (c : Int) (w : World) :
    Calls Tryd.prog 55 #[.string s, .int .u8 c] w fun e w' => e = .returned (.int .i64 (Lib.indexByte s.data.toList c.toNat.toUInt8)) ∧ w' = w := by
  go_enter Tryd.func55, Tryd.ntmps55
  go_wp2_with (go_at_call 59; refine (indexByte_any _ _ _).mono ?_; rintro e w' ⟨rfl, rfl⟩)
  go_ret
  exact ⟨rfl, rfl⟩

set_option maxHeartbeats 2000000 in
set_option maxRecDepth 100000 in
theorem strIndexByte_empty (c : Int) (w : World) :
    Calls Tryd.prog 55 #[.string ByteArray.empty, .int .u8 c] w fun e w' => e = .returned (.int .i64 (-1)) ∧ w' = w := by
  refine (strIndexByte_any ByteArray.empty c w).mono ?_
  rintro e w' ⟨rfl, rfl⟩
  exact ⟨rfl, rfl⟩

set_option maxHeartbeats 2000000 in
set_option maxRecDepth 100000 in
theorem indexRune_low (r : Int) (w : World) (h0 : 0 ≤ r) (h1 : r < 128) :
    Calls Tryd.prog 48 #[.string ⟨#[47, 0]⟩, .int .i32 r] w fun e w' => e = .returned (.int .i64 (Lib.indexByte [47, 0] r.toNat.toUInt8)) ∧ w' = w := by
  have hw : IntKind.u8.wrap r = r := by simp [IntKind.wrap, IntKind.signed, IntKind.bits]; omega
  have hd : decide (0 ≤ r) = true := decide_eq_true h0
  have hd1 : decide (r < 128) = true := decide_eq_true h1
  go_enter Tryd.func48, Tryd.ntmps48
  go_wp2_with (first | (go_at_call 55; refine (strIndexByte_any _ _ _).mono ?_; rintro e w' ⟨rfl, rfl⟩))
  go_ret
  exact ⟨rfl, rfl⟩

set_option maxHeartbeats 2000000 in
set_option maxRecDepth 100000 in
theorem indexRune_err (w : World) :
    Calls Tryd.prog 48 #[.string ⟨#[47, 0]⟩, .int .i32 65533] w fun e w' => e = .returned (.int .i64 (-1)) ∧ Below w.heap.size w w' := by
  go_enter Tryd.func48, Tryd.ntmps48
  go_wp2
  go_loopg [5, 6] 2 (fun g _ _ wx => ∃ i : Nat, i + g = 2 ∧ wx = w.iter ⟨#[47, 0]⟩ i)
  case atStart => exact ⟨0, rfl, rfl⟩
  case round =>
    obtain ⟨i, hig, rfl⟩ := hrel
    match gk, i, hig with
    | 2, 0, _ =>
      have hnx := fun ty => run_next_ascii (P := Tryd.prog) w ⟨#[47, 0]⟩ 0 ty (by decide) (by decide)
      go_wp2
      go_roundg 1
      case measure => omega
      case rel => exact ⟨1, rfl, rfl⟩
    | 1, 1, _ =>
      have hnx := fun ty => run_next_ascii (P := Tryd.prog) w ⟨#[47, 0]⟩ 1 ty (by decide) (by decide)
      go_wp2
      go_roundg 0
      case measure => omega
      case rel => exact ⟨2, rfl, rfl⟩
    | 0, 2, _ =>
      have hnx := fun ty => run_next_end (P := Tryd.prog) w ⟨#[47, 0]⟩ 2 ty (by decide)
      go_wp2
      go_ret
      exact ⟨rfl, (Below.refl _ w).alloc (Nat.le_refl _) _⟩

theorem encode_high (r : Int) (h0 : 128 ≤ r) (h1 : r ≤ 1114111) (hv : r < 55296 ∨ 57343 < r) :
    (∃ b0 b1 : UInt8, 128 ≤ b1.toNat ∧ Utf8.encode r = ⟨#[b0, b1]⟩) ∨ (∃ b0 b1 b2 : UInt8, Utf8.encode r = ⟨#[b0, b1, b2]⟩) ∨ ∃ b0 b1 b2 b3 : UInt8, Utf8.encode r = ⟨#[b0, b1, b2, b3]⟩ := by
  have hval : Utf8.valid r = true := by
    unfold Utf8.valid
    rcases hv with hv | hv
    · have : (decide (0 ≤ r) && decide (r < 55296)) = true := by simp; omega
      rw [this]; rfl
    · have : (decide (57344 ≤ r) && decide (r ≤ 1114111)) = true := by simp; omega
      rw [this, Bool.or_true]
  unfold Utf8.encode
  rw [hval]
  simp only [if_true]
  rw [if_neg (by omega)]
  split
  · refine .inl ⟨_, _, ?_, rfl⟩
    have : (128 + r.toNat % 64) < 256 := by omega
    simp [UInt8.toNat_ofNat', Nat.mod_eq_of_lt this]
  · split
    · exact .inr (.inl ⟨_, _, _, rfl⟩)
    · exact .inr (.inr ⟨_, _, _, _, rfl⟩)

theorem validRune_true (r : Int) (w : World) (h0 : 128 ≤ r) (h1 : r ≤ 1114111) (hv : r < 55296 ∨ 57343 < r) :
    Calls Tryd.prog 56 #[.int .i32 r] w fun e w' => e = .returned (.bool true) ∧ Drawn0 w w' := by
  refine utf8_ValidRune.calls 3 r true w ?_
  unfold utf8_ValidRune.f
  rw [if_pos (by omega)]
  rcases hv with hv | hv
  · rw [decide_eq_true (by omega)]
    simp [utf8_ValidRune.j0]
  · rw [decide_eq_false (by omega)]
    simp [utf8_ValidRune.j0, hv, h1]

set_option maxHeartbeats 2000000 in
set_option maxRecDepth 100000 in
theorem indexRune_high (r : Int) (w : World) (h0 : 128 ≤ r) (h1 : r ≤ 1114111) (h2 : r ≠ 65533) (hv : r < 55296 ∨ 57343 < r) :
    Calls Tryd.prog 48 #[.string ⟨#[47, 0]⟩, .int .i32 r] w fun e w' => e = .returned (.int .i64 (-1)) ∧ Below w.heap.size w w' := by
  have hd : decide (0 ≤ r) = true := decide_eq_true (by omega)
  have hd1 : decide (r < 128) = false := decide_eq_false (by omega)
  have hd2 : (r == 65533) = false := beq_eq_false_iff_ne.2 h2
  have hvr : Aside0 (∀ W, Calls Tryd.prog 56 #[.int .i32 r] W fun e w' => e = .returned (.bool true) ∧ Drawn0 W w') := ⟨fun W => validRune_true r W h0 h1 hv⟩
  rcases encode_high r h0 h1 hv with ⟨b0, b1, hb, he⟩ | ⟨b0, b1, b2, he⟩ | ⟨b0, b1, b2, b3, he⟩
  · have hb3 : (((((⟨#[47, 0]⟩ : ByteArray)[1]'(by decide)).toNat : Int)) != ((((⟨#[b0, b1]⟩ : ByteArray)[1]'(Nat.lt_succ_self 1)).toNat : Int))) = true := by
      have e1 : (((⟨#[47, 0]⟩ : ByteArray)[1]'(by decide)).toNat : Int) = 0 := rfl
      have e2 : (((⟨#[b0, b1]⟩ : ByteArray)[1]'(Nat.lt_succ_self 1)).toNat : Int) = (b1.toNat : Int) := rfl
      rw [e1, e2]
      simp only [bne_iff_ne, ne_eq]
      omega
    clear hb hv h0 h1 h2
    go_enter Tryd.func48, Tryd.ntmps48
    go_wp2_with (first | (go_at_call 56; refine (hvr.out _).mono ?_; rintro e w' ⟨rfl, ⟨nd, rfl⟩⟩))
    refine wp_scope_straight ?_
    go_wp2
    go_loopg [9] 1 (fun g v9 wx => g = 1 ∧ v9 = .int .i64 1 ∧ wx = w.drewN nd)
    case atStart => exact ⟨rfl, rfl, rfl⟩
    case round =>
      obtain ⟨rfl, rfl, rfl⟩ := hrel
      go_wp2
      refine wp_scope_straight ?_
      go_wp2
      go_region
      go_wp2
      go_region_with (go_at_call 55; refine (strIndexByte_empty _ _).mono ?_; rintro e w' ⟨rfl, rfl⟩)
      all_goals go_wp2
      all_goals (simp only [Exit.noGoto, Exit.inBlock, Exit.then]; go_ret; exact ⟨rfl, pw_below_drewN (Below.refl _ w) _⟩)
  · clear hv h0 h1 h2
    go_enter Tryd.func48, Tryd.ntmps48
    go_wp2_with (first | (go_at_call 56; refine (hvr.out _).mono ?_; rintro e w' ⟨rfl, ⟨nd, rfl⟩⟩))
    refine wp_scope_straight ?_
    go_wp2
    go_loopg [9] 1 (fun g v9 wx => g = 1 ∧ v9 = .int .i64 2 ∧ wx = w.drewN nd)
    case atStart => exact ⟨rfl, rfl, rfl⟩
    case round =>
      obtain ⟨rfl, rfl, rfl⟩ := hrel
      go_wp2
      simp only [Exit.noGoto, Exit.inBlock]
      go_ret
      exact ⟨rfl, pw_below_drewN (Below.refl _ w) _⟩
  · clear hv h0 h1 h2
    go_enter Tryd.func48, Tryd.ntmps48
    go_wp2_with (first | (go_at_call 56; refine (hvr.out _).mono ?_; rintro e w' ⟨rfl, ⟨nd, rfl⟩⟩))
    refine wp_scope_straight ?_
    go_wp2
    go_loopg [9] 1 (fun g v9 wx => g = 1 ∧ v9 = .int .i64 3 ∧ wx = w.drewN nd)
    case atStart => exact ⟨rfl, rfl, rfl⟩
    case round =>
      obtain ⟨rfl, rfl, rfl⟩ := hrel
      go_wp2
      simp only [Exit.noGoto, Exit.inBlock]
      go_ret
      exact ⟨rfl, pw_below_drewN (Below.refl _ w) _⟩

end Go.Proofs.YtnjabpgbpgocnaaDoor.PAll

-- PAllx16
namespace Go.Proofs.YtnjabpgbpgocnaaDoor.PAll
open Go.RowKit Go.Proofs.YtnjabpgbpgocnaaDoorW.PrintWords Go.Proofs.YtnjabpgbpgocnaaDoorW.PrintLast Go.Proofs.YtnjabpgbpgocnaaDoorW.PrintMore
attribute [local go_sem] max2_int min2_int max_two min_two max_three min_three max_four min_four   -- for this text's walks alone
set_option linter.unusedVariables false
set_option linter.unusedSimpArgs false

/-! ### strings_shouldUseASCIISet: function 49 -/
def strings_shouldUseASCIISet.f (a0 : Int) : Option (Bool) := some (decide (a0 > 8))
set_option maxHeartbeats 8000000 in
set_option maxRecDepth 100000 in
theorem strings_shouldUseASCIISet.calls (a0 : Int) (r : Bool) (w : World) (h : strings_shouldUseASCIISet.f a0 = some r) :
    Calls Tryd.prog 49 #[.int .i64 a0] w fun e w' => e = .returned (.bool r) ∧ Drawn0 w w' := by
  have H : (some (decide (a0 > 8))) = some r := h
  clear h
  obtain rfl := Option.some.inj H
  go_enter Tryd.func49, Tryd.ntmps49
  go_wp2
  go_ret
  exact ⟨by first | rfl | (simp; done) | (simp [*]; done), by repeat (first | exact Drawn0.refl _ | apply Drawn0.step)⟩

end Go.Proofs.YtnjabpgbpgocnaaDoor.PAll

-- HandC2
/- IndexAny at the text "/\x00", of a text of at most 8 bytes. -/
namespace Go.Proofs.YtnjabpgbpgocnaaDoor.PAll
open Go.RowKit Go.Proofs.YtnjabpgbpgocnaaDoorW.PrintWords Go.Proofs.YtnjabpgbpgocnaaDoorW.PrintLast Go.Proofs.YtnjabpgbpgocnaaDoorW.PrintMore
set_option linter.unusedVariables false
set_option linter.unusedSimpArgs false

/-- IndexRune for whatever decoding gives. -/
theorem indexRune_any (r : Int) (w : World) (h0 : 0 ≤ r) (h1 : r ≤ 1114111) (hv : r < 55296 ∨ 57343 < r) :
    Calls Tryd.prog 48 #[.string ⟨#[47, 0]⟩, .int .i32 r] w fun e w' => (∃ o : Int, e = .returned (.int .i64 o) ∧ (0 ≤ o ↔ r = 47 ∨ r = 0)) ∧ Below w.heap.size w w' := by
  by_cases hl : r < 128
  · refine (indexRune_low r w h0 hl).mono ?_
    rintro e w' ⟨rfl, rfl⟩
    refine ⟨⟨_, rfl, ?_⟩, Below.refl _ _⟩
    obtain ⟨n, rfl⟩ : ∃ n : Nat, r = (n : Int) := ⟨r.toNat, by omega⟩
    rw [Int.toNat_natCast]
    have hn : n < 128 := by omega
    clear h0 h1 hv hl
    revert n
    decide
  · by_cases he : r = 65533
    · subst he
      refine (indexRune_err w).mono ?_
      rintro e w' ⟨rfl, hB⟩
      exact ⟨⟨_, rfl, by decide⟩, hB⟩
    · refine (indexRune_high r w (by omega) h1 he hv).mono ?_
      rintro e w' ⟨rfl, hB⟩
      exact ⟨⟨_, rfl, by omega⟩, hB⟩

/-- What decoding at place i tells of the search. -/
theorem dec_any (s : ByteArray) (i : Nat) (hi : i < s.size) :
    ((Utf8.decode s i).1 ≤ 1114111 ∧ ((Utf8.decode s i).1 < 55296 ∨ 57343 < (Utf8.decode s i).1) ∧ 1 ≤ (Utf8.decode s i).2 ∧ i + (Utf8.decode s i).2 ≤ s.size) ∧ ((Utf8.decode s i).1 = 47 ∨ (Utf8.decode s i).1 = 0 ↔ (s.get! i).toNat = 47 ∨ (s.get! i).toNat = 0) ∧ ∀ j, i < j → j < i + (Utf8.decode s i).2 → ¬ ((s.get! j).toNat = 47 ∨ (s.get! j).toNat = 0) := by
  by_cases hb : (s.get! i).toNat < 128
  · rw [dec_low s i hb]
    refine ⟨⟨by simp only; omega, by simp only; omega, by simp, by simp only; omega⟩, Iff.rfl, fun j h1 h2 => by simp only at h2; omega⟩
  · obtain ⟨h1, h2, h3, h4, h5, h6⟩ := dec_high s i hi (by omega)
    refine ⟨⟨h2, h6, h3, h4⟩, by omega, fun j h7 h8 => ?_⟩
    have := h5 j (by omega) h8
    omega

set_option maxHeartbeats 2000000 in
set_option maxRecDepth 100000 in
theorem indexAny_short (s : ByteArray) (w : World) (h8 : s.size ≤ 8) :
    Calls Tryd.prog 41 #[.string s, .string ⟨#[47, 0]⟩] w fun e w' => (∃ o : Int, e = .returned (.int .i64 o) ∧ (0 ≤ o ↔ ∃ j, j < s.size ∧ ((s.get! j).toNat = 47 ∨ (s.get! j).toNat = 0))) ∧ Below w.heap.size w w' := by
  have h8z : decide ((s.size : Int) > 8) = false := decide_eq_false (by omega)
  have hsu : Aside0 (∀ W, Calls Tryd.prog 49 #[.int .i64 (s.size : Int)] W fun e w' => e = .returned (.bool false) ∧ Drawn0 W w') := ⟨fun W => strings_shouldUseASCIISet.calls _ false W (by unfold strings_shouldUseASCIISet.f; rw [h8z])⟩
  have hra : Aside0 (∀ (r : Int) (W : World), 0 ≤ r → r ≤ 1114111 → (r < 55296 ∨ 57343 < r) → Calls Tryd.prog 48 #[.string ⟨#[47, 0]⟩, .int .i32 r] W fun e w' => (∃ o : Int, e = .returned (.int .i64 o) ∧ (0 ≤ o ↔ r = 47 ∨ r = 0)) ∧ Below W.heap.size W w') := ⟨fun r W h0 h1 hv => indexRune_any r W h0 h1 hv⟩
  clear h8z
  go_enter Tryd.func41, Tryd.ntmps41
  go_wp2_with (first | (go_at_call 49; refine (hsu.out _).mono ?_; rintro e w' ⟨rfl, ⟨nd, rfl⟩⟩))
  go_loopg [9, 10] s.size (fun g _ _ wx => ∃ i : Nat, i ≤ s.size ∧ s.size - i ≤ g ∧ Aside0 (wx.heap[w.heap.size]? = some (.stringIter s i)) ∧ Aside0 (Below w.heap.size w wx) ∧ Aside0 (∀ j, j < i → ¬ ((s.get! j).toNat = 47 ∨ (s.get! j).toNat = 0)))
  case atStart => exact ⟨0, by omega, by omega, ⟨heap_alloc_new (w.drewN nd) _⟩, ⟨(pw_below_drewN (Below.refl _ w) nd).alloc (Nat.le_refl _) _⟩, ⟨fun j hj => absurd hj (by omega)⟩⟩
  case round =>
    obtain ⟨i, hi, hg, hk, hB, hno⟩ := hrel
    by_cases he : i < s.size
    · have hnx := fun ty => Lib.run_next_any_at (P := Tryd.prog) _ w.heap.size s i ty hk.out he
      obtain ⟨⟨q1, q2, q3, q4⟩, q5, q6⟩ := dec_any s i he
      obtain ⟨c, hc⟩ : ∃ c, (Utf8.decode s i).1 = c := ⟨_, rfl⟩
      obtain ⟨n, hn⟩ : ∃ n, (Utf8.decode s i).2 = n := ⟨_, rfl⟩
      simp only [hc, hn] at hnx q1 q2 q3 q4 q5 q6
      clear hc hn
      have hcall : Aside0 (∀ W, Calls Tryd.prog 48 #[.string ⟨#[47, 0]⟩, .int .i32 (c : Int)] W fun e w' => (∃ o : Int, e = .returned (.int .i64 o) ∧ (0 ≤ o ↔ (c : Int) = 47 ∨ (c : Int) = 0)) ∧ Below W.heap.size W w') := ⟨fun W => hra.out c W (by omega) (by omega) (by omega)⟩
      have hit := Aside0.mk (Lib.iterAt_heap _ w.heap.size s i (i + n) hk.out)
      have hBi := Aside0.mk (Lib.below_iterAt hB.out (Nat.le_refl _) s (i + n))
      have Q := Aside0.mk (And.intro q3 (And.intro q4 (And.intro q5 q6)))
      clear q1 q2 q3 q4 q5 q6
      go_wp2_with (go_at_call 48; refine (hcall.out _).mono ?_; rintro e w' ⟨⟨o, rfl, ho⟩, hb⟩; have HO := Aside0.mk ho; have HB2 := Aside0.mk hb; clear ho hb)
      · have h0 : 0 ≤ o := by assumption
        go_ret
        refine ⟨⟨i, rfl, ?_⟩, below_step hBi.out HB2.out⟩
        exact ⟨fun _ => ⟨i, he, Q.out.2.2.1.1 (by have := HO.out.1 h0; omega)⟩, fun _ => by omega⟩
      · have h0 : o < 0 := by assumption
        have q := Q.out
        go_roundg (s.size - (i + n))
        case measure => have := q.1; omega
        case rel =>
          refine ⟨i + n, q.2.1, Nat.le_refl _, ⟨blk_below hit.out HB2.out⟩, ⟨below_step hBi.out HB2.out⟩, ⟨fun j hj => ?_⟩⟩
          by_cases h1 : j < i
          · exact hno.out j h1
          · by_cases h2 : j = i
            · subst h2
              intro h3
              have h4 := q.2.2.1.2 h3
              have h5 := HO.out.2 (by omega)
              omega
            · exact q.2.2.2 j (by omega) hj
    · have hnx := fun ty => Lib.run_next_end_at (P := Tryd.prog) _ w.heap.size s i ty hk.out he
      go_wp2
      go_ret
      refine ⟨⟨-1, rfl, ?_⟩, hB.out⟩
      refine ⟨fun h => absurd h (by decide), fun ⟨j, hj, hx⟩ => absurd hx (hno.out j (by omega))⟩

end Go.Proofs.YtnjabpgbpgocnaaDoor.PAll

-- HandL
/- IndexAny of a text of more than 8 bytes, off the shelf (written by the kit's tool, cut out of its text by a program of this place's prover). -/
namespace Go.Proofs
def YtnjabpgbpgocnaaDoor.lays153_ren : Go.Shelf.Ren := ⟨fun | 153 => 41 | 152 => 48 | 226 => 49 | 227 => 50 | 228 => 51 | 137 => 55 | 119 => 56 | 224 => 57 | 225 => 58 | 217 => 59 | 266 => 64 | n => n, fun | 9 => 9 | 3 => 3 | 4 => 4 | 5 => 5 | 21 => 21 | 117 => 56 | 116 => 55 | 0 => 0 | 46 => 63 | 124 => 64 | n => n, fun | n => n⟩
theorem YtnjabpgbpgocnaaDoor.lays153 : Go.Proofs.Lays.n153 Tryd.prog YtnjabpgbpgocnaaDoor.lays153_ren := {
  mixed := by kernel_rfl
  f119 := Tryd.func56.trans (congrArg some (by kernel_rfl))
  f137 := Tryd.func55.trans (congrArg some (by kernel_rfl))
  f152 := Tryd.func48.trans (congrArg some (by kernel_rfl))
  f153 := Tryd.func41.trans (congrArg some (by kernel_rfl))
  f217 := Tryd.func59.trans (congrArg some (by kernel_rfl))
  f224 := Tryd.func57.trans (congrArg some (by kernel_rfl))
  f225 := Tryd.func58.trans (congrArg some (by kernel_rfl))
  f226 := Tryd.func49.trans (congrArg some (by kernel_rfl))
  f227 := Tryd.func50.trans (congrArg some (by kernel_rfl))
  f228 := Tryd.func51.trans (congrArg some (by kernel_rfl))
  f266 := Tryd.func64.trans (congrArg some (by kernel_rfl))
  t0 := Tryd.underlying0
  a0 := Tryd.isAgg0
  z0 := Tryd.sizeOf0
  v0 := Tryd.zeroValue0
  t3 := Tryd.underlying3
  a3 := Tryd.isAgg3
  z3 := Tryd.sizeOf3
  v3 := Tryd.zeroValue3
  t4 := Tryd.underlying4
  a4 := Tryd.isAgg4
  z4 := Tryd.sizeOf4
  v4 := Tryd.zeroValue4
  t5 := Tryd.underlying5
  a5 := Tryd.isAgg5
  z5 := Tryd.sizeOf5
  v5 := Tryd.zeroValue5
  t9 := Tryd.underlying9
  a9 := Tryd.isAgg9
  z9 := Tryd.sizeOf9
  v9 := Tryd.zeroValue9
  t21 := Tryd.underlying21
  a21 := Tryd.isAgg21
  z21 := Tryd.sizeOf21
  v21 := Tryd.zeroValue21
  t46 := Tryd.underlying63
  a46 := Tryd.isAgg63
  z46 := Tryd.sizeOf63
  v46 := Tryd.zeroValue63
  t116 := Tryd.underlying55
  a116 := Tryd.isAgg55
  z116 := Tryd.sizeOf55
  t117 := Tryd.underlying56
  a117 := Tryd.isAgg56
  z117 := Tryd.sizeOf56
  v117 := Tryd.zeroValue56
  t124 := Tryd.underlying64
  a124 := Tryd.isAgg64
  z124 := Tryd.sizeOf64
  v124 := Tryd.zeroValue64 }
open Go.RowKit Go.Lib in
theorem YtnjabpgbpgocnaaDoor.strings_IndexAny_long (hv116 : ∀ w, (zeroValue 55).run Tryd.prog w = .ok (.agg (Array.replicate 256 (.bool false))) w) (s chars : ByteArray) (w : World) (h2 : 2 ≤ chars.size) (h8 : 8 < s.size) (hs : s.size < 4294967281) (hcs : chars.size < 4294967281) (hascii : ∀ (j : Nat) b, chars.data.toList[j]? = some b → b.toNat < 128) :
    Calls Tryd.prog 41 #[.string s, .string chars] w fun e w' => e = .returned (.int .i64 (Lib.indexAny s.data.toList chars.data.toList)) ∧ w' = ((w.alloc (.cells (Lib.setCells chars.data.toList) 55)).alloc (.cells (Lib.setCells chars.data.toList) 55)) := Any.strings_IndexAny_long YtnjabpgbpgocnaaDoor.lays153 hv116 (by kernel_rfl) s chars w h2 h8 hs hcs hascii
end Go.Proofs

-- HandC
/- The contract of strings.ContainsAny at the text "/\x00". Condition: the text searched is shorter than 2^32 - 15 bytes. -/
namespace Go.Proofs.YtnjabpgbpgocnaaDoor.PAll
open Go.RowKit Go.Proofs.YtnjabpgbpgocnaaDoorW.PrintWords Go.Proofs.YtnjabpgbpgocnaaDoorW.PrintLast Go.Proofs.YtnjabpgbpgocnaaDoorW.PrintMore
set_option linter.unusedVariables false
set_option linter.unusedSimpArgs false

def badByte (b : UInt8) : Bool := b == 47 || b == 0

theorem indexAny_bad : ∀ l : List UInt8, 0 ≤ Lib.indexAny l [47, 0] ↔ l.any badByte = true
  | [] => by simp [Lib.indexAny]
  | b :: l => by
    have ih := indexAny_bad l
    have hg := Lib.indexAny_ge [47, 0] l
    have hc : ([47, 0] : List UInt8).contains b = badByte b := by simp only [badByte, List.contains_cons, List.contains_nil, Bool.or_false]
    rw [Lib.indexAny, hc, List.any_cons]
    cases hb : badByte b
    · simp only [Bool.false_or, Bool.false_eq_true, if_false]
      rw [← ih]
      by_cases h : Lib.indexAny l [47, 0] = -1
      · rw [h]; simp
      · have : (Lib.indexAny l [47, 0] == -1) = false := beq_eq_false_iff_ne.2 h
        rw [this]
        simp only [Bool.false_eq_true, if_false]
        omega
    · simp

theorem get_bad (s : ByteArray) : (∃ j, j < s.size ∧ ((s.get! j).toNat = 47 ∨ (s.get! j).toNat = 0)) ↔ s.data.toList.any badByte = true := by
  have hg : ∀ j (h : j < s.size), s.get! j = s.data.toList[j]'(by rw [Array.length_toList]; exact h) := fun j h => by
    have := get_at s j h
    rw [Nat.add_zero] at this
    rw [this]
    rfl
  have hb : ∀ b : UInt8, badByte b = true ↔ b.toNat = 47 ∨ b.toNat = 0 := fun b => by
    simp only [badByte, Bool.or_eq_true, beq_iff_eq, ← UInt8.toNat_inj]
    exact Iff.rfl
  rw [List.any_eq_true]
  constructor
  · rintro ⟨j, h, hx⟩
    rw [hg j h] at hx
    exact ⟨_, List.getElem_mem _, (hb _).2 hx⟩
  · rintro ⟨b, hm, hx⟩
    obtain ⟨j, h, rfl⟩ := List.getElem_of_mem hm
    have h' : j < s.size := by rw [Array.length_toList] at h; exact h
    exact ⟨j, h', by rw [hg j h']; exact (hb _).1 hx⟩

/-- Whether a slash or a zero byte is among the bytes; of other texts nothing is told. -/
def strings_ContainsAny.f (s t : ByteArray) : Option Bool := if t = ⟨#[47, 0]⟩ ∧ s.size < 4294967281 then some (s.data.toList.any badByte) else none

theorem indexAny_set (s : ByteArray) (w : World) (hs : s.size < 4294967281) :
    Calls Tryd.prog 41 #[.string s, .string ⟨#[47, 0]⟩] w fun e w' => (∃ o : Int, e = .returned (.int .i64 o) ∧ (0 ≤ o ↔ s.data.toList.any badByte = true)) ∧ Below w.heap.size w w' := by
  by_cases h8 : s.size ≤ 8
  · refine (indexAny_short s w h8).mono ?_
    rintro e w' ⟨⟨o, rfl, ho⟩, hB⟩
    exact ⟨⟨o, rfl, ho.trans (get_bad s)⟩, hB⟩
  · refine (YtnjabpgbpgocnaaDoor.strings_IndexAny_long (fun _ => by kernel_rfl) s ⟨#[47, 0]⟩ w (by decide) (by omega) hs (by decide) ?_).mono ?_
    · intro j b hb
      match j, hb with
      | 0, hb => obtain rfl : (47 : UInt8) = b := Option.some.inj hb; decide
      | 1, hb => obtain rfl : (0 : UInt8) = b := Option.some.inj hb; decide
    · rintro e w' ⟨rfl, rfl⟩
      exact ⟨⟨_, rfl, indexAny_bad _⟩, below_alloc (below_alloc (Below.refl _ _) _) _⟩

set_option maxHeartbeats 1000000 in
set_option maxRecDepth 100000 in
theorem strings_ContainsAny.calls (a0 : ByteArray) (a1 : ByteArray) (r : Bool) (w : World) (h : strings_ContainsAny.f a0 a1 = some r) :
    Calls Tryd.prog 29 #[.string a0, .string a1] w fun e w' => e = .returned (.bool r) ∧ Below w.heap.size w w' := by
  unfold strings_ContainsAny.f at h
  by_cases ht : a1 = ⟨#[47, 0]⟩ ∧ a0.size < 4294967281
  · rw [if_pos ht] at h
    obtain rfl := Option.some.inj h
    obtain ⟨rfl, hs⟩ := ht
    have hc : Aside0 (∀ W, Calls Tryd.prog 41 #[.string a0, .string ⟨#[47, 0]⟩] W fun e w' => (∃ o : Int, e = .returned (.int .i64 o) ∧ (0 ≤ o ↔ a0.data.toList.any badByte = true)) ∧ Below W.heap.size W w') := ⟨fun W => indexAny_set a0 W hs⟩
    clear h
    go_enter Tryd.func29, Tryd.ntmps29
    go_wp2_with (go_at_call 41; refine (hc.out _).mono ?_; rintro e w1 ⟨⟨o, rfl, ho⟩, hB⟩; have HO := Aside0.mk ho; have HB := Aside0.mk hB; clear ho hB)
    go_ret
    refine ⟨?_, HB.out⟩
    have e : decide (0 ≤ o) = a0.data.toList.any badByte := by rw [Bool.eq_iff_iff, decide_eq_true_eq]; exact HO.out
    rw [← e]
    rfl
  · rw [if_neg ht] at h
    cases h

end Go.Proofs.YtnjabpgbpgocnaaDoor.PAll

-- PAllx21
namespace Go.Proofs.YtnjabpgbpgocnaaDoor.PAll
open Go.RowKit Go.Proofs.YtnjabpgbpgocnaaDoorW.PrintWords Go.Proofs.YtnjabpgbpgocnaaDoorW.PrintLast Go.Proofs.YtnjabpgbpgocnaaDoorW.PrintMore
attribute [local go_sem] max2_int min2_int max_two min_two max_three min_three max_four min_four   -- for this text's walks alone
set_option linter.unusedVariables false
set_option linter.unusedSimpArgs false

/-! ### path_Name: function 16 -/
def path_Name.f (a0 : ByteArray) : Option (Bool) := if a0.toList = ([] : List UInt8) then (some false) else (if (a0.size : Int) ≤ 12 then (if a0.toList = ([46] : List UInt8) then (some false) else (if a0.toList = ([46, 46] : List UInt8) then (some false) else ((strings_ContainsAny.f a0 (⟨#[47, 0]⟩ : ByteArray)).bind fun t123 => (some (!t123))))) else (some false))
set_option maxHeartbeats 8000000 in
set_option maxRecDepth 100000 in
theorem path_Name.calls (a0 : ByteArray) (r : Bool) (w : World) (h : path_Name.f a0 = some r) :
    Calls Tryd.prog 16 #[.string a0] w fun e w' => e = .returned (.bool r) ∧ Below w.heap.size w w' := by
  have HB := Aside0.mk (Below.refl w.heap.size w)
  have H : (if a0.toList = ([] : List UInt8) then (some false) else (if (a0.size : Int) ≤ 12 then (if a0.toList = ([46] : List UInt8) then (some false) else (if a0.toList = ([46, 46] : List UInt8) then (some false) else ((strings_ContainsAny.f a0 (⟨#[47, 0]⟩ : ByteArray)).bind fun t123 => (some (!t123))))) else (some false))) = some r := h
  clear h
  by_cases c2 : a0.toList = ([] : List UInt8)
  · rw [if_pos c2] at H
    have c2b0 : (a0.toList == ([] : List UInt8)) = true := beq_iff_eq.mpr c2
    have c2b1 : (a0.toList != ([] : List UInt8)) = false := bne_eq_false_iff_eq.mpr c2
    clear c2
    obtain rfl := Option.some.inj H
    go_enter Tryd.func16, Tryd.ntmps16
    go_wp2
    go_ret
    exact ⟨by first | rfl | (simp [errW_none, errW_some] <;> rfl) | (simp [*, errW_none, errW_some] <;> rfl), by repeat (first | (with_reducible first | exact HB.out | apply below_alloc | apply pw_below_drewN | apply below_drew1) | exact HB.out)⟩
  · rw [if_neg c2] at H
    have c2b0 : (a0.toList == ([] : List UInt8)) = false := beq_eq_false_iff_ne.mpr c2
    have c2b1 : (a0.toList != ([] : List UInt8)) = true := bne_iff_ne.mpr c2
    by_cases c3 : (a0.size : Int) ≤ 12
    · rw [if_pos c3] at H
      have c3b0 : decide ((a0.size : Int) ≤ 12) = true := decide_eq_true c3
      have c3b1 : decide (a0.size ≤ 12) = true := decide_eq_true (by omega)
      clear c3
      by_cases c4 : a0.toList = ([46] : List UInt8)
      · rw [if_pos c4] at H
        have c4b0 : (a0.toList == ([46] : List UInt8)) = true := beq_iff_eq.mpr c4
        have c4b1 : (a0.toList != ([46] : List UInt8)) = false := bne_eq_false_iff_eq.mpr c4
        clear c4
        obtain rfl := Option.some.inj H
        go_enter Tryd.func16, Tryd.ntmps16
        go_wp2
        go_ret
        exact ⟨by first | rfl | (simp [errW_none, errW_some] <;> rfl) | (simp [*, errW_none, errW_some] <;> rfl), by repeat (first | (with_reducible first | exact HB.out | apply below_alloc | apply pw_below_drewN | apply below_drew1) | exact HB.out)⟩
      · rw [if_neg c4] at H
        have c4b0 : (a0.toList == ([46] : List UInt8)) = false := beq_eq_false_iff_ne.mpr c4
        have c4b1 : (a0.toList != ([46] : List UInt8)) = true := bne_iff_ne.mpr c4
        by_cases c5 : a0.toList = ([46, 46] : List UInt8)
        · rw [if_pos c5] at H
          have c5b0 : (a0.toList == ([46, 46] : List UInt8)) = true := beq_iff_eq.mpr c5
          have c5b1 : (a0.toList != ([46, 46] : List UInt8)) = false := bne_eq_false_iff_eq.mpr c5
          clear c5
          obtain rfl := Option.some.inj H
          go_enter Tryd.func16, Tryd.ntmps16
          go_wp2
          go_ret
          exact ⟨by first | rfl | (simp [errW_none, errW_some] <;> rfl) | (simp [*, errW_none, errW_some] <;> rfl), by repeat (first | (with_reducible first | exact HB.out | apply below_alloc | apply pw_below_drewN | apply below_drew1) | exact HB.out)⟩
        · rw [if_neg c5] at H
          have c5b0 : (a0.toList == ([46, 46] : List UInt8)) = false := beq_eq_false_iff_ne.mpr c5
          have c5b1 : (a0.toList != ([46, 46] : List UInt8)) = true := bne_iff_ne.mpr c5
          replace H := Option.bind_eq_some_iff.mp H
          obtain ⟨t123, A60, H⟩ := H
          replace H : (some (!t123)) = some r := H
          have A6 := Aside0.mk A60
          clear A60
          obtain rfl := Option.some.inj H
          go_enter Tryd.func16, Tryd.ntmps16
          go_wp2_with (first | (go_at_call 29; (with_reducible refine (strings_ContainsAny.calls a0 (⟨#[47, 0]⟩ : ByteArray) t123 _ A6.out).mono ?_); rintro e w7 ⟨rfl, hb⟩; have n0_ := Aside0.mk (below_step (by repeat (first | (with_reducible first | exact HB.out | apply below_alloc | apply pw_below_drewN | apply below_drew1) | exact HB.out)) hb); clear HB; have HB := n0_; clear n0_; (try clear hb); (try clear hb2); (try clear hk); (try clear hi)))
          go_ret
          exact ⟨by first | rfl | (simp [errW_none, errW_some] <;> rfl) | (simp [*, errW_none, errW_some] <;> rfl), by repeat (first | (with_reducible first | exact HB.out | apply below_alloc | apply pw_below_drewN | apply below_drew1) | exact HB.out)⟩
    · rw [if_neg c3] at H
      have c3b0 : decide ((a0.size : Int) ≤ 12) = false := decide_eq_false c3
      have c3b1 : decide (a0.size ≤ 12) = false := decide_eq_false (by omega)
      clear c3
      obtain rfl := Option.some.inj H
      go_enter Tryd.func16, Tryd.ntmps16
      go_wp2
      go_ret
      exact ⟨by first | rfl | (simp [errW_none, errW_some] <;> rfl) | (simp [*, errW_none, errW_some] <;> rfl), by repeat (first | (with_reducible first | exact HB.out | apply below_alloc | apply pw_below_drewN | apply below_drew1) | exact HB.out)⟩

end Go.Proofs.YtnjabpgbpgocnaaDoor.PAll

-- PAllx22
namespace Go.Proofs.YtnjabpgbpgocnaaDoor.PAll
open Go.RowKit Go.Proofs.YtnjabpgbpgocnaaDoorW.PrintWords Go.Proofs.YtnjabpgbpgocnaaDoorW.PrintLast Go.Proofs.YtnjabpgbpgocnaaDoorW.PrintMore
attribute [local go_sem] max2_int min2_int max_two min_two max_three min_three max_four min_four   -- for this text's walks alone
set_option linter.unusedVariables false
set_option linter.unusedSimpArgs false

/-! ### stringslite_HasPrefix: function 40 -/
def stringslite_HasPrefix.f (a0 : ByteArray) (a1 : ByteArray) : Option (Bool) := if (a0.size : Int) ≥ (a1.size : Int) then (if 0 ≤ (a1.size : Int) then (if (a1.size : Int) ≤ (a0.size : Int) then (some ((a0.extract 0 ((a1.size : Int) : Int).toNat).toList == a1.toList)) else (none)) else (none)) else (some false)
set_option maxHeartbeats 8000000 in
set_option maxRecDepth 100000 in
theorem stringslite_HasPrefix.calls (a0 : ByteArray) (a1 : ByteArray) (r : Bool) (w : World) (h : stringslite_HasPrefix.f a0 a1 = some r) :
    Calls Tryd.prog 40 #[.string a0, .string a1] w fun e w' => e = .returned (.bool r) ∧ Drawn0 w w' := by
  have H : (if (a0.size : Int) ≥ (a1.size : Int) then (if 0 ≤ (a1.size : Int) then (if (a1.size : Int) ≤ (a0.size : Int) then (some ((a0.extract 0 ((a1.size : Int) : Int).toNat).toList == a1.toList)) else (none)) else (none)) else (some false)) = some r := h
  clear h
  by_cases c3 : (a0.size : Int) ≥ (a1.size : Int)
  · rw [if_pos c3] at H
    have c3b0 : decide ((a1.size : Int) ≤ (a0.size : Int)) = true := decide_eq_true c3
    have c3b1 : decide (a1.size ≤ a0.size) = true := decide_eq_true (Int.ofNat_le.mp c3)
    clear c3
    by_cases c4 : 0 ≤ (a1.size : Int)
    · rw [if_pos c4] at H
      have c4b0 := eq_true c4
      have c4b1 : decide (0 ≤ (a1.size : Int)) = true := decide_eq_true c4
      clear c4
      by_cases c5 : (a1.size : Int) ≤ (a0.size : Int)
      · rw [if_pos c5] at H
        have c5b0 := eq_true c5
        have c5b1 : decide ((a1.size : Int) ≤ (a0.size : Int)) = true := decide_eq_true c5
        clear c5
        obtain rfl := Option.some.inj H
        go_enter Tryd.func40, Tryd.ntmps40
        go_wp2
        go_ret
        exact ⟨by first | rfl | (simp; done) | (simp [*]; done), by repeat (first | exact Drawn0.refl _ | apply Drawn0.step)⟩
      · rw [if_neg c5] at H
        exact absurd H (by simp)
    · rw [if_neg c4] at H
      exact absurd H (by simp)
  · rw [if_neg c3] at H
    have c3b0 : decide ((a1.size : Int) ≤ (a0.size : Int)) = false := decide_eq_false c3
    have c3b1 : decide (a1.size ≤ a0.size) = false := decide_eq_false (fun h => c3 (Int.ofNat_le.mpr h))
    clear c3
    obtain rfl := Option.some.inj H
    go_enter Tryd.func40, Tryd.ntmps40
    go_wp2
    go_ret
    exact ⟨by first | rfl | (simp; done) | (simp [*]; done), by repeat (first | exact Drawn0.refl _ | apply Drawn0.step)⟩

end Go.Proofs.YtnjabpgbpgocnaaDoor.PAll

-- PAllx23
namespace Go.Proofs.YtnjabpgbpgocnaaDoor.PAll
open Go.RowKit Go.Proofs.YtnjabpgbpgocnaaDoorW.PrintWords Go.Proofs.YtnjabpgbpgocnaaDoorW.PrintLast Go.Proofs.YtnjabpgbpgocnaaDoorW.PrintMore
attribute [local go_sem] max2_int min2_int max_two min_two max_three min_three max_four min_four   -- for this text's walks alone
set_option linter.unusedVariables false
set_option linter.unusedSimpArgs false

/-! ### stringslite_CutPrefix: function 42 -/
def stringslite_CutPrefix.f (a0 : ByteArray) (a1 : ByteArray) : Option (ByteArray × Bool) := (stringslite_HasPrefix.f a0 a1).bind fun t124 => (if t124 = true then (if 0 ≤ (a1.size : Int) then (if (a1.size : Int) ≤ (a0.size : Int) then (some (a0.extract ((a1.size : Int) : Int).toNat a0.size, true)) else (none)) else (none)) else (some (a0, false)))
set_option maxHeartbeats 8000000 in
set_option maxRecDepth 100000 in
theorem stringslite_CutPrefix.calls (a0 : ByteArray) (a1 : ByteArray) (r1 : ByteArray) (r2 : Bool) (w : World) (h : stringslite_CutPrefix.f a0 a1 = some (r1, r2)) :
    Calls Tryd.prog 42 #[.string a0, .string a1] w fun e w' => e = .returned (.tuple #[.string r1, .bool r2]) ∧ Drawn0 w w' := by
  have H : ((stringslite_HasPrefix.f a0 a1).bind fun t124 => (if t124 = true then (if 0 ≤ (a1.size : Int) then (if (a1.size : Int) ≤ (a0.size : Int) then (some (a0.extract ((a1.size : Int) : Int).toNat a0.size, true)) else (none)) else (none)) else (some (a0, false)))) = some (r1, r2) := h
  clear h
  replace H := Option.bind_eq_some_iff.mp H
  obtain ⟨t124, A30, H⟩ := H
  replace H : (if t124 = true then (if 0 ≤ (a1.size : Int) then (if (a1.size : Int) ≤ (a0.size : Int) then (some (a0.extract ((a1.size : Int) : Int).toNat a0.size, true)) else (none)) else (none)) else (some (a0, false))) = some (r1, r2) := H
  have A3 := Aside0.mk A30
  clear A30
  by_cases c4 : t124 = true
  · subst c4
    have H1 : (if 0 ≤ (a1.size : Int) then (if (a1.size : Int) ≤ (a0.size : Int) then (some (a0.extract ((a1.size : Int) : Int).toNat a0.size, true)) else (none)) else (none)) = some (r1, r2) := by rw [if_pos rfl] at H; exact H
    clear H
    have H := H1
    clear H1
    by_cases c5 : 0 ≤ (a1.size : Int)
    · rw [if_pos c5] at H
      have c5b0 := eq_true c5
      have c5b1 : decide (0 ≤ (a1.size : Int)) = true := decide_eq_true c5
      clear c5
      by_cases c6 : (a1.size : Int) ≤ (a0.size : Int)
      · rw [if_pos c6] at H
        have c6b0 := eq_true c6
        have c6b1 : decide ((a1.size : Int) ≤ (a0.size : Int)) = true := decide_eq_true c6
        clear c6
        simp only [Option.some.injEq, Prod.mk.injEq] at H
        obtain ⟨rfl, rfl⟩ := H
        go_enter Tryd.func42, Tryd.ntmps42
        go_wp2_with (first | ((with_reducible refine gate_callee (f := 40) rfl ?_); refine goesL_ (some 8) rfl rfl Tryd.func40 (by kernel_rfl) rfl #[.string a0, .string a1] rfl (by (try simp only [List.map_toArray, List.map_cons, List.map_nil]); first | done | rfl | (simp only [List.length_drop, List.length_take]; rfl)) ?_; (with_reducible refine (stringslite_HasPrefix.calls a0 a1 true _ A3.out).mono ?_); rintro e w' ⟨rfl, ⟨nd, rfl⟩⟩; refine ⟨_, rfl, ?_⟩))
        go_ret2
        exact ⟨by first | rfl | (simp; done) | (simp [*]; done), by repeat (first | exact Drawn0.refl _ | apply Drawn0.step)⟩
      · rw [if_neg c6] at H
        exact absurd H (by simp)
    · rw [if_neg c5] at H
      exact absurd H (by simp)
  · replace c4 := Bool.eq_false_iff.mpr c4
    subst c4
    have H1 : (some (a0, false)) = some (r1, r2) := by rw [if_neg (show ¬ (false = true) by decide)] at H; exact H
    clear H
    have H := H1
    clear H1
    simp only [Option.some.injEq, Prod.mk.injEq] at H
    obtain ⟨rfl, rfl⟩ := H
    go_enter Tryd.func42, Tryd.ntmps42
    go_wp2_with (first | ((with_reducible refine gate_callee (f := 40) rfl ?_); refine goesL_ (some 8) rfl rfl Tryd.func40 (by kernel_rfl) rfl #[.string a0, .string a1] rfl (by (try simp only [List.map_toArray, List.map_cons, List.map_nil]); first | done | rfl | (simp only [List.length_drop, List.length_take]; rfl)) ?_; (with_reducible refine (stringslite_HasPrefix.calls a0 a1 false _ A3.out).mono ?_); rintro e w' ⟨rfl, ⟨nd, rfl⟩⟩; refine ⟨_, rfl, ?_⟩))
    go_ret2
    exact ⟨by first | rfl | (simp; done) | (simp [*]; done), by repeat (first | exact Drawn0.refl _ | apply Drawn0.step)⟩

end Go.Proofs.YtnjabpgbpgocnaaDoor.PAll

-- PAllx24
namespace Go.Proofs.YtnjabpgbpgocnaaDoor.PAll
open Go.RowKit Go.Proofs.YtnjabpgbpgocnaaDoorW.PrintWords Go.Proofs.YtnjabpgbpgocnaaDoorW.PrintLast Go.Proofs.YtnjabpgbpgocnaaDoorW.PrintMore
attribute [local go_sem] max2_int min2_int max_two min_two max_three min_three max_four min_four   -- for this text's walks alone
set_option linter.unusedVariables false
set_option linter.unusedSimpArgs false

/-! ### strings_CutPrefix: function 30 -/
def strings_CutPrefix.f (a0 : ByteArray) (a1 : ByteArray) : Option (ByteArray × Bool) := (stringslite_CutPrefix.f a0 a1).bind fun bt125 => (some (bt125.1, bt125.2))
set_option maxHeartbeats 8000000 in
set_option maxRecDepth 100000 in
theorem strings_CutPrefix.calls (a0 : ByteArray) (a1 : ByteArray) (r1 : ByteArray) (r2 : Bool) (w : World) (h : strings_CutPrefix.f a0 a1 = some (r1, r2)) :
    Calls Tryd.prog 30 #[.string a0, .string a1] w fun e w' => e = .returned (.tuple #[.string r1, .bool r2]) ∧ Drawn0 w w' := by
  have H : ((stringslite_CutPrefix.f a0 a1).bind fun bt125 => (some (bt125.1, bt125.2))) = some (r1, r2) := h
  clear h
  replace H := Option.bind_eq_some_iff.mp H
  obtain ⟨⟨t125, t126⟩, A30, H⟩ := H
  replace H : (some (t125, t126)) = some (r1, r2) := H
  have A3 := Aside0.mk A30
  clear A30
  simp only [Option.some.injEq, Prod.mk.injEq] at H
  obtain ⟨rfl, rfl⟩ := H
  go_enter Tryd.func30, Tryd.ntmps30
  go_wp2_with (first | ((with_reducible refine gate_callee (f := 42) rfl ?_); refine goesL_ (some 8) rfl rfl Tryd.func42 (by kernel_rfl) rfl #[.string a0, .string a1] rfl (by (try simp only [List.map_toArray, List.map_cons, List.map_nil]); first | done | rfl | (simp only [List.length_drop, List.length_take]; rfl)) ?_; (with_reducible refine (stringslite_CutPrefix.calls a0 a1 t125 t126 _ A3.out).mono ?_); rintro e w' ⟨rfl, ⟨nd, rfl⟩⟩; refine ⟨_, rfl, ?_⟩))
  go_ret2
  exact ⟨by first | rfl | (simp; done) | (simp [*]; done), by repeat (first | exact Drawn0.refl _ | apply Drawn0.step)⟩

end Go.Proofs.YtnjabpgbpgocnaaDoor.PAll

-- PAllx28
namespace Go.Proofs.YtnjabpgbpgocnaaDoor.PAll
open Go.RowKit Go.Proofs.YtnjabpgbpgocnaaDoorW.PrintWords Go.Proofs.YtnjabpgbpgocnaaDoorW.PrintLast Go.Proofs.YtnjabpgbpgocnaaDoorW.PrintMore
attribute [local go_sem] max2_int min2_int max_two min_two max_three min_three max_four min_four   -- for this text's walks alone
set_option linter.unusedVariables false
set_option linter.unusedSimpArgs false

/-! ### stringslite_Cut: function 43 -/
def stringslite_Cut.f (a0 : ByteArray) (a1 : ByteArray) : Option (ByteArray × ByteArray × Bool) := (stringslite_Index.f a0 a1).bind fun t129 => (if t129 ≥ 0 then (if 0 ≤ t129 then (if t129 ≤ (a0.size : Int) then (if 0 ≤ (wrap64 (t129 + (a1.size : Int))) then (if (wrap64 (t129 + (a1.size : Int))) ≤ (a0.size : Int) then (some (a0.extract 0 (t129 : Int).toNat, a0.extract ((wrap64 (t129 + (a1.size : Int))) : Int).toNat a0.size, true)) else (none)) else (none)) else (none)) else (none)) else (some (a0, (⟨#[]⟩ : ByteArray), false)))
set_option maxHeartbeats 8000000 in
set_option maxRecDepth 100000 in
theorem stringslite_Cut.calls (a0 : ByteArray) (a1 : ByteArray) (r1 : ByteArray) (r2 : ByteArray) (r3 : Bool) (w : World) (h : stringslite_Cut.f a0 a1 = some (r1, r2, r3)) :
    Calls Tryd.prog 43 #[.string a0, .string a1] w fun e w' => e = .returned (.tuple #[.string r1, .string r2, .bool r3]) ∧ Drawn0 w w' := by
  have H : ((stringslite_Index.f a0 a1).bind fun t129 => (if t129 ≥ 0 then (if 0 ≤ t129 then (if t129 ≤ (a0.size : Int) then (if 0 ≤ (wrap64 (t129 + (a1.size : Int))) then (if (wrap64 (t129 + (a1.size : Int))) ≤ (a0.size : Int) then (some (a0.extract 0 (t129 : Int).toNat, a0.extract ((wrap64 (t129 + (a1.size : Int))) : Int).toNat a0.size, true)) else (none)) else (none)) else (none)) else (none)) else (some (a0, (⟨#[]⟩ : ByteArray), false)))) = some (r1, r2, r3) := h
  clear h
  replace H := Option.bind_eq_some_iff.mp H
  obtain ⟨t129, A30, H⟩ := H
  replace H : (if t129 ≥ 0 then (if 0 ≤ t129 then (if t129 ≤ (a0.size : Int) then (if 0 ≤ (wrap64 (t129 + (a1.size : Int))) then (if (wrap64 (t129 + (a1.size : Int))) ≤ (a0.size : Int) then (some (a0.extract 0 (t129 : Int).toNat, a0.extract ((wrap64 (t129 + (a1.size : Int))) : Int).toNat a0.size, true)) else (none)) else (none)) else (none)) else (none)) else (some (a0, (⟨#[]⟩ : ByteArray), false))) = some (r1, r2, r3) := H
  have A3 := Aside0.mk A30
  clear A30
  by_cases c4 : t129 ≥ 0
  · rw [if_pos c4] at H
    have c4b0 : decide (0 ≤ t129) = true := decide_eq_true c4
    clear c4
    by_cases c5 : 0 ≤ t129
    · rw [if_pos c5] at H
      have c5b0 := eq_true c5
      have c5b1 : decide (0 ≤ t129) = true := decide_eq_true c5
      clear c5
      by_cases c6 : t129 ≤ (a0.size : Int)
      · rw [if_pos c6] at H
        have c6b0 := eq_true c6
        have c6b1 : decide (t129 ≤ (a0.size : Int)) = true := decide_eq_true c6
        clear c6
        obtain ⟨ji7, hji7⟩ : ∃ j_ : Int, (wrap64 (t129 + (a1.size : Int))) = j_ := ⟨_, rfl⟩
        replace H : (if 0 ≤ (ji7) then (if (ji7) ≤ (a0.size : Int) then (some (a0.extract 0 (t129 : Int).toNat, a0.extract ((ji7) : Int).toNat a0.size, true)) else (none)) else (none)) = some (r1, r2, r3) := by first | (rw [hji7] at H; exact H) | (simp only [hji7] at H ⊢; exact H)
        (try rw [hji7] at A3)
        have hji7w : (IntKind.i64.wrap (t129 + (a1.size : Int))) = ji7 := (i64_w _).trans hji7
        by_cases c8 : 0 ≤ (ji7)
        · rw [if_pos c8] at H
          have c8b0 := eq_true c8
          have c8b1 : decide (0 ≤ (ji7)) = true := decide_eq_true c8
          clear c8
          by_cases c9 : (ji7) ≤ (a0.size : Int)
          · rw [if_pos c9] at H
            have c9b0 := eq_true c9
            have c9b1 : decide ((ji7) ≤ (a0.size : Int)) = true := decide_eq_true c9
            clear c9
            simp only [Option.some.injEq, Prod.mk.injEq] at H
            obtain ⟨rfl, rfl, rfl⟩ := H
            go_enter Tryd.func43, Tryd.ntmps43
            go_wp2_with (first | (go_at_call 52; (with_reducible refine (stringslite_Index.calls a0 a1 t129 _ A3.out).mono ?_); rintro e w' ⟨rfl, ⟨nd, rfl⟩⟩; (try first | exact ⟨rfl, _, World.drewN_drewN _ _ _⟩ | exact ⟨rfl, _, Eq.trans (World.drewN_drewN _ _ _) (congrArg (World.drewN _) (Nat.add_assoc _ _ _))⟩)))
            repeat (go_quiet (first | (go_at_call 52; (with_reducible refine (stringslite_Index.calls a0 a1 t129 _ A3.out).mono ?_); rintro e w' ⟨rfl, ⟨nd, rfl⟩⟩; (try first | exact ⟨rfl, _, World.drewN_drewN _ _ _⟩ | exact ⟨rfl, _, Eq.trans (World.drewN_drewN _ _ _) (congrArg (World.drewN _) (Nat.add_assoc _ _ _))⟩))); try go_wp2_with (first | (go_at_call 52; (with_reducible refine (stringslite_Index.calls a0 a1 t129 _ A3.out).mono ?_); rintro e w' ⟨rfl, ⟨nd, rfl⟩⟩; (try first | exact ⟨rfl, _, World.drewN_drewN _ _ _⟩ | exact ⟨rfl, _, Eq.trans (World.drewN_drewN _ _ _) (congrArg (World.drewN _) (Nat.add_assoc _ _ _))⟩))))
            go_ret3
            exact ⟨by first | rfl | (simp; done) | (simp only [← hji7] <;> (first | rfl | simp)) | (simp [*]; done), by repeat (first | exact Drawn0.refl _ | apply Drawn0.step)⟩
          · rw [if_neg c9] at H
            exact absurd H (by simp)
        · rw [if_neg c8] at H
          exact absurd H (by simp)
      · rw [if_neg c6] at H
        exact absurd H (by simp)
    · rw [if_neg c5] at H
      exact absurd H (by simp)
  · rw [if_neg c4] at H
    have c4b0 : decide (0 ≤ t129) = false := decide_eq_false c4
    clear c4
    simp only [Option.some.injEq, Prod.mk.injEq] at H
    obtain ⟨rfl, rfl, rfl⟩ := H
    go_enter Tryd.func43, Tryd.ntmps43
    go_wp2_with (first | (go_at_call 52; (with_reducible refine (stringslite_Index.calls a0 a1 t129 _ A3.out).mono ?_); rintro e w' ⟨rfl, ⟨nd, rfl⟩⟩; (try first | exact ⟨rfl, _, World.drewN_drewN _ _ _⟩ | exact ⟨rfl, _, Eq.trans (World.drewN_drewN _ _ _) (congrArg (World.drewN _) (Nat.add_assoc _ _ _))⟩)))
    repeat (go_quiet (first | (go_at_call 52; (with_reducible refine (stringslite_Index.calls a0 a1 t129 _ A3.out).mono ?_); rintro e w' ⟨rfl, ⟨nd, rfl⟩⟩; (try first | exact ⟨rfl, _, World.drewN_drewN _ _ _⟩ | exact ⟨rfl, _, Eq.trans (World.drewN_drewN _ _ _) (congrArg (World.drewN _) (Nat.add_assoc _ _ _))⟩))); try go_wp2_with (first | (go_at_call 52; (with_reducible refine (stringslite_Index.calls a0 a1 t129 _ A3.out).mono ?_); rintro e w' ⟨rfl, ⟨nd, rfl⟩⟩; (try first | exact ⟨rfl, _, World.drewN_drewN _ _ _⟩ | exact ⟨rfl, _, Eq.trans (World.drewN_drewN _ _ _) (congrArg (World.drewN _) (Nat.add_assoc _ _ _))⟩))))
    go_ret3
    exact ⟨by first | rfl | (simp; done) | (simp [*]; done), by repeat (first | exact Drawn0.refl _ | apply Drawn0.step)⟩

end Go.Proofs.YtnjabpgbpgocnaaDoor.PAll

-- PAllx29
namespace Go.Proofs.YtnjabpgbpgocnaaDoor.PAll
open Go.RowKit Go.Proofs.YtnjabpgbpgocnaaDoorW.PrintWords Go.Proofs.YtnjabpgbpgocnaaDoorW.PrintLast Go.Proofs.YtnjabpgbpgocnaaDoorW.PrintMore
attribute [local go_sem] max2_int min2_int max_two min_two max_three min_three max_four min_four   -- for this text's walks alone
set_option linter.unusedVariables false
set_option linter.unusedSimpArgs false

/-! ### strings_Cut: function 31 -/
def strings_Cut.f (a0 : ByteArray) (a1 : ByteArray) : Option (ByteArray × ByteArray × Bool) := (stringslite_Cut.f a0 a1).bind fun bt130 => (some (bt130.1, bt130.2.1, bt130.2.2))
set_option maxHeartbeats 8000000 in
set_option maxRecDepth 100000 in
theorem strings_Cut.calls (a0 : ByteArray) (a1 : ByteArray) (r1 : ByteArray) (r2 : ByteArray) (r3 : Bool) (w : World) (h : strings_Cut.f a0 a1 = some (r1, r2, r3)) :
    Calls Tryd.prog 31 #[.string a0, .string a1] w fun e w' => e = .returned (.tuple #[.string r1, .string r2, .bool r3]) ∧ Drawn0 w w' := by
  have H : ((stringslite_Cut.f a0 a1).bind fun bt130 => (some (bt130.1, bt130.2.1, bt130.2.2))) = some (r1, r2, r3) := h
  clear h
  replace H := Option.bind_eq_some_iff.mp H
  obtain ⟨⟨t130, t131, t132⟩, A30, H⟩ := H
  replace H : (some (t130, t131, t132)) = some (r1, r2, r3) := H
  have A3 := Aside0.mk A30
  clear A30
  simp only [Option.some.injEq, Prod.mk.injEq] at H
  obtain ⟨rfl, rfl, rfl⟩ := H
  go_enter Tryd.func31, Tryd.ntmps31
  go_wp2_with (first | ((with_reducible refine gate_callee (f := 43) rfl ?_); refine goesL_ (some 9) rfl rfl Tryd.func43 (by kernel_rfl) rfl #[.string a0, .string a1] rfl (by (try simp only [List.map_toArray, List.map_cons, List.map_nil]); first | done | rfl | (simp only [List.length_drop, List.length_take]; rfl)) ?_; (with_reducible refine (stringslite_Cut.calls a0 a1 t130 t131 t132 _ A3.out).mono ?_); rintro e w' ⟨rfl, ⟨nd, rfl⟩⟩; refine ⟨_, rfl, ?_⟩))
  go_ret3
  exact ⟨by first | rfl | (simp; done) | (simp [*]; done), by repeat (first | exact Drawn0.refl _ | apply Drawn0.step)⟩

end Go.Proofs.YtnjabpgbpgocnaaDoor.PAll

-- PAllx30
namespace Go.Proofs.YtnjabpgbpgocnaaDoor.PAll
open Go.RowKit Go.Proofs.YtnjabpgbpgocnaaDoorW.PrintWords Go.Proofs.YtnjabpgbpgocnaaDoorW.PrintLast Go.Proofs.YtnjabpgbpgocnaaDoorW.PrintMore
attribute [local go_sem] max2_int min2_int max_two min_two max_three min_three max_four min_four   -- for this text's walks alone
set_option linter.unusedVariables false
set_option linter.unusedSimpArgs false

/-! ### path_Clean: function 17 -/
mutual
def path_Clean.l0 : Nat → ByteArray → Bool → Option (Bool)
  | 0, _, _ => none
  | k + 1, x3, x4 => if x4 = true then (path_Clean.j1 k x3 x4 (x3.toList != ([] : List UInt8))) else (path_Clean.j1 k x3 x4 false)
def path_Clean.j1 : Nat → ByteArray → Bool → Bool → Option (Bool)
  | 0, _, _, _ => none
  | k + 1, x3, x4, x19 => if x19 = true then ((strings_Cut.f x3 (⟨#[47]⟩ : ByteArray)).bind fun bt135 => ((path_Name.f bt135.1).bind fun t138 => (if t138 = true then (if bt135.2.2 = true then (path_Clean.j2 k x4 bt135.2.1 bt135.2.2 (bt135.2.1.toList == ([] : List UInt8))) else (path_Clean.j2 k x4 bt135.2.1 bt135.2.2 false)) else (path_Clean.j2 k x4 bt135.2.1 bt135.2.2 true)))) else (some false)
def path_Clean.j2 : Nat → Bool → ByteArray → Bool → Bool → Option (Bool)
  | 0, _, _, _, _ => none
  | k + 1, x4, x6, x7, x35 => if x35 = true then (some false) else (if x7 = true then (path_Clean.l0 k x6 x4) else (some true))
end
def path_Clean.f (k : Nat) (a0 : ByteArray) : Option (Bool) := if a0.toList = ([47] : List UInt8) then (some true) else ((strings_CutPrefix.f a0 (⟨#[47]⟩ : ByteArray)).bind fun bt133 => (path_Clean.l0 k bt133.1 bt133.2))
theorem path_Clean.mono_l : ∀ k, (∀ y0 y1, LeO (path_Clean.l0 k y0 y1) (path_Clean.l0 (k + 1) y0 y1)) ∧ (∀ y0 y1 y2, LeO (path_Clean.j1 k y0 y1 y2) (path_Clean.j1 (k + 1) y0 y1 y2)) ∧ (∀ y0 y1 y2 y3, LeO (path_Clean.j2 k y0 y1 y2 y3) (path_Clean.j2 (k + 1) y0 y1 y2 y3))
  | 0 => ⟨fun _ _ r h => by simp [path_Clean.l0] at h, fun _ _ _ r h => by simp [path_Clean.j1] at h, fun _ _ _ _ r h => by simp [path_Clean.j2] at h⟩
  | k + 1 => by
    obtain ⟨ih0, ih1, ih2⟩ := path_Clean.mono_l k
    refine ⟨?_, ?_, ?_⟩
    · intro y0 y1
      unfold path_Clean.l0
      repeat' first
      | (with_reducible exact ih0 _ _)
      | (with_reducible exact ih1 _ _ _)
      | (with_reducible exact ih2 _ _ _ _)
      | (with_reducible exact LeO.refl _)
      | (with_reducible exact LeO.none _)
      | (with_reducible refine LeO.ite ?_ ?_)
      | (with_reducible refine LeO.bind ?_ (fun _ => ?_))
      | exact ih0 _ _
      | exact ih1 _ _ _
      | exact ih2 _ _ _ _
      | exact LeO.none _
      | refine LeO.ite ?_ ?_
      | refine LeO.bind ?_ (fun _ => ?_)
    · intro y0 y1 y2
      unfold path_Clean.j1
      repeat' first
      | (with_reducible exact ih0 _ _)
      | (with_reducible exact ih1 _ _ _)
      | (with_reducible exact ih2 _ _ _ _)
      | (with_reducible exact LeO.refl _)
      | (with_reducible exact LeO.none _)
      | (with_reducible refine LeO.ite ?_ ?_)
      | (with_reducible refine LeO.bind ?_ (fun _ => ?_))
      | exact ih0 _ _
      | exact ih1 _ _ _
      | exact ih2 _ _ _ _
      | exact LeO.none _
      | refine LeO.ite ?_ ?_
      | refine LeO.bind ?_ (fun _ => ?_)
    · intro y0 y1 y2 y3
      unfold path_Clean.j2
      repeat' first
      | (with_reducible exact ih0 _ _)
      | (with_reducible exact ih1 _ _ _)
      | (with_reducible exact ih2 _ _ _ _)
      | (with_reducible exact LeO.refl _)
      | (with_reducible exact LeO.none _)
      | (with_reducible refine LeO.ite ?_ ?_)
      | (with_reducible refine LeO.bind ?_ (fun _ => ?_))
      | exact ih0 _ _
      | exact ih1 _ _ _
      | exact ih2 _ _ _ _
      | exact LeO.none _
      | refine LeO.ite ?_ ?_
      | refine LeO.bind ?_ (fun _ => ?_)
theorem path_Clean.mono : ∀ a0 k, LeO (path_Clean.f k a0) (path_Clean.f (k + 1) a0) := by
  intro a0 k
  obtain ⟨ih0, ih1, ih2⟩ := path_Clean.mono_l k
  unfold path_Clean.f
  repeat' first
      | (with_reducible exact ih0 _ _)
      | (with_reducible exact ih1 _ _ _)
      | (with_reducible exact ih2 _ _ _ _)
      | (with_reducible exact LeO.refl _)
      | (with_reducible exact LeO.none _)
      | (with_reducible refine LeO.ite ?_ ?_)
      | (with_reducible refine LeO.bind ?_ (fun _ => ?_))
      | exact ih0 _ _
      | exact ih1 _ _ _
      | exact ih2 _ _ _ _
      | exact LeO.none _
      | refine LeO.ite ?_ ?_
      | refine LeO.bind ?_ (fun _ => ?_)
set_option maxHeartbeats 8000000 in
set_option maxRecDepth 100000 in
theorem path_Clean.calls (k : Nat) (a0 : ByteArray) (r : Bool) (w : World) (h : path_Clean.f k a0 = some r) :
    Calls Tryd.prog 17 #[.string a0] w fun e w' => e = .returned (.bool r) ∧ Below w.heap.size w w' := by
  have HB := Aside0.mk (Below.refl w.heap.size w)
  have H : (if a0.toList = ([47] : List UInt8) then (some true) else ((strings_CutPrefix.f a0 (⟨#[47]⟩ : ByteArray)).bind fun bt133 => (path_Clean.l0 k bt133.1 bt133.2))) = some r := h
  clear h
  by_cases c2 : a0.toList = ([47] : List UInt8)
  · rw [if_pos c2] at H
    have c2b0 : (a0.toList == ([47] : List UInt8)) = true := beq_iff_eq.mpr c2
    have c2b1 : (a0.toList != ([47] : List UInt8)) = false := bne_eq_false_iff_eq.mpr c2
    clear c2
    obtain rfl := Option.some.inj H
    go_enter Tryd.func17, Tryd.ntmps17
    go_wp2
    go_ret
    exact ⟨by first | rfl | (simp [errW_none, errW_some] <;> rfl) | (simp [*, errW_none, errW_some] <;> rfl), by repeat (first | (with_reducible first | exact HB.out | apply below_alloc | apply pw_below_drewN | apply below_drew1) | exact HB.out)⟩
  · rw [if_neg c2] at H
    have c2b0 : (a0.toList == ([47] : List UInt8)) = false := beq_eq_false_iff_ne.mpr c2
    have c2b1 : (a0.toList != ([47] : List UInt8)) = true := bne_iff_ne.mpr c2
    replace H := Option.bind_eq_some_iff.mp H
    obtain ⟨⟨t133, t134⟩, A30, H⟩ := H
    replace H : (path_Clean.l0 k t133 t134) = some r := H
    have A3 := Aside0.mk A30
    clear A30
    have H' := Aside0.mk H
    clear H
    go_enter Tryd.func17, Tryd.ntmps17
    go_wp2_with (first | ((with_reducible refine gate_callee (f := 30) rfl ?_); refine goesL_ (some 12) rfl rfl Tryd.func30 (by kernel_rfl) rfl #[.string a0, .string (⟨#[47]⟩ : ByteArray)] rfl (by (try simp only [List.map_toArray, List.map_cons, List.map_nil]); first | done | rfl | (simp only [List.length_drop, List.length_take]; rfl)) ?_; (with_reducible refine (strings_CutPrefix.calls a0 (⟨#[47]⟩ : ByteArray) t133 t134 _ A3.out).mono ?_); rintro e w' ⟨rfl, ⟨nd, rfl⟩⟩; refine ⟨_, rfl, ?_⟩))
    (first | go_loopg [3] k (fun kq v3 w' => ∃ (x3_1 : ByteArray), v3 = .string x3_1 ∧ Aside0 (path_Clean.l0 kq x3_1 t134 = some r) ∧ Aside0 (kq ≤ k) ∧ Aside0 (Below w.heap.size w w')) | (go_simp; go_loopg [3] k (fun kq v3 w' => ∃ (x3_1 : ByteArray), v3 = .string x3_1 ∧ Aside0 (path_Clean.l0 kq x3_1 t134 = some r) ∧ Aside0 (kq ≤ k) ∧ Aside0 (Below w.heap.size w w'))))
    case atStart => exact ⟨(t133), (by first | rfl | (simp; done) | (simp [*]; done) | (simp; generalize ByteArray.toList _ = l_; cases l_ <;> rfl)), H', ⟨Nat.le_refl _⟩, ⟨by repeat (first | (with_reducible first | exact HB.out | apply below_alloc | apply pw_below_drewN | apply below_drew1) | exact HB.out)⟩⟩
    case round =>
      clear H'
      try clear c1
      try clear c2
      try clear c2b0
      try clear c2b1
      try clear p2
      try clear c3
      obtain ⟨x3_1, rfl, HA, HK1, HB⟩ := hrel
      cases gk with
      | zero => exact absurd HA.out (by simp [path_Clean.l0])
      | succ k1 =>
        have H := HA.out
        clear HA
        simp only [path_Clean.l0] at H
        have HC4 := Aside0.mk H
        clear H
        go_upto_region 4 with (fail)
        go_cut [19] (fun v19 wc => ∃ (kq : Nat) (x19_3 : Bool), v19 = .bool x19_3 ∧ Aside0 (path_Clean.j1 kq x3_1 t134 x19_3 = some r) ∧ Aside0 (kq ≤ k1) ∧ Aside0 (Below w.heap.size w wc))
        case first =>
          have H := HC4.out
          clear HC4
          by_cases c5 : t134 = true
          · subst c5
            have H1 : (path_Clean.j1 k1 x3_1 true (x3_1.toList != ([] : List UInt8))) = some r := by rw [if_pos rfl] at H; exact H
            clear H
            have H := H1
            clear H1
            have H' := Aside0.mk H
            clear H
            go_wp2
            go_meet
            case rel => exact ⟨_, ((x3_1.toList != ([] : List UInt8))), (by first | rfl | (simp; done) | (simp [*]; done) | (simp; generalize ByteArray.toList _ = l_; cases l_ <;> rfl)), H', ⟨by have := HK1.out; first | omega | exact Nat.le_refl _⟩, ⟨by repeat (first | (with_reducible first | exact HB.out | apply below_alloc | apply pw_below_drewN | apply below_drew1) | exact HB.out)⟩⟩
          · replace c5 := Bool.eq_false_iff.mpr c5
            subst c5
            have H1 : (path_Clean.j1 k1 x3_1 false false) = some r := by rw [if_neg (show ¬ (false = true) by decide)] at H; exact H
            clear H
            have H := H1
            clear H1
            have H' := Aside0.mk H
            clear H
            go_wp2
            go_meet
            case rel => exact ⟨_, (false), (by first | rfl | (simp; done) | (simp [*]; done) | (simp; generalize ByteArray.toList _ = l_; cases l_ <;> rfl)), H', ⟨by have := HK1.out; first | omega | exact Nat.le_refl _⟩, ⟨by repeat (first | (with_reducible first | exact HB.out | apply below_alloc | apply pw_below_drewN | apply below_drew1) | exact HB.out)⟩⟩
        case rest =>
          clear HC4
          try clear c1
          try clear c2
          try clear c2b0
          try clear c2b1
          try clear p2
          try clear c3
          try clear c5
          try clear p2
          obtain ⟨kq, x19_3, rfl, HA, HJ3, HB⟩ := hcut
          cases kq with
          | zero => exact absurd HA.out (by simp [path_Clean.j1])
          | succ kj3 =>
            have H := HA.out
            clear HA
            simp only [path_Clean.j1] at H
            by_cases c6 : x19_3 = true
            · subst c6
              have H1 : ((strings_Cut.f x3_1 (⟨#[47]⟩ : ByteArray)).bind fun bt135 => ((path_Name.f bt135.1).bind fun t138 => (if t138 = true then (if bt135.2.2 = true then (path_Clean.j2 kj3 t134 bt135.2.1 bt135.2.2 (bt135.2.1.toList == ([] : List UInt8))) else (path_Clean.j2 kj3 t134 bt135.2.1 bt135.2.2 false)) else (path_Clean.j2 kj3 t134 bt135.2.1 bt135.2.2 true)))) = some r := by rw [if_pos rfl] at H; exact H
              clear H
              have H := H1
              clear H1
              replace H := Option.bind_eq_some_iff.mp H
              obtain ⟨⟨t135, t136, t137⟩, A70, H⟩ := H
              replace H : ((path_Name.f t135).bind fun t138 => (if t138 = true then (if t137 = true then (path_Clean.j2 kj3 t134 t136 t137 (t136.toList == ([] : List UInt8))) else (path_Clean.j2 kj3 t134 t136 t137 false)) else (path_Clean.j2 kj3 t134 t136 t137 true))) = some r := H
              have A7 := Aside0.mk A70
              clear A70
              have HC8 := Aside0.mk H
              clear H
              go_upto_region 6 with (first | ((with_reducible refine gate_callee (f := 31) rfl ?_); refine goesL_ (some 22) rfl rfl Tryd.func31 (by kernel_rfl) rfl #[.string x3_1, .string (⟨#[47]⟩ : ByteArray)] rfl (by (try simp only [List.map_toArray, List.map_cons, List.map_nil]); first | done | rfl | (simp only [List.length_drop, List.length_take]; rfl)) ?_; (with_reducible refine (strings_Cut.calls x3_1 (⟨#[47]⟩ : ByteArray) t135 t136 t137 _ A7.out).mono ?_); rintro e w' ⟨rfl, ⟨nd, rfl⟩⟩; refine ⟨_, rfl, ?_⟩))
              (try simp only [Act.put, List.setIfInBounds_toArray, List.set_cons_zero, List.set_cons_succ])
              go_cut [35] (fun v35 wc => ∃ (kq : Nat) (x35_7 : Bool), v35 = .bool x35_7 ∧ Aside0 (path_Clean.j2 kq t134 t136 t137 x35_7 = some r) ∧ Aside0 (kq ≤ kj3) ∧ Aside0 (Below w.heap.size w wc))
              case first =>
                have H := HC8.out
                clear HC8
                replace H := Option.bind_eq_some_iff.mp H
                obtain ⟨t138, A90, H⟩ := H
                replace H : (if t138 = true then (if t137 = true then (path_Clean.j2 kj3 t134 t136 t137 (t136.toList == ([] : List UInt8))) else (path_Clean.j2 kj3 t134 t136 t137 false)) else (path_Clean.j2 kj3 t134 t136 t137 true)) = some r := H
                have A9 := Aside0.mk A90
                clear A90
                by_cases c10 : t138 = true
                · subst c10
                  have H1 : (if t137 = true then (path_Clean.j2 kj3 t134 t136 t137 (t136.toList == ([] : List UInt8))) else (path_Clean.j2 kj3 t134 t136 t137 false)) = some r := by rw [if_pos rfl] at H; exact H
                  clear H
                  have H := H1
                  clear H1
                  by_cases c11 : t137 = true
                  · subst c11
                    have H1 : (path_Clean.j2 kj3 t134 t136 true (t136.toList == ([] : List UInt8))) = some r := by rw [if_pos rfl] at H; exact H
                    clear H
                    have H := H1
                    clear H1
                    have H' := Aside0.mk H
                    clear H
                    go_wp2_with (first | ((with_reducible refine gate_callee (f := 16) rfl ?_); refine goesL_ (some 27) rfl rfl Tryd.func16 (by kernel_rfl) rfl #[.string t135] rfl (by (try simp only [List.map_toArray, List.map_cons, List.map_nil]); first | done | rfl | (simp only [List.length_drop, List.length_take]; rfl)) ?_; (with_reducible refine (path_Name.calls t135 true _ A9.out).mono ?_); rintro e w12 ⟨rfl, hb⟩; refine ⟨_, rfl, ?_⟩; have n0_ := Aside0.mk (below_step (by repeat (first | (with_reducible first | exact HB.out | apply below_alloc | apply pw_below_drewN | apply below_drew1) | exact HB.out)) hb); clear HB; have HB := n0_; clear n0_; (try clear hb); (try clear hb2); (try clear hk); (try clear hi)))
                    go_meet
                    case rel => exact ⟨_, ((t136.toList == ([] : List UInt8))), (by first | rfl | (simp; done) | (simp [*]; done) | (simp; generalize ByteArray.toList _ = l_; cases l_ <;> rfl)), H', ⟨by have := HK1.out; have := HJ3.out; first | omega | exact Nat.le_refl _⟩, ⟨by repeat (first | (with_reducible first | exact HB.out | apply below_alloc | apply pw_below_drewN | apply below_drew1) | exact HB.out)⟩⟩
                  · replace c11 := Bool.eq_false_iff.mpr c11
                    subst c11
                    have H1 : (path_Clean.j2 kj3 t134 t136 false false) = some r := by rw [if_neg (show ¬ (false = true) by decide)] at H; exact H
                    clear H
                    have H := H1
                    clear H1
                    have H' := Aside0.mk H
                    clear H
                    go_wp2_with (first | ((with_reducible refine gate_callee (f := 16) rfl ?_); refine goesL_ (some 27) rfl rfl Tryd.func16 (by kernel_rfl) rfl #[.string t135] rfl (by (try simp only [List.map_toArray, List.map_cons, List.map_nil]); first | done | rfl | (simp only [List.length_drop, List.length_take]; rfl)) ?_; (with_reducible refine (path_Name.calls t135 true _ A9.out).mono ?_); rintro e w13 ⟨rfl, hb⟩; refine ⟨_, rfl, ?_⟩; have n0_ := Aside0.mk (below_step (by repeat (first | (with_reducible first | exact HB.out | apply below_alloc | apply pw_below_drewN | apply below_drew1) | exact HB.out)) hb); clear HB; have HB := n0_; clear n0_; (try clear hb); (try clear hb2); (try clear hk); (try clear hi)))
                    go_meet
                    case rel => exact ⟨_, (false), (by first | rfl | (simp; done) | (simp [*]; done) | (simp; generalize ByteArray.toList _ = l_; cases l_ <;> rfl)), H', ⟨by have := HK1.out; have := HJ3.out; first | omega | exact Nat.le_refl _⟩, ⟨by repeat (first | (with_reducible first | exact HB.out | apply below_alloc | apply pw_below_drewN | apply below_drew1) | exact HB.out)⟩⟩
                · replace c10 := Bool.eq_false_iff.mpr c10
                  subst c10
                  have H1 : (path_Clean.j2 kj3 t134 t136 t137 true) = some r := by rw [if_neg (show ¬ (false = true) by decide)] at H; exact H
                  clear H
                  have H := H1
                  clear H1
                  have H' := Aside0.mk H
                  clear H
                  go_wp2_with (first | ((with_reducible refine gate_callee (f := 16) rfl ?_); refine goesL_ (some 27) rfl rfl Tryd.func16 (by kernel_rfl) rfl #[.string t135] rfl (by (try simp only [List.map_toArray, List.map_cons, List.map_nil]); first | done | rfl | (simp only [List.length_drop, List.length_take]; rfl)) ?_; (with_reducible refine (path_Name.calls t135 false _ A9.out).mono ?_); rintro e w14 ⟨rfl, hb⟩; refine ⟨_, rfl, ?_⟩; have n0_ := Aside0.mk (below_step (by repeat (first | (with_reducible first | exact HB.out | apply below_alloc | apply pw_below_drewN | apply below_drew1) | exact HB.out)) hb); clear HB; have HB := n0_; clear n0_; (try clear hb); (try clear hb2); (try clear hk); (try clear hi)))
                  go_meet
                  case rel => exact ⟨_, (true), (by first | rfl | (simp; done) | (simp [*]; done) | (simp; generalize ByteArray.toList _ = l_; cases l_ <;> rfl)), H', ⟨by have := HK1.out; have := HJ3.out; first | omega | exact Nat.le_refl _⟩, ⟨by repeat (first | (with_reducible first | exact HB.out | apply below_alloc | apply pw_below_drewN | apply below_drew1) | exact HB.out)⟩⟩
              case rest =>
                clear HC8
                try clear c1
                try clear c2
                try clear c2b0
                try clear c2b1
                try clear p2
                try clear c3
                try clear c5
                try clear c6
                try clear c10
                try clear c11
                try clear p2
                obtain ⟨kq, x35_7, rfl, HA, HJ7, HB⟩ := hcut
                cases kq with
                | zero => exact absurd HA.out (by simp [path_Clean.j2])
                | succ kj7 =>
                  have H := HA.out
                  clear HA
                  simp only [path_Clean.j2] at H
                  by_cases c15 : x35_7 = true
                  · subst c15
                    have H1 : (some false) = some r := by rw [if_pos rfl] at H; exact H
                    clear H
                    have H := H1
                    clear H1
                    obtain rfl := Option.some.inj H
                    go_wp2
                    go_ret
                    exact ⟨by first | rfl | (simp [errW_none, errW_some] <;> rfl) | (simp [*, errW_none, errW_some] <;> rfl), by repeat (first | (with_reducible first | exact HB.out | apply below_alloc | apply pw_below_drewN | apply below_drew1) | exact HB.out)⟩
                  · replace c15 := Bool.eq_false_iff.mpr c15
                    subst c15
                    have H1 : (if t137 = true then (path_Clean.l0 kj7 t136 t134) else (some true)) = some r := by rw [if_neg (show ¬ (false = true) by decide)] at H; exact H
                    clear H
                    have H := H1
                    clear H1
                    by_cases c16 : t137 = true
                    · subst c16
                      have H1 : (path_Clean.l0 kj7 t136 t134) = some r := by rw [if_pos rfl] at H; exact H
                      clear H
                      have H := H1
                      clear H1
                      have H' := Aside0.mk H
                      clear H
                      go_wp2
                      go_roundg kj7
                      case measure => have := HK1.out; have := HJ3.out; have := HJ7.out; omega
                      case rel => exact ⟨(t136), (by first | rfl | (simp; done) | (simp [*]; done) | (simp; generalize ByteArray.toList _ = l_; cases l_ <;> rfl)), H', ⟨by have := HK1.out; have := HJ3.out; have := HJ7.out; omega⟩, ⟨by repeat (first | (with_reducible first | exact HB.out | apply below_alloc | apply pw_below_drewN | apply below_drew1) | exact HB.out)⟩⟩
                    · replace c16 := Bool.eq_false_iff.mpr c16
                      subst c16
                      have H1 : (some true) = some r := by rw [if_neg (show ¬ (false = true) by decide)] at H; exact H
                      clear H
                      have H := H1
                      clear H1
                      obtain rfl := Option.some.inj H
                      go_wp2
                      go_ret
                      exact ⟨by first | rfl | (simp [errW_none, errW_some] <;> rfl) | (simp [*, errW_none, errW_some] <;> rfl), by repeat (first | (with_reducible first | exact HB.out | apply below_alloc | apply pw_below_drewN | apply below_drew1) | exact HB.out)⟩
            · replace c6 := Bool.eq_false_iff.mpr c6
              subst c6
              have H1 : (some false) = some r := by rw [if_neg (show ¬ (false = true) by decide)] at H; exact H
              clear H
              have H := H1
              clear H1
              obtain rfl := Option.some.inj H
              go_wp2
              go_ret
              exact ⟨by first | rfl | (simp [errW_none, errW_some] <;> rfl) | (simp [*, errW_none, errW_some] <;> rfl), by repeat (first | (with_reducible first | exact HB.out | apply below_alloc | apply pw_below_drewN | apply below_drew1) | exact HB.out)⟩

end Go.Proofs.YtnjabpgbpgocnaaDoor.PAll

-- PAllx31
namespace Go.Proofs.YtnjabpgbpgocnaaDoor.PAll
open Go.RowKit Go.Proofs.YtnjabpgbpgocnaaDoorW.PrintWords Go.Proofs.YtnjabpgbpgocnaaDoorW.PrintLast Go.Proofs.YtnjabpgbpgocnaaDoorW.PrintMore
attribute [local go_sem] max2_int min2_int max_two min_two max_three min_three max_four min_four   -- for this text's walks alone
set_option linter.unusedVariables false
set_option linter.unusedSimpArgs false

/-! ### strings_HasPrefix: function 28 -/
def strings_HasPrefix.f (a0 : ByteArray) (a1 : ByteArray) : Option (Bool) := (stringslite_HasPrefix.f a0 a1).bind fun t139 => (some t139)
set_option maxHeartbeats 8000000 in
set_option maxRecDepth 100000 in
theorem strings_HasPrefix.calls (a0 : ByteArray) (a1 : ByteArray) (r : Bool) (w : World) (h : strings_HasPrefix.f a0 a1 = some r) :
    Calls Tryd.prog 28 #[.string a0, .string a1] w fun e w' => e = .returned (.bool r) ∧ Drawn0 w w' := by
  have H : ((stringslite_HasPrefix.f a0 a1).bind fun t139 => (some t139)) = some r := h
  clear h
  replace H := Option.bind_eq_some_iff.mp H
  obtain ⟨t139, A30, H⟩ := H
  replace H : (some t139) = some r := H
  have A3 := Aside0.mk A30
  clear A30
  obtain rfl := Option.some.inj H
  go_enter Tryd.func28, Tryd.ntmps28
  go_wp2_with (first | ((with_reducible refine gate_callee (f := 40) rfl ?_); refine goesL_ (some 7) rfl rfl Tryd.func40 (by kernel_rfl) rfl #[.string a0, .string a1] rfl (by (try simp only [List.map_toArray, List.map_cons, List.map_nil]); first | done | rfl | (simp only [List.length_drop, List.length_take]; rfl)) ?_; (with_reducible refine (stringslite_HasPrefix.calls a0 a1 t139 _ A3.out).mono ?_); rintro e w' ⟨rfl, ⟨nd, rfl⟩⟩; refine ⟨_, rfl, ?_⟩))
  go_ret
  exact ⟨by first | rfl | (simp; done) | (simp [*]; done), by repeat (first | exact Drawn0.refl _ | apply Drawn0.step)⟩

end Go.Proofs.YtnjabpgbpgocnaaDoor.PAll

-- PAllx32
namespace Go.Proofs.YtnjabpgbpgocnaaDoor.PAll
open Go.RowKit Go.Proofs.YtnjabpgbpgocnaaDoorW.PrintWords Go.Proofs.YtnjabpgbpgocnaaDoorW.PrintLast Go.Proofs.YtnjabpgbpgocnaaDoorW.PrintMore
attribute [local go_sem] max2_int min2_int max_two min_two max_three min_three max_four min_four   -- for this text's walks alone
set_option linter.unusedVariables false
set_option linter.unusedSimpArgs false

/-! ### path_Under: function 14 -/
def path_Under.f (k : Nat) (a0 : ByteArray) (a1 : ByteArray) : Option (Bool) := (path_Clean.f k a0).bind fun t140 => (if t140 = true then ((path_Clean.f k a1).bind fun t141 => (if t141 = true then (if a0.toList = a1.toList then (some true) else ((path_Join.f a0 (⟨#[]⟩ : ByteArray)).bind fun t142 => ((strings_HasPrefix.f a1 t142).bind fun t143 => (some t143)))) else (some false))) else (some false))
theorem path_Under.mono : ∀ a0 a1 k, LeO (path_Under.f k a0 a1) (path_Under.f (k + 1) a0 a1) := by
  intro a0 a1 k
  unfold path_Under.f
  repeat' first
      | (with_reducible exact path_Clean.mono _ _)
      | (with_reducible exact LeO.refl _)
      | (with_reducible exact LeO.none _)
      | (with_reducible refine LeO.ite ?_ ?_)
      | (with_reducible refine LeO.bind ?_ (fun _ => ?_))
      | exact path_Clean.mono _ _
      | exact LeO.none _
      | refine LeO.ite ?_ ?_
      | refine LeO.bind ?_ (fun _ => ?_)
set_option maxHeartbeats 8000000 in
set_option maxRecDepth 100000 in
theorem path_Under.calls (k : Nat) (a0 : ByteArray) (a1 : ByteArray) (r : Bool) (w : World) (h : path_Under.f k a0 a1 = some r) :
    Calls Tryd.prog 14 #[.string a0, .string a1] w fun e w' => e = .returned (.bool r) ∧ Below w.heap.size w w' := by
  have HB := Aside0.mk (Below.refl w.heap.size w)
  have H : ((path_Clean.f k a0).bind fun t140 => (if t140 = true then ((path_Clean.f k a1).bind fun t141 => (if t141 = true then (if a0.toList = a1.toList then (some true) else ((path_Join.f a0 (⟨#[]⟩ : ByteArray)).bind fun t142 => ((strings_HasPrefix.f a1 t142).bind fun t143 => (some t143)))) else (some false))) else (some false))) = some r := h
  clear h
  replace H := Option.bind_eq_some_iff.mp H
  obtain ⟨t140, A30, H⟩ := H
  replace H : (if t140 = true then ((path_Clean.f k a1).bind fun t141 => (if t141 = true then (if a0.toList = a1.toList then (some true) else ((path_Join.f a0 (⟨#[]⟩ : ByteArray)).bind fun t142 => ((strings_HasPrefix.f a1 t142).bind fun t143 => (some t143)))) else (some false))) else (some false)) = some r := H
  have A3 := Aside0.mk A30
  clear A30
  by_cases c4 : t140 = true
  · subst c4
    have H1 : ((path_Clean.f k a1).bind fun t141 => (if t141 = true then (if a0.toList = a1.toList then (some true) else ((path_Join.f a0 (⟨#[]⟩ : ByteArray)).bind fun t142 => ((strings_HasPrefix.f a1 t142).bind fun t143 => (some t143)))) else (some false))) = some r := by rw [if_pos rfl] at H; exact H
    clear H
    have H := H1
    clear H1
    replace H := Option.bind_eq_some_iff.mp H
    obtain ⟨t141, A50, H⟩ := H
    replace H : (if t141 = true then (if a0.toList = a1.toList then (some true) else ((path_Join.f a0 (⟨#[]⟩ : ByteArray)).bind fun t142 => ((strings_HasPrefix.f a1 t142).bind fun t143 => (some t143)))) else (some false)) = some r := H
    have A5 := Aside0.mk A50
    clear A50
    by_cases c6 : t141 = true
    · subst c6
      have H1 : (if a0.toList = a1.toList then (some true) else ((path_Join.f a0 (⟨#[]⟩ : ByteArray)).bind fun t142 => ((strings_HasPrefix.f a1 t142).bind fun t143 => (some t143)))) = some r := by rw [if_pos rfl] at H; exact H
      clear H
      have H := H1
      clear H1
      by_cases c7 : a0.toList = a1.toList
      · rw [if_pos c7] at H
        have c7b0 : (a0.toList == a1.toList) = true := beq_iff_eq.mpr c7
        have c7b1 : (a0.toList != a1.toList) = false := bne_eq_false_iff_eq.mpr c7
        clear c7
        obtain rfl := Option.some.inj H
        go_enter Tryd.func14, Tryd.ntmps14
        go_wp2_with (first | ((with_reducible refine gate_callee (f := 17) rfl ?_); refine goesL_ (some 6) rfl rfl Tryd.func17 (by kernel_rfl) rfl #[.string a0] rfl (by (try simp only [List.map_toArray, List.map_cons, List.map_nil]); first | done | rfl | (simp only [List.length_drop, List.length_take]; rfl)) ?_; (with_reducible refine (path_Clean.calls k a0 true _ A3.out).mono ?_); rintro e w8 ⟨rfl, hb⟩; refine ⟨_, rfl, ?_⟩; have n0_ := Aside0.mk (below_step (by repeat (first | (with_reducible first | exact HB.out | apply below_alloc | apply pw_below_drewN | apply below_drew1) | exact HB.out)) hb); clear HB; have HB := n0_; clear n0_; (try clear hb); (try clear hb2); (try clear hk); (try clear hi)) | (go_at_call 17; (with_reducible refine (path_Clean.calls k a1 true _ A5.out).mono ?_); rintro e w9 ⟨rfl, hb⟩; have n0_ := Aside0.mk (below_step (by repeat (first | (with_reducible first | exact HB.out | apply below_alloc | apply pw_below_drewN | apply below_drew1) | exact HB.out)) hb); clear HB; have HB := n0_; clear n0_; (try clear hb); (try clear hb2); (try clear hk); (try clear hi)))
        go_ret
        exact ⟨by first | rfl | (simp [errW_none, errW_some] <;> rfl) | (simp [*, errW_none, errW_some] <;> rfl), by repeat (first | (with_reducible first | exact HB.out | apply below_alloc | apply pw_below_drewN | apply below_drew1) | exact HB.out)⟩
      · rw [if_neg c7] at H
        have c7b0 : (a0.toList == a1.toList) = false := beq_eq_false_iff_ne.mpr c7
        have c7b1 : (a0.toList != a1.toList) = true := bne_iff_ne.mpr c7
        replace H := Option.bind_eq_some_iff.mp H
        obtain ⟨t142, A100, H⟩ := H
        replace H : ((strings_HasPrefix.f a1 t142).bind fun t143 => (some t143)) = some r := H
        have A10 := Aside0.mk A100
        clear A100
        replace H := Option.bind_eq_some_iff.mp H
        obtain ⟨t143, A110, H⟩ := H
        replace H : (some t143) = some r := H
        have A11 := Aside0.mk A110
        clear A110
        obtain rfl := Option.some.inj H
        go_enter Tryd.func14, Tryd.ntmps14
        go_wp2_with (first | ((with_reducible refine gate_callee (f := 17) rfl ?_); refine goesL_ (some 6) rfl rfl Tryd.func17 (by kernel_rfl) rfl #[.string a0] rfl (by (try simp only [List.map_toArray, List.map_cons, List.map_nil]); first | done | rfl | (simp only [List.length_drop, List.length_take]; rfl)) ?_; (with_reducible refine (path_Clean.calls k a0 true _ A3.out).mono ?_); rintro e w12 ⟨rfl, hb⟩; refine ⟨_, rfl, ?_⟩; have n0_ := Aside0.mk (below_step (by repeat (first | (with_reducible first | exact HB.out | apply below_alloc | apply pw_below_drewN | apply below_drew1) | exact HB.out)) hb); clear HB; have HB := n0_; clear n0_; (try clear hb); (try clear hb2); (try clear hk); (try clear hi)) | (go_at_call 17; (with_reducible refine (path_Clean.calls k a1 true _ A5.out).mono ?_); rintro e w13 ⟨rfl, hb⟩; have n0_ := Aside0.mk (below_step (by repeat (first | (with_reducible first | exact HB.out | apply below_alloc | apply pw_below_drewN | apply below_drew1) | exact HB.out)) hb); clear HB; have HB := n0_; clear n0_; (try clear hb); (try clear hb2); (try clear hk); (try clear hi)) | (go_at_call 13; (with_reducible refine (path_Join.calls a0 (⟨#[]⟩ : ByteArray) t142 _ A10.out).mono ?_); rintro e w' ⟨rfl, ⟨nd, rfl⟩⟩) | (go_at_call 28; (with_reducible refine (strings_HasPrefix.calls a1 t142 t143 _ A11.out).mono ?_); rintro e w' ⟨rfl, ⟨nd, rfl⟩⟩))
        go_ret
        exact ⟨by first | rfl | (simp [errW_none, errW_some] <;> rfl) | (simp [*, errW_none, errW_some] <;> rfl), by repeat (first | (with_reducible first | exact HB.out | apply below_alloc | apply pw_below_drewN | apply below_drew1) | exact HB.out)⟩
    · replace c6 := Bool.eq_false_iff.mpr c6
      subst c6
      have H1 : (some false) = some r := by rw [if_neg (show ¬ (false = true) by decide)] at H; exact H
      clear H
      have H := H1
      clear H1
      obtain rfl := Option.some.inj H
      go_enter Tryd.func14, Tryd.ntmps14
      go_wp2_with (first | ((with_reducible refine gate_callee (f := 17) rfl ?_); refine goesL_ (some 6) rfl rfl Tryd.func17 (by kernel_rfl) rfl #[.string a0] rfl (by (try simp only [List.map_toArray, List.map_cons, List.map_nil]); first | done | rfl | (simp only [List.length_drop, List.length_take]; rfl)) ?_; (with_reducible refine (path_Clean.calls k a0 true _ A3.out).mono ?_); rintro e w14 ⟨rfl, hb⟩; refine ⟨_, rfl, ?_⟩; have n0_ := Aside0.mk (below_step (by repeat (first | (with_reducible first | exact HB.out | apply below_alloc | apply pw_below_drewN | apply below_drew1) | exact HB.out)) hb); clear HB; have HB := n0_; clear n0_; (try clear hb); (try clear hb2); (try clear hk); (try clear hi)) | (go_at_call 17; (with_reducible refine (path_Clean.calls k a1 false _ A5.out).mono ?_); rintro e w15 ⟨rfl, hb⟩; have n0_ := Aside0.mk (below_step (by repeat (first | (with_reducible first | exact HB.out | apply below_alloc | apply pw_below_drewN | apply below_drew1) | exact HB.out)) hb); clear HB; have HB := n0_; clear n0_; (try clear hb); (try clear hb2); (try clear hk); (try clear hi)))
      go_ret
      exact ⟨by first | rfl | (simp [errW_none, errW_some] <;> rfl) | (simp [*, errW_none, errW_some] <;> rfl), by repeat (first | (with_reducible first | exact HB.out | apply below_alloc | apply pw_below_drewN | apply below_drew1) | exact HB.out)⟩
  · replace c4 := Bool.eq_false_iff.mpr c4
    subst c4
    have H1 : (some false) = some r := by rw [if_neg (show ¬ (false = true) by decide)] at H; exact H
    clear H
    have H := H1
    clear H1
    obtain rfl := Option.some.inj H
    go_enter Tryd.func14, Tryd.ntmps14
    go_wp2_with (first | ((with_reducible refine gate_callee (f := 17) rfl ?_); refine goesL_ (some 6) rfl rfl Tryd.func17 (by kernel_rfl) rfl #[.string a0] rfl (by (try simp only [List.map_toArray, List.map_cons, List.map_nil]); first | done | rfl | (simp only [List.length_drop, List.length_take]; rfl)) ?_; (with_reducible refine (path_Clean.calls k a0 false _ A3.out).mono ?_); rintro e w16 ⟨rfl, hb⟩; refine ⟨_, rfl, ?_⟩; have n0_ := Aside0.mk (below_step (by repeat (first | (with_reducible first | exact HB.out | apply below_alloc | apply pw_below_drewN | apply below_drew1) | exact HB.out)) hb); clear HB; have HB := n0_; clear n0_; (try clear hb); (try clear hb2); (try clear hk); (try clear hi)))
    go_ret
    exact ⟨by first | rfl | (simp [errW_none, errW_some] <;> rfl) | (simp [*, errW_none, errW_some] <;> rfl), by repeat (first | (with_reducible first | exact HB.out | apply below_alloc | apply pw_below_drewN | apply below_drew1) | exact HB.out)⟩

end Go.Proofs.YtnjabpgbpgocnaaDoor.PAll

-- PAllx35
namespace Go.Proofs.YtnjabpgbpgocnaaDoor.PAll
open Go.RowKit Go.Proofs.YtnjabpgbpgocnaaDoorW.PrintWords Go.Proofs.YtnjabpgbpgocnaaDoorW.PrintLast Go.Proofs.YtnjabpgbpgocnaaDoorW.PrintMore
attribute [local go_sem] max2_int min2_int max_two min_two max_three min_three max_four min_four   -- for this text's walks alone
set_option linter.unusedVariables false
set_option linter.unusedSimpArgs false

/-! ### bytealg_LastIndexByteString: function 46 -/
def bytealg_LastIndexByteString.l0 : Nat → ByteArray → Int → Int → Option (Int)
  | 0, _, _, _ => none
  | k + 1, x0, x1, x5 => if x5 ≥ 0 then (if 0 ≤ x5 then (if x5 < (x0.size : Int) then (if (bt x0 x5) = x1 then (some x5) else (bytealg_LastIndexByteString.l0 k x0 x1 (wrap64 (x5 - 1)))) else (none)) else (none)) else (some (-1))
def bytealg_LastIndexByteString.f (k : Nat) (a0 : ByteArray) (a1 : Int) : Option (Int) := bytealg_LastIndexByteString.l0 k a0 a1 (wrap64 ((a0.size : Int) - 1))
theorem bytealg_LastIndexByteString.mono_l : ∀ k, (∀ y0 y1 y2, LeO (bytealg_LastIndexByteString.l0 k y0 y1 y2) (bytealg_LastIndexByteString.l0 (k + 1) y0 y1 y2))
  | 0 => fun _ _ _ r h => by simp [bytealg_LastIndexByteString.l0] at h
  | k + 1 => by
    have ih0 := bytealg_LastIndexByteString.mono_l k
    · intro y0 y1 y2
      unfold bytealg_LastIndexByteString.l0
      repeat' first
      | (with_reducible exact ih0 _ _ _)
      | (with_reducible exact LeO.refl _)
      | (with_reducible exact LeO.none _)
      | (with_reducible refine LeO.ite ?_ ?_)
      | (with_reducible refine LeO.bind ?_ (fun _ => ?_))
      | exact ih0 _ _ _
      | exact LeO.none _
      | refine LeO.ite ?_ ?_
      | refine LeO.bind ?_ (fun _ => ?_)
theorem bytealg_LastIndexByteString.mono : ∀ a0 a1 k, LeO (bytealg_LastIndexByteString.f k a0 a1) (bytealg_LastIndexByteString.f (k + 1) a0 a1) := by
  intro a0 a1 k
  have ih0 := bytealg_LastIndexByteString.mono_l k
  unfold bytealg_LastIndexByteString.f
  repeat' first
      | (with_reducible exact ih0 _ _ _)
      | (with_reducible exact LeO.refl _)
      | (with_reducible exact LeO.none _)
      | (with_reducible refine LeO.ite ?_ ?_)
      | (with_reducible refine LeO.bind ?_ (fun _ => ?_))
      | exact ih0 _ _ _
      | exact LeO.none _
      | refine LeO.ite ?_ ?_
      | refine LeO.bind ?_ (fun _ => ?_)
set_option maxHeartbeats 8000000 in
set_option maxRecDepth 100000 in
theorem bytealg_LastIndexByteString.calls (k : Nat) (a0 : ByteArray) (a1 : Int) (r : Int) (w : World) (h : bytealg_LastIndexByteString.f k a0 a1 = some r) :
    Calls Tryd.prog 46 #[.string a0, .int .u8 a1] w fun e w' => e = .returned (.int .i64 r) ∧ Drawn0 w w' := by
  have H : (bytealg_LastIndexByteString.l0 k a0 a1 (wrap64 ((a0.size : Int) - 1))) = some r := h
  clear h
  have H' := Aside0.mk H
  clear H
  go_enter Tryd.func46, Tryd.ntmps46
  go_wp2
  (first | go_loopg [5] k (fun kq v5 w' => ∃ (x5_1 : Int), v5 = .int .i64 x5_1 ∧ Aside0 (bytealg_LastIndexByteString.l0 kq a0 a1 x5_1 = some r) ∧ Aside0 (kq ≤ k) ∧ Drawn0 w w') | (go_simp; go_loopg [5] k (fun kq v5 w' => ∃ (x5_1 : Int), v5 = .int .i64 x5_1 ∧ Aside0 (bytealg_LastIndexByteString.l0 kq a0 a1 x5_1 = some r) ∧ Aside0 (kq ≤ k) ∧ Drawn0 w w')))
  case atStart => exact ⟨(wrap64 ((a0.size : Int) - 1)), (by first | rfl | (simp; done) | (simp [*]; done)), H', ⟨Nat.le_refl _⟩, by repeat (first | exact Drawn0.refl _ | apply Drawn0.step)⟩
  case round =>
    clear H'
    try clear p2
    obtain ⟨x5_1, rfl, HA, HK1, ⟨m1, rfl⟩⟩ := hrel
    cases gk with
    | zero => exact absurd HA.out (by simp [bytealg_LastIndexByteString.l0])
    | succ k1 =>
      have H := HA.out
      clear HA
      simp only [bytealg_LastIndexByteString.l0] at H
      by_cases c3 : x5_1 ≥ 0
      · rw [if_pos c3] at H
        have c3b0 : decide (0 ≤ x5_1) = true := decide_eq_true c3
        clear c3
        by_cases c4 : 0 ≤ x5_1
        · rw [if_pos c4] at H
          have c4b0 : decide (0 ≤ x5_1) = true := decide_eq_true c4
          clear c4
          by_cases c5 : x5_1 < (a0.size : Int)
          · rw [if_pos c5] at H
            have c5b0 : decide (x5_1 < (a0.size : Int)) = true := decide_eq_true c5
            clear c5
            by_cases c7 : (bt a0 x5_1) = a1
            · rw [if_pos c7] at H
              have c7b0 : ((bt a0 x5_1) == a1) = true := beq_iff_eq.mpr c7
              have c7b1 : ((bt a0 x5_1) != a1) = false := bne_eq_false_iff_eq.mpr c7
              clear c7
              obtain rfl := Option.some.inj H
              have p6 : 0 ≤ (x5_1 : Int) := of_decide_eq_true (by first | (with_reducible assumption) | assumption)
              have q6 : x5_1 < (a0.size : Int) := of_decide_eq_true (by first | (with_reducible assumption) | assumption)
              have hx6 := bt_at a0 x5_1
              replace p6 := eq_true p6
              replace q6 := eq_true q6
              go_wp2
              go_ret
              exact ⟨by first | rfl | (simp; done) | (simp [*]; done), by repeat (first | exact Drawn0.refl _ | apply Drawn0.step)⟩
            · rw [if_neg c7] at H
              have c7b0 : ((bt a0 x5_1) == a1) = false := beq_eq_false_iff_ne.mpr c7
              have c7b1 : ((bt a0 x5_1) != a1) = true := bne_iff_ne.mpr c7
              have H' := Aside0.mk H
              clear H
              have p6 : 0 ≤ (x5_1 : Int) := of_decide_eq_true (by first | (with_reducible assumption) | assumption)
              have q6 : x5_1 < (a0.size : Int) := of_decide_eq_true (by first | (with_reducible assumption) | assumption)
              have hx6 := bt_at a0 x5_1
              replace p6 := eq_true p6
              replace q6 := eq_true q6
              go_wp2
              go_roundg k1
              case measure => have := HK1.out; omega
              case rel => exact ⟨(wrap64 (x5_1 - 1)), (by first | rfl | (simp; done) | (simp [*]; done)), H', ⟨by have := HK1.out; omega⟩, by repeat (first | exact Drawn0.refl _ | apply Drawn0.step)⟩
          · rw [if_neg c5] at H
            exact absurd H (by simp)
        · rw [if_neg c4] at H
          exact absurd H (by simp)
      · rw [if_neg c3] at H
        have c3b0 : decide (0 ≤ x5_1) = false := decide_eq_false c3
        clear c3
        obtain rfl := Option.some.inj H
        go_wp2
        go_ret
        exact ⟨by first | rfl | (simp; done) | (simp [*]; done), by repeat (first | exact Drawn0.refl _ | apply Drawn0.step)⟩

end Go.Proofs.YtnjabpgbpgocnaaDoor.PAll

-- HandR
/- bytealg.LastIndexRabinKarp is not asked for: nothing is told of it. -/
namespace Go.Proofs.YtnjabpgbpgocnaaDoor.PAll
open Go.RowKit Go.Proofs.YtnjabpgbpgocnaaDoorW.PrintWords Go.Proofs.YtnjabpgbpgocnaaDoorW.PrintLast Go.Proofs.YtnjabpgbpgocnaaDoorW.PrintMore
set_option linter.unusedVariables false

def bytealg_LastIndexRabinKarp_string.f (s t : ByteArray) : Option Int := none

theorem bytealg_LastIndexRabinKarp_string.calls (a0 : ByteArray) (a1 : ByteArray) (r : Int) (w : World) (h : bytealg_LastIndexRabinKarp_string.f a0 a1 = some r) :
    Calls Tryd.prog 47 #[.string a0, .string a1] w fun e w' => e = .returned (.int .i64 r) ∧ Drawn0 w w' := by
  cases h

end Go.Proofs.YtnjabpgbpgocnaaDoor.PAll

-- PAllx38
namespace Go.Proofs.YtnjabpgbpgocnaaDoor.PAll
open Go.RowKit Go.Proofs.YtnjabpgbpgocnaaDoorW.PrintWords Go.Proofs.YtnjabpgbpgocnaaDoorW.PrintLast Go.Proofs.YtnjabpgbpgocnaaDoorW.PrintMore
attribute [local go_sem] max2_int min2_int max_two min_two max_three min_three max_four min_four   -- for this text's walks alone
set_option linter.unusedVariables false
set_option linter.unusedSimpArgs false

/-! ### strings_LastIndex: function 38 -/
def strings_LastIndex.f (k : Nat) (a0 : ByteArray) (a1 : ByteArray) : Option (Int) := if (a1.size : Int) = 0 then (some (a0.size : Int)) else (if (a1.size : Int) = 1 then (if 0 < (a1.size : Int) then ((bytealg_LastIndexByteString.f k a0 (bt a1 0)).bind fun t144 => (some t144)) else (none)) else (if (a1.size : Int) = (a0.size : Int) then (if a1.toList = a0.toList then (some 0) else (some (-1))) else (if (a1.size : Int) > (a0.size : Int) then (some (-1)) else ((bytealg_LastIndexRabinKarp_string.f a0 a1).bind fun t145 => (some t145)))))
theorem strings_LastIndex.mono : ∀ a0 a1 k, LeO (strings_LastIndex.f k a0 a1) (strings_LastIndex.f (k + 1) a0 a1) := by
  intro a0 a1 k
  unfold strings_LastIndex.f
  repeat' first
      | (with_reducible exact bytealg_LastIndexByteString.mono _ _ _)
      | (with_reducible exact LeO.refl _)
      | (with_reducible exact LeO.none _)
      | (with_reducible refine LeO.ite ?_ ?_)
      | (with_reducible refine LeO.bind ?_ (fun _ => ?_))
      | exact bytealg_LastIndexByteString.mono _ _ _
      | exact LeO.none _
      | refine LeO.ite ?_ ?_
      | refine LeO.bind ?_ (fun _ => ?_)
set_option maxHeartbeats 8000000 in
set_option maxRecDepth 100000 in
theorem strings_LastIndex.calls (k : Nat) (a0 : ByteArray) (a1 : ByteArray) (r : Int) (w : World) (h : strings_LastIndex.f k a0 a1 = some r) :
    Calls Tryd.prog 38 #[.string a0, .string a1] w fun e w' => e = .returned (.int .i64 r) ∧ Drawn0 w w' := by
  have H : (if (a1.size : Int) = 0 then (some (a0.size : Int)) else (if (a1.size : Int) = 1 then (if 0 < (a1.size : Int) then ((bytealg_LastIndexByteString.f k a0 (bt a1 0)).bind fun t144 => (some t144)) else (none)) else (if (a1.size : Int) = (a0.size : Int) then (if a1.toList = a0.toList then (some 0) else (some (-1))) else (if (a1.size : Int) > (a0.size : Int) then (some (-1)) else ((bytealg_LastIndexRabinKarp_string.f a0 a1).bind fun t145 => (some t145)))))) = some r := h
  clear h
  by_cases c3 : (a1.size : Int) = 0
  · rw [if_pos c3] at H
    have c3b0 : ((a1.size : Int) == 0) = true := beq_iff_eq.mpr c3
    have c3b1 : ((a1.size : Int) != 0) = false := bne_eq_false_iff_eq.mpr c3
    clear c3
    obtain rfl := Option.some.inj H
    go_enter Tryd.func38, Tryd.ntmps38
    go_wp2
    go_ret
    exact ⟨by first | rfl | (simp; done) | (simp [*]; done), by repeat (first | exact Drawn0.refl _ | apply Drawn0.step)⟩
  · rw [if_neg c3] at H
    have c3b0 : ((a1.size : Int) == 0) = false := beq_eq_false_iff_ne.mpr c3
    have c3b1 : ((a1.size : Int) != 0) = true := bne_iff_ne.mpr c3
    by_cases c4 : (a1.size : Int) = 1
    · rw [if_pos c4] at H
      have c4b0 : ((a1.size : Int) == 1) = true := beq_iff_eq.mpr c4
      have c4b1 : ((a1.size : Int) != 1) = false := bne_eq_false_iff_eq.mpr c4
      clear c4
      by_cases c5 : 0 < (a1.size : Int)
      · rw [if_pos c5] at H
        have c5b0 : decide (0 < (a1.size : Int)) = true := decide_eq_true c5
        have c5b1 : decide (0 < a1.size) = true := decide_eq_true (by omega)
        clear c5
        replace H := Option.bind_eq_some_iff.mp H
        obtain ⟨t144, A70, H⟩ := H
        replace H : (some t144) = some r := H
        have A7 := Aside0.mk A70
        clear A70
        obtain rfl := Option.some.inj H
        have p6 : 0 ≤ (0 : Int) := (by omega)
        have q6 : 0 < a1.size := (by have : (0 : Int) < (a1.size : Int) := of_decide_eq_true (by first | (with_reducible assumption) | assumption); omega)
        have hx6 : ∀ h : 0 < a1.size, ((a1[0]'h).toNat : Int) = bt a1 0 := bt_at a1 0
        clear p6
        have qi6 : (0 < (a1.size : Int)) = True := eq_true (of_decide_eq_true (by first | (with_reducible assumption) | assumption))
        replace q6 := eq_true q6
        go_enter Tryd.func38, Tryd.ntmps38
        go_wp2_with (first | ((with_reducible refine gate_callee (f := 46) rfl ?_); refine goesL_ (some 19) rfl rfl Tryd.func46 (by kernel_rfl) rfl #[.string a0, .int .u8 (bt a1 0)] rfl (by (try simp only [List.map_toArray, List.map_cons, List.map_nil]); first | done | rfl | (simp only [List.length_drop, List.length_take]; rfl)) ?_; (with_reducible refine (bytealg_LastIndexByteString.calls k a0 (bt a1 0) t144 _ A7.out).mono ?_); rintro e w' ⟨rfl, ⟨nd, rfl⟩⟩; refine ⟨_, rfl, ?_⟩))
        go_ret
        exact ⟨by first | rfl | (simp; done) | (simp [*]; done), by repeat (first | exact Drawn0.refl _ | apply Drawn0.step)⟩
      · rw [if_neg c5] at H
        exact absurd H (by simp)
    · rw [if_neg c4] at H
      have c4b0 : ((a1.size : Int) == 1) = false := beq_eq_false_iff_ne.mpr c4
      have c4b1 : ((a1.size : Int) != 1) = true := bne_iff_ne.mpr c4
      by_cases c8 : (a1.size : Int) = (a0.size : Int)
      · rw [if_pos c8] at H
        have c8b0 : ((a1.size : Int) == (a0.size : Int)) = true := beq_iff_eq.mpr c8
        have c8b1 : ((a1.size : Int) != (a0.size : Int)) = false := bne_eq_false_iff_eq.mpr c8
        have c8b2 : (a1.size == a0.size) = true := by first | simpa using c8 | (simp at c8 ⊢; omega)
        clear c8
        by_cases c9 : a1.toList = a0.toList
        · rw [if_pos c9] at H
          have c9b0 : (a1.toList == a0.toList) = true := beq_iff_eq.mpr c9
          have c9b1 : (a1.toList != a0.toList) = false := bne_eq_false_iff_eq.mpr c9
          clear c9
          obtain rfl := Option.some.inj H
          go_enter Tryd.func38, Tryd.ntmps38
          go_wp2
          go_ret
          exact ⟨by first | rfl | (simp; done) | (simp [*]; done), by repeat (first | exact Drawn0.refl _ | apply Drawn0.step)⟩
        · rw [if_neg c9] at H
          have c9b0 : (a1.toList == a0.toList) = false := beq_eq_false_iff_ne.mpr c9
          have c9b1 : (a1.toList != a0.toList) = true := bne_iff_ne.mpr c9
          obtain rfl := Option.some.inj H
          go_enter Tryd.func38, Tryd.ntmps38
          go_wp2
          go_ret
          exact ⟨by first | rfl | (simp; done) | (simp [*]; done), by repeat (first | exact Drawn0.refl _ | apply Drawn0.step)⟩
      · rw [if_neg c8] at H
        have c8b0 : ((a1.size : Int) == (a0.size : Int)) = false := beq_eq_false_iff_ne.mpr c8
        have c8b1 : ((a1.size : Int) != (a0.size : Int)) = true := bne_iff_ne.mpr c8
        have c8b2 : (a1.size == a0.size) = false := by first | simpa using c8 | (simp at c8 ⊢; omega)
        by_cases c10 : (a1.size : Int) > (a0.size : Int)
        · rw [if_pos c10] at H
          have c10b0 : decide ((a0.size : Int) < (a1.size : Int)) = true := decide_eq_true c10
          have c10b1 : decide (a0.size < a1.size) = true := decide_eq_true (Int.ofNat_lt.mp c10)
          clear c10
          obtain rfl := Option.some.inj H
          go_enter Tryd.func38, Tryd.ntmps38
          go_wp2
          go_ret
          exact ⟨by first | rfl | (simp; done) | (simp [*]; done), by repeat (first | exact Drawn0.refl _ | apply Drawn0.step)⟩
        · rw [if_neg c10] at H
          have c10b0 : decide ((a0.size : Int) < (a1.size : Int)) = false := decide_eq_false c10
          have c10b1 : decide (a0.size < a1.size) = false := decide_eq_false (fun h => c10 (Int.ofNat_lt.mpr h))
          clear c10
          replace H := Option.bind_eq_some_iff.mp H
          obtain ⟨t145, A110, H⟩ := H
          replace H : (some t145) = some r := H
          have A11 := Aside0.mk A110
          clear A110
          obtain rfl := Option.some.inj H
          go_enter Tryd.func38, Tryd.ntmps38
          go_wp2_with (first | ((with_reducible refine gate_callee (f := 47) rfl ?_); refine goesL_ (some 35) rfl rfl Tryd.func47 (by kernel_rfl) rfl #[.string a0, .string a1] rfl (by (try simp only [List.map_toArray, List.map_cons, List.map_nil]); first | done | rfl | (simp only [List.length_drop, List.length_take]; rfl)) ?_; (with_reducible refine (bytealg_LastIndexRabinKarp_string.calls a0 a1 t145 _ A11.out).mono ?_); rintro e w' ⟨rfl, ⟨nd, rfl⟩⟩; refine ⟨_, rfl, ?_⟩))
          go_ret
          exact ⟨by first | rfl | (simp; done) | (simp [*]; done), by repeat (first | exact Drawn0.refl _ | apply Drawn0.step)⟩

end Go.Proofs.YtnjabpgbpgocnaaDoor.PAll

-- PAllx39
namespace Go.Proofs.YtnjabpgbpgocnaaDoor.PAll
open Go.RowKit Go.Proofs.YtnjabpgbpgocnaaDoorW.PrintWords Go.Proofs.YtnjabpgbpgocnaaDoorW.PrintLast Go.Proofs.YtnjabpgbpgocnaaDoorW.PrintMore
attribute [local go_sem] max2_int min2_int max_two min_two max_three min_three max_four min_four   -- for this text's walks alone
set_option linter.unusedVariables false
set_option linter.unusedSimpArgs false

/-! ### path_Parent: function 21 -/
def path_Parent.f (k : Nat) (a0 : ByteArray) : Option (ByteArray × ByteArray × Bool) := if a0.toList = ([47] : List UInt8) then (some ((⟨#[]⟩ : ByteArray), (⟨#[]⟩ : ByteArray), false)) else ((path_Clean.f k a0).bind fun t146 => (if t146 = true then ((strings_LastIndex.f k a0 (⟨#[47]⟩ : ByteArray)).bind fun t147 => (if 0 ≤ (mx t147 1) then (if (mx t147 1) ≤ (a0.size : Int) then (if 0 ≤ (wrap64 (t147 + 1)) then (if (wrap64 (t147 + 1)) ≤ (a0.size : Int) then (some (a0.extract 0 ((mx t147 1) : Int).toNat, a0.extract ((wrap64 (t147 + 1)) : Int).toNat a0.size, true)) else (none)) else (none)) else (none)) else (none))) else (some ((⟨#[]⟩ : ByteArray), (⟨#[]⟩ : ByteArray), false))))
theorem path_Parent.mono : ∀ a0 k, LeO (path_Parent.f k a0) (path_Parent.f (k + 1) a0) := by
  intro a0 k
  unfold path_Parent.f
  repeat' first
      | (with_reducible exact path_Clean.mono _ _)
      | (with_reducible exact strings_LastIndex.mono _ _ _)
      | (with_reducible exact LeO.refl _)
      | (with_reducible exact LeO.none _)
      | (with_reducible refine LeO.ite ?_ ?_)
      | (with_reducible refine LeO.bind ?_ (fun _ => ?_))
      | exact path_Clean.mono _ _
      | exact strings_LastIndex.mono _ _ _
      | exact LeO.none _
      | refine LeO.ite ?_ ?_
      | refine LeO.bind ?_ (fun _ => ?_)
set_option maxHeartbeats 8000000 in
set_option maxRecDepth 100000 in
theorem path_Parent.calls (k : Nat) (a0 : ByteArray) (r1 : ByteArray) (r2 : ByteArray) (r3 : Bool) (w : World) (h : path_Parent.f k a0 = some (r1, r2, r3)) :
    Calls Tryd.prog 21 #[.string a0] w fun e w' => e = .returned (.tuple #[.string r1, .string r2, .bool r3]) ∧ Below w.heap.size w w' := by
  have HB := Aside0.mk (Below.refl w.heap.size w)
  have H : (if a0.toList = ([47] : List UInt8) then (some ((⟨#[]⟩ : ByteArray), (⟨#[]⟩ : ByteArray), false)) else ((path_Clean.f k a0).bind fun t146 => (if t146 = true then ((strings_LastIndex.f k a0 (⟨#[47]⟩ : ByteArray)).bind fun t147 => (if 0 ≤ (mx t147 1) then (if (mx t147 1) ≤ (a0.size : Int) then (if 0 ≤ (wrap64 (t147 + 1)) then (if (wrap64 (t147 + 1)) ≤ (a0.size : Int) then (some (a0.extract 0 ((mx t147 1) : Int).toNat, a0.extract ((wrap64 (t147 + 1)) : Int).toNat a0.size, true)) else (none)) else (none)) else (none)) else (none))) else (some ((⟨#[]⟩ : ByteArray), (⟨#[]⟩ : ByteArray), false))))) = some (r1, r2, r3) := h
  clear h
  by_cases c2 : a0.toList = ([47] : List UInt8)
  · rw [if_pos c2] at H
    have c2b0 : (a0.toList == ([47] : List UInt8)) = true := beq_iff_eq.mpr c2
    have c2b1 : (a0.toList != ([47] : List UInt8)) = false := bne_eq_false_iff_eq.mpr c2
    clear c2
    simp only [Option.some.injEq, Prod.mk.injEq] at H
    obtain ⟨rfl, rfl, rfl⟩ := H
    go_enter Tryd.func21, Tryd.ntmps21
    go_wp2
    repeat (go_quiet (fail); try go_wp2)
    go_ret3
    exact ⟨by first | rfl | (simp [errW_none, errW_some] <;> rfl) | (simp [*, errW_none, errW_some] <;> rfl), by repeat (first | (with_reducible first | exact HB.out | apply below_alloc | apply pw_below_drewN | apply below_drew1) | exact HB.out)⟩
  · rw [if_neg c2] at H
    have c2b0 : (a0.toList == ([47] : List UInt8)) = false := beq_eq_false_iff_ne.mpr c2
    have c2b1 : (a0.toList != ([47] : List UInt8)) = true := bne_iff_ne.mpr c2
    replace H := Option.bind_eq_some_iff.mp H
    obtain ⟨t146, A30, H⟩ := H
    replace H : (if t146 = true then ((strings_LastIndex.f k a0 (⟨#[47]⟩ : ByteArray)).bind fun t147 => (if 0 ≤ (mx t147 1) then (if (mx t147 1) ≤ (a0.size : Int) then (if 0 ≤ (wrap64 (t147 + 1)) then (if (wrap64 (t147 + 1)) ≤ (a0.size : Int) then (some (a0.extract 0 ((mx t147 1) : Int).toNat, a0.extract ((wrap64 (t147 + 1)) : Int).toNat a0.size, true)) else (none)) else (none)) else (none)) else (none))) else (some ((⟨#[]⟩ : ByteArray), (⟨#[]⟩ : ByteArray), false))) = some (r1, r2, r3) := H
    have A3 := Aside0.mk A30
    clear A30
    by_cases c4 : t146 = true
    · subst c4
      have H1 : ((strings_LastIndex.f k a0 (⟨#[47]⟩ : ByteArray)).bind fun t147 => (if 0 ≤ (mx t147 1) then (if (mx t147 1) ≤ (a0.size : Int) then (if 0 ≤ (wrap64 (t147 + 1)) then (if (wrap64 (t147 + 1)) ≤ (a0.size : Int) then (some (a0.extract 0 ((mx t147 1) : Int).toNat, a0.extract ((wrap64 (t147 + 1)) : Int).toNat a0.size, true)) else (none)) else (none)) else (none)) else (none))) = some (r1, r2, r3) := by rw [if_pos rfl] at H; exact H
      clear H
      have H := H1
      clear H1
      replace H := Option.bind_eq_some_iff.mp H
      obtain ⟨t147, A50, H⟩ := H
      replace H : (if 0 ≤ (mx t147 1) then (if (mx t147 1) ≤ (a0.size : Int) then (if 0 ≤ (wrap64 (t147 + 1)) then (if (wrap64 (t147 + 1)) ≤ (a0.size : Int) then (some (a0.extract 0 ((mx t147 1) : Int).toNat, a0.extract ((wrap64 (t147 + 1)) : Int).toNat a0.size, true)) else (none)) else (none)) else (none)) else (none)) = some (r1, r2, r3) := H
      have A5 := Aside0.mk A50
      clear A50
      obtain ⟨ji6, hji6⟩ : ∃ j_ : Int, (mx t147 1) = j_ := ⟨_, rfl⟩
      replace H : (if 0 ≤ (ji6) then (if (ji6) ≤ (a0.size : Int) then (if 0 ≤ (wrap64 (t147 + 1)) then (if (wrap64 (t147 + 1)) ≤ (a0.size : Int) then (some (a0.extract 0 ((ji6) : Int).toNat, a0.extract ((wrap64 (t147 + 1)) : Int).toNat a0.size, true)) else (none)) else (none)) else (none)) else (none)) = some (r1, r2, r3) := by first | (rw [hji6] at H; exact H) | (simp only [hji6] at H ⊢; exact H)
      (try rw [hji6] at A3)
      (try rw [hji6] at A5)
      (try (have hji6l : 1 ≤ ji6 := by (rw [← hji6]; unfold mx; (repeat' split) <;> omega)))
      (try (have hji6m : 0 ≤ ji6 := by omega))
      have hji6_ : (if t147 < 1 then 1 else t147) = ji6 := hji6
      by_cases c7 : 0 ≤ (ji6)
      · rw [if_pos c7] at H
        have c7b0 := eq_true c7
        have c7b1 : decide (0 ≤ (ji6)) = true := decide_eq_true c7
        clear c7
        by_cases c8 : (ji6) ≤ (a0.size : Int)
        · rw [if_pos c8] at H
          have c8b0 := eq_true c8
          have c8b1 : decide ((ji6) ≤ (a0.size : Int)) = true := decide_eq_true c8
          clear c8
          obtain ⟨ji9, hji9⟩ : ∃ j_ : Int, (wrap64 (t147 + 1)) = j_ := ⟨_, rfl⟩
          replace H : (if 0 ≤ (ji9) then (if (ji9) ≤ (a0.size : Int) then (some (a0.extract 0 ((ji6) : Int).toNat, a0.extract ((ji9) : Int).toNat a0.size, true)) else (none)) else (none)) = some (r1, r2, r3) := by first | (rw [hji9] at H; exact H) | (simp only [hji9] at H ⊢; exact H)
          (try rw [hji9] at A3)
          (try rw [hji9] at A5)
          have hji9w : (IntKind.i64.wrap (t147 + 1)) = ji9 := (i64_w _).trans hji9
          by_cases c10 : 0 ≤ (ji9)
          · rw [if_pos c10] at H
            have c10b0 := eq_true c10
            have c10b1 : decide (0 ≤ (ji9)) = true := decide_eq_true c10
            clear c10
            by_cases c11 : (ji9) ≤ (a0.size : Int)
            · rw [if_pos c11] at H
              have c11b0 := eq_true c11
              have c11b1 : decide ((ji9) ≤ (a0.size : Int)) = true := decide_eq_true c11
              clear c11
              simp only [Option.some.injEq, Prod.mk.injEq] at H
              obtain ⟨rfl, rfl, rfl⟩ := H
              go_enter Tryd.func21, Tryd.ntmps21
              go_wp2_with (first | (go_at_call 17; (with_reducible refine (path_Clean.calls k a0 true _ A3.out).mono ?_); rintro e w12 ⟨rfl, hb⟩; have n0_ := Aside0.mk (below_step (by repeat (first | (with_reducible first | exact HB.out | apply below_alloc | apply pw_below_drewN | apply below_drew1) | exact HB.out)) hb); clear HB; have HB := n0_; clear n0_; (try clear hb); (try clear hb2); (try clear hk); (try clear hi)) | (go_at_call 38; (with_reducible refine (strings_LastIndex.calls k a0 (⟨#[47]⟩ : ByteArray) t147 _ A5.out).mono ?_); rintro e w' ⟨rfl, ⟨nd, rfl⟩⟩; (try first | exact ⟨rfl, _, World.drewN_drewN _ _ _⟩ | exact ⟨rfl, _, Eq.trans (World.drewN_drewN _ _ _) (congrArg (World.drewN _) (Nat.add_assoc _ _ _))⟩)))
              repeat (go_quiet (first | (go_at_call 17; (with_reducible refine (path_Clean.calls k a0 true _ A3.out).mono ?_); rintro e w12 ⟨rfl, hb⟩; have n0_ := Aside0.mk (below_step (by repeat (first | (with_reducible first | exact HB.out | apply below_alloc | apply pw_below_drewN | apply below_drew1) | exact HB.out)) hb); clear HB; have HB := n0_; clear n0_; (try clear hb); (try clear hb2); (try clear hk); (try clear hi)) | (go_at_call 38; (with_reducible refine (strings_LastIndex.calls k a0 (⟨#[47]⟩ : ByteArray) t147 _ A5.out).mono ?_); rintro e w' ⟨rfl, ⟨nd, rfl⟩⟩; (try first | exact ⟨rfl, _, World.drewN_drewN _ _ _⟩ | exact ⟨rfl, _, Eq.trans (World.drewN_drewN _ _ _) (congrArg (World.drewN _) (Nat.add_assoc _ _ _))⟩))); try go_wp2_with (first | (go_at_call 17; (with_reducible refine (path_Clean.calls k a0 true _ A3.out).mono ?_); rintro e w12 ⟨rfl, hb⟩; have n0_ := Aside0.mk (below_step (by repeat (first | (with_reducible first | exact HB.out | apply below_alloc | apply pw_below_drewN | apply below_drew1) | exact HB.out)) hb); clear HB; have HB := n0_; clear n0_; (try clear hb); (try clear hb2); (try clear hk); (try clear hi)) | (go_at_call 38; (with_reducible refine (strings_LastIndex.calls k a0 (⟨#[47]⟩ : ByteArray) t147 _ A5.out).mono ?_); rintro e w' ⟨rfl, ⟨nd, rfl⟩⟩; (try first | exact ⟨rfl, _, World.drewN_drewN _ _ _⟩ | exact ⟨rfl, _, Eq.trans (World.drewN_drewN _ _ _) (congrArg (World.drewN _) (Nat.add_assoc _ _ _))⟩))))
              go_ret3
              exact ⟨by first | rfl | (simp [errW_none, errW_some] <;> rfl) | (simp only [← hji6, ← hji9]; first | rfl | (simp [errW_none, errW_some] <;> rfl)) | (simp [*, errW_none, errW_some] <;> rfl), by repeat (first | (with_reducible first | exact HB.out | apply below_alloc | apply pw_below_drewN | apply below_drew1) | exact HB.out)⟩
            · rw [if_neg c11] at H
              exact absurd H (by simp)
          · rw [if_neg c10] at H
            exact absurd H (by simp)
        · rw [if_neg c8] at H
          exact absurd H (by simp)
      · rw [if_neg c7] at H
        exact absurd H (by simp)
    · replace c4 := Bool.eq_false_iff.mpr c4
      subst c4
      have H1 : (some ((⟨#[]⟩ : ByteArray), (⟨#[]⟩ : ByteArray), false)) = some (r1, r2, r3) := by rw [if_neg (show ¬ (false = true) by decide)] at H; exact H
      clear H
      have H := H1
      clear H1
      simp only [Option.some.injEq, Prod.mk.injEq] at H
      obtain ⟨rfl, rfl, rfl⟩ := H
      go_enter Tryd.func21, Tryd.ntmps21
      go_wp2_with (first | (go_at_call 17; (with_reducible refine (path_Clean.calls k a0 false _ A3.out).mono ?_); rintro e w13 ⟨rfl, hb⟩; have n0_ := Aside0.mk (below_step (by repeat (first | (with_reducible first | exact HB.out | apply below_alloc | apply pw_below_drewN | apply below_drew1) | exact HB.out)) hb); clear HB; have HB := n0_; clear n0_; (try clear hb); (try clear hb2); (try clear hk); (try clear hi)))
      repeat (go_quiet (first | (go_at_call 17; (with_reducible refine (path_Clean.calls k a0 false _ A3.out).mono ?_); rintro e w13 ⟨rfl, hb⟩; have n0_ := Aside0.mk (below_step (by repeat (first | (with_reducible first | exact HB.out | apply below_alloc | apply pw_below_drewN | apply below_drew1) | exact HB.out)) hb); clear HB; have HB := n0_; clear n0_; (try clear hb); (try clear hb2); (try clear hk); (try clear hi))); try go_wp2_with (first | (go_at_call 17; (with_reducible refine (path_Clean.calls k a0 false _ A3.out).mono ?_); rintro e w13 ⟨rfl, hb⟩; have n0_ := Aside0.mk (below_step (by repeat (first | (with_reducible first | exact HB.out | apply below_alloc | apply pw_below_drewN | apply below_drew1) | exact HB.out)) hb); clear HB; have HB := n0_; clear n0_; (try clear hb); (try clear hb2); (try clear hk); (try clear hi))))
      go_ret3
      exact ⟨by first | rfl | (simp [errW_none, errW_some] <;> rfl) | (simp [*, errW_none, errW_some] <;> rfl), by repeat (first | (with_reducible first | exact HB.out | apply below_alloc | apply pw_below_drewN | apply below_drew1) | exact HB.out)⟩

end Go.Proofs.YtnjabpgbpgocnaaDoor.PAll

-- HandP0
/- A range over a function whose rounds all go on: the statement out of its iterator's run, and one round out of its body's walk. Conditions: the statement stands outside every round. -/
namespace Go.Proofs.YtnjabpgbpgocnaaDoor.PAll
open Go Go.RowKit
set_option linter.unusedVariables false

variable {F : Fence} {n : Nat} {P : Program}

/-- The record of such a loop, by its state. -/
def recOf (fn : FuncId) (tmps : Array Value) (ps : Array Tmp) (assign body : Code) (d : Nat) (st : LoopState) : Loop :=
  { state := st, pending := none, fn, tmps, params := ps, assign, body, defers := d }

theorem loop_all {g : Operand} {ps : Array Tmp} {assign body : Code} {Q : Exit → Act → World → Prop} {a : Act} {w : World}
    (hro : F.round = none) (h1 : F.depth.isSome = true → 1 ≤ n) {gf : Nat} {lb : Array Value} (hg : a.eval g = .func (.func gf) #[] lb) (hFg : F.fn gf) (eg : ∀ args w, (callFunc gf args).run P w = .ok (.enter gf args) w)
    (h : ∀ fn, F.fn fn → ∀ rec : LoopState → Loop, rec = recOf fn a.tmps ps assign body w.heap.size → CallsIn F (n - 1) P gf (#[.func (.yield (w.heap.size + 1)) #[] #[]] ++ lb)
        ((w.alloc (.deferred (some []))).alloc (.loop (rec .ready))) fun e W' => (∃ v, e = .returned v) ∧
          W'.heap[w.heap.size + 1]? = some (.loop (rec .ready)) ∧
          Q .normal { a with defers := { target := .collected w.heap.size, args := #[] } :: a.defers } (W'.putObj (w.heap.size + 1) (.loop (rec .exhausted)))) :
    (Code.rangeFunc g ps assign body).wpIn F n P Q a w := by
  refine wpIn_rangeFunc ?_
  intro fn hfn
  rw [hro]
  obtain ⟨W1, hW1⟩ : ∃ W1, (w.alloc (.deferred (some []))).alloc (.loop (recOf fn a.tmps ps assign body w.heap.size .ready)) = W1 := ⟨_, rfl⟩
  have hc := h fn hfn _ rfl
  rw [hW1] at hc
  refine ⟨w.heap.size + 1, [{ target := .collected w.heap.size, args := #[] }], W1, { target := .fn (.func gf) lb, args := #[.func (.yield (w.heap.size + 1)) #[] #[]] }, W1, gf,
    #[.func (.yield (w.heap.size + 1)) #[] #[]] ++ lb, W1, ?_, ?_, ?_, ?_, h1, ?_⟩
  · rw [← hW1]; exact run_enterLoop_outer _ _ _ _ _
  · simp only [resolve, hg]
    simp [go_sem]
  · intro f' hf'; simp [Target.leads] at hf'; subst hf'; exact hFg
  · simp [invoke, go_sem, eg]
  · refine hc.mono ?_
    rintro e W2 ⟨⟨v, rfl⟩, hl, hq⟩
    exact ⟨none, _, run_endLoop (P := P) hl (by simp [recOf]), hq⟩

/-- How the body of a round is left: it goes on, the record as it was. -/
def roundOn (l : Nat) (rec : LoopState → Loop) (R : Ending → World → Prop) : Exit → Act → World → Prop
  | .normal, _, W' => W'.heap[l]? = some (.loop (rec .busy)) ∧ R (.returned (.bool true)) (W'.putObj l (.loop (rec .ready)))
  | _, _, _ => False

theorem round_on {l : Nat} {fn : FuncId} {tmps : Array Value} {ps : Array Tmp} {assign body : Code} {d : Nat} {m : Nat} {args : Array Value} {W : World} {R : Ending → World → Prop} {rec : LoopState → Loop}
    (hrec : rec = recOf fn tmps ps assign body d) (hfn : F.fn fn) (hl : W.heap[l]? = some (.loop (rec .ready))) (hs : args.size = ps.size) (a1 : Act)
    (hassign : ∀ K : Act → World → Prop, K a1 W → assign.wpIn (F.inRound l) m P (Exit.then K (fun _ _ _ => False)) { tmps := (ps.zip args).foldl (fun t (p, v) => t.setIfInBounds p v) tmps, defers := [] } W)
    (hbody : body.wpIn (F.inRound l) m P (roundOn l rec R) a1 (W.putObj l (.loop (rec .busy)))) :
    YieldAt F m P l args W R := by
  subst hrec
  have hy := run_yield (P := P) (args := args) hl (by simpa [recOf] using hs)
  refine ⟨fn, _, assign, body, hy, roundIn_of_wpIn hfn (hassign _ ⟨_, run_beginRound hl (by simp [recOf]), ?_⟩)⟩
  refine wpIn_mono hbody ?_
  rintro e a3 W3 hp
  cases e with
  | normal =>
    obtain ⟨hl3, hr⟩ := hp
    exact ⟨_, _, run_endRound (P := P) none hl3, hr⟩
  | ret => exact hp.elim
  | exit id => exact hp.elim
  | goto t => exact hp.elim
  | panic ch => exact hp.elim
  | outgrown => exact hp.elim

end Go.Proofs.YtnjabpgbpgocnaaDoor.PAll

-- HandP1
/- The plain cutting of a list of bytes at its slashes, and strings.Index, strings.splitSeq, strings.SplitSeq (the making of the iterator). No conditions. -/
namespace Go.Proofs.YtnjabpgbpgocnaaDoor.PAll
open Go.RowKit Go.Proofs.YtnjabpgbpgocnaaDoorW.PrintWords Go.Proofs.YtnjabpgbpgocnaaDoorW.PrintLast Go.Proofs.YtnjabpgbpgocnaaDoorW.PrintMore
set_option linter.unusedVariables false
set_option linter.unusedSimpArgs false

/-- All the pieces between slashes, the empty ones too: 'cur' is what has been read of the piece that is not at its end. -/
def splitL : List UInt8 → List UInt8 → List (List UInt8)
  | cur, [] => [cur]
  | cur, b :: l => if b = 47 then cur :: splitL [] l else splitL (cur ++ [b]) l

/-- The pieces of a list of bytes that are not empty. -/
def piecesL : List UInt8 → List UInt8 → List (List UInt8)
  | cur, [] => if cur = [] then [] else [cur]
  | cur, b :: l => if b = 47 then (if cur = [] then piecesL [] l else cur :: piecesL [] l) else piecesL (cur ++ [b]) l

theorem piecesL_eq : ∀ (l cur : List UInt8), piecesL cur l = (splitL cur l).filter fun p => decide (p ≠ [])
  | [], cur => by
    by_cases h : cur = [] <;> simp [piecesL, splitL, h]
  | b :: l, cur => by
    have h1 := piecesL_eq l []
    have h2 := piecesL_eq l (cur ++ [b])
    by_cases hb : b = 47
    · by_cases h : cur = [] <;> simp [piecesL, splitL, hb, h, h1]
    · simp [piecesL, splitL, hb, h2]

theorem splitL_free : ∀ (l cur : List UInt8), (∀ b ∈ l, b ≠ 47) → splitL cur l = [cur ++ l]
  | [], cur, _ => by simp [splitL]
  | b :: l, cur, h => by
    have hb : b ≠ 47 := h b (by simp)
    rw [splitL, if_neg hb, splitL_free l _ (fun x hx => h x (by simp [hx]))]
    simp

theorem splitL_cut : ∀ (p l cur : List UInt8), (∀ b ∈ p, b ≠ 47) → splitL cur (p ++ 47 :: l) = (cur ++ p) :: splitL [] l
  | [], l, cur, _ => by simp [splitL]
  | b :: p, l, cur, h => by
    have hb : b ≠ 47 := h b (by simp)
    rw [List.cons_append, splitL, if_neg hb, splitL_cut p l _ (fun x hx => h x (by simp [hx]))]
    simp

theorem splitL_index_none {l : List UInt8} (h : Lib.indexByte l 47 = -1) : splitL [] l = [l] := by
  rw [splitL_free l [] (fun b hb e => ?_)]
  · simp
  · obtain ⟨k, hk, hkb⟩ := List.getElem_of_mem hb
    exact Lib.indexByte_none h k (by rw [List.getElem?_eq_getElem hk, hkb, e])

theorem splitL_index_some {l : List UInt8} {o : Nat} (h : Lib.indexByte l 47 = o) : splitL [] l = l.take o :: splitL [] (l.drop (o + 1)) := by
  obtain ⟨h1, h2⟩ := Lib.indexByte_some h
  have ho : o < l.length := by
    by_cases hlt : o < l.length
    · exact hlt
    · rw [List.getElem?_eq_none (by omega)] at h1; cases h1
  have hsp : l = l.take o ++ 47 :: l.drop (o + 1) := by
    have := List.take_append_drop o l
    rw [List.drop_eq_getElem_cons ho] at this
    rw [List.getElem?_eq_getElem ho] at h1
    rw [Option.some.inj h1] at this
    exact this.symm
  have hc := splitL_cut (l.take o) (l.drop (o + 1)) [] (fun b hb e => by
    obtain ⟨k, hk, hkb⟩ := List.getElem_of_mem hb
    have hko : k < o := by rw [List.length_take] at hk; omega
    refine h2 k hko ?_
    rw [List.getElem?_eq_getElem (by omega)]
    rw [List.getElem_take] at hkb
    rw [hkb, e])
  rw [← hsp] at hc
  rw [hc]
  simp

theorem splitL_sum : ∀ (l cur : List UInt8), (splitL cur l).length ≤ l.length + 1
  | [], cur => by simp [splitL]
  | b :: l, cur => by
    have h1 := splitL_sum l []
    have h2 := splitL_sum l (cur ++ [b])
    by_cases hb : b = 47 <;> simp [splitL, hb] <;> omega

def ofL (p : List UInt8) : ByteArray := ⟨p.toArray⟩
/-- All the pieces of a text, the empty ones too. -/
def splitB (s : ByteArray) : List ByteArray := (splitL [] s.data.toList).map ofL
def piecesOf (s : ByteArray) : List ByteArray := (piecesL [] s.data.toList).map fun p => ⟨p.toArray⟩

theorem ofL_data (s : ByteArray) : ofL s.data.toList = s := by cases s; simp [ofL]

theorem splitB_none {s : ByteArray} (h : Lib.indexByte s.data.toList 47 = -1) : splitB s = [s] := by
  rw [splitB, splitL_index_none h, List.map_singleton, ofL_data]

theorem splitB_some {s : ByteArray} {o : Nat} (h : Lib.indexByte s.data.toList 47 = o) : splitB s = s.extract 0 o :: splitB (s.extract (o + 1) s.size) := by
  have h1 : (s.extract 0 o).data.toList = s.data.toList.take o := by
    rw [Lib.extract_data]; simp
  have h2 : (s.extract (o + 1) s.size).data.toList = s.data.toList.drop (o + 1) := by
    rw [Lib.extract_data]
    have : s.size = s.data.toList.length := by rw [Array.length_toList]; rfl
    rw [List.take_of_length_le]
    rw [List.length_drop]; omega
  rw [splitB, splitL_index_some h, List.map_cons, splitB, h2, ← h1, ofL_data]

theorem piecesOf_eq (s : ByteArray) : piecesOf s = (splitB s).filter fun x => decide (x.toList ≠ []) := by
  rw [piecesOf, piecesL_eq, splitB, List.filter_map]
  congr 1
  refine List.filter_congr fun p hp => ?_
  rw [Function.comp, Lib.toList_data]
  rfl

theorem piecesOf_length (s : ByteArray) : (piecesOf s).length ≤ s.size + 1 := by
  rw [piecesOf_eq]
  refine Nat.le_trans (List.length_filter_le _ _) ?_
  rw [splitB, List.length_map]
  exact splitL_sum _ _

set_option maxHeartbeats 1000000 in
set_option maxRecDepth 100000 in
theorem strIndex_one (s : ByteArray) (c : UInt8) (w : World) :
    Calls Tryd.prog 63 #[.string s, .string ⟨#[c]⟩] w fun e w' => e = .returned (.int .i64 (Lib.indexByte s.data.toList c)) ∧ w' = w := by
  go_enter Tryd.func63, Tryd.ntmps63
  go_wp2_with (go_at_call 52; refine (index_one _ _ _).mono ?_; rintro e w' ⟨rfl, rfl⟩)
  go_ret
  exact ⟨rfl, rfl⟩

/-- The world behind the making of SplitSeq's iterator. -/
def splitWorld (w : World) (s t : ByteArray) : World := ((w.alloc (.cells #[.string s] 9)).alloc (.cells #[.string t] 9)).alloc (.cells #[.int .i64 0] 3)

set_option maxHeartbeats 1000000 in
set_option maxRecDepth 100000 in
theorem splitSeq_any (s t : ByteArray) (w : World) :
    Calls Tryd.prog 53 #[.string s, .string t, .int .i64 0] w fun e w' =>
      e = .returned (.func (.func 61) #[] #[.pointer (some ⟨w.heap.size + 1, 0, none⟩), .pointer (some ⟨w.heap.size, 0, none⟩), .pointer (some ⟨w.heap.size + 1 + 1, 0, none⟩)]) ∧ splitWorld w s t = w' := by
  go_enter Tryd.func53, Tryd.ntmps53
  go_wp2
  go_ret
  exact ⟨rfl, rfl⟩

set_option maxHeartbeats 1000000 in
set_option maxRecDepth 100000 in
theorem SplitSeq_any (s t : ByteArray) (w : World) :
    Calls Tryd.prog 45 #[.string s, .string t] w fun e w' =>
      e = .returned (.func (.func 61) #[] #[.pointer (some ⟨w.heap.size + 1, 0, none⟩), .pointer (some ⟨w.heap.size, 0, none⟩), .pointer (some ⟨w.heap.size + 1 + 1, 0, none⟩)]) ∧ splitWorld w s t = w' := by
  go_enter Tryd.func45, Tryd.ntmps45
  go_wp2_with (go_at_call 53; refine (splitSeq_any _ _ _).mono ?_; rintro e w' ⟨rfl, rfl⟩)
  go_ret
  exact ⟨rfl, rfl⟩

set_option maxHeartbeats 1000000 in
set_option maxRecDepth 100000 in
theorem parts_any (s : ByteArray) (w : World) :
    Calls Tryd.prog 37 #[.string s] w fun e w' =>
      e = .returned (.func (.func 44) #[] #[.pointer (some ⟨w.heap.size, 0, none⟩)]) ∧ w.alloc (.cells #[.string s] 9) = w' := by
  go_enter Tryd.func37, Tryd.ntmps37
  go_wp2
  go_ret
  exact ⟨rfl, rfl⟩

end Go.Proofs.YtnjabpgbpgocnaaDoor.PAll

-- HandP2
/- The run of strings.SplitSeq's iterator over a text cut at slashes, for every loop whose rounds go on. Conditions: the text is shorter than 2^62 bytes; the loop's invariant bears a store to the iterator's own variable. -/
namespace Go.Proofs.YtnjabpgbpgocnaaDoor.PAll
open Go Go.RowKit Go.Shelf
set_option linter.unusedVariables false
set_option linter.unusedSimpArgs false
attribute [local go_sem] Oper.semAt_some

theorem wide_depth {p : Prop} (h : Fence.wide.depth.isSome = true) : p := by cases h

/-- The three boxes of the iterator: the text that is left, the separator, what of it is saved. -/
def SplitBoxes (W : World) (b : Nat) (cur : ByteArray) : Prop :=
  Boxed W b 9 (.string cur) ∧ Boxed W (b + 1) 9 (.string ⟨#[47]⟩) ∧ Boxed W (b + 1 + 1) 3 (.int .i64 0)

theorem SplitBoxes.set {W : World} {b : Nat} {cur : ByteArray} (h : SplitBoxes W b cur) (c : ByteArray) : SplitBoxes (W.setCell ⟨b, 0, none⟩ (.string c)) b c :=
  ⟨h.1.set _, h.2.1.other (by omega) _, h.2.2.other (by omega) _⟩

def leftSize (b : Nat) (W : World) : Nat := match W.cell? ⟨b, 0, none⟩ with | some (.string c) => c.size | _ => 0
theorem leftSize_eq {W : World} {b : Nat} {cur : ByteArray} (h : SplitBoxes W b cur) : leftSize b W = cur.size := by
  unfold leftSize; rw [h.1.cell]

set_option maxRecDepth 100000 in
set_option maxHeartbeats 2000000 in
theorem split61 (n l b : Nat) (s : ByteArray) (hs : s.size < 4611686018427387904) (J : List ByteArray → World → Prop)
    (hY : ∀ pre x rest cur W1, splitB s = pre ++ x :: rest → J pre W1 → SplitBoxes W1 b cur → YieldAt Fence.wide (n - 1) Tryd.prog l #[.string x] W1 fun e W' =>
      e = .returned (.bool true) ∧ J (pre ++ [x]) W' ∧ SplitBoxes W' b cur)
    (hS : ∀ pre W1 cur c, J pre W1 → SplitBoxes W1 b cur → J pre (W1.setCell ⟨b, 0, none⟩ (.string c)))
    (W : World) (hW : SplitBoxes W b s) (h0 : J [] W) :
    CallsIn Fence.wide n Tryd.prog 61 #[.func (.yield l) #[] #[], .pointer (some ⟨b + 1, 0, none⟩), .pointer (some ⟨b, 0, none⟩), .pointer (some ⟨b + 1 + 1, 0, none⟩)] W fun e W' =>
      (∃ v, e = .returned v) ∧ J (splitB s) W' := by
  refine callsIn_of_wp Tryd.func61 rfl trivial ?_ rfl
  simp only [Tryd.ntmps61, List.size_toArray, List.length_cons, List.length_nil, Nat.reduceAdd, Nat.reduceSub, Array.replicate_succ, Array.replicate_zero, List.push_toArray, List.append_toArray, List.nil_append, List.cons_append]
  have c1 := hW.2.1.cell
  gi_wp2
  clear c1
  gi_loopw [7] (fun _ wr => ∃ pre cur, splitB s = pre ++ splitB cur ∧ J pre wr ∧ SplitBoxes wr b cur ∧ cur.size ≤ s.size) (fun _ wr => leftSize b wr)
  case atStart => exact ⟨[], s, rfl, h0, hW, Nat.le_refl _⟩
  case round =>
    obtain ⟨pre, cur, hcut, hJ, hB, hle⟩ := hrel
    have d1 := hB.1.cell
    have d2 := hB.2.1.cell
    have d3 := hB.2.2.cell
    have f1 := hB.1.frozen
    have hge := Lib.indexByte_ge cur.data.toList 47
    by_cases hi : Lib.indexByte cur.data.toList 47 = -1
    · have hx : Calls Tryd.prog 63 #[.string cur, .string ⟨#[47]⟩] wr fun e w' => e = .returned (.int .i64 (-1)) ∧ wr = w' := by
        refine (strIndex_one cur 47 wr).mono ?_
        rintro e w' ⟨rfl, rfl⟩
        exact ⟨by rw [hi], rfl⟩
      obtain ⟨fn, tmps, assign, body, hy, hR⟩ := hY pre cur [] cur wr (by rw [hcut, splitB_none hi]) hJ hB
      have hc : splitB s = pre ++ [cur] := by rw [hcut, splitB_none hi]
      have HC := Lib.hid hc
      clear hc
      clear hcut hi hge
      gi_wp2_with (refine ⟨trivial, wide_depth, ?_⟩; gi_at_call 63; refine (callsIn_wide.2 hx).mono ?_; rintro e w' ⟨rfl, rfl⟩)
      refine ⟨wide_depth, hR.mono ?_⟩
      rintro e W3 ⟨rfl, hJ3, hB3⟩
      gi_wp2
      go_end0
      exact ⟨⟨_, rfl⟩, by rw [HC.out]; exact hJ3⟩
    · obtain ⟨o, ho⟩ : ∃ o : Nat, Lib.indexByte cur.data.toList 47 = o := ⟨(Lib.indexByte cur.data.toList 47).toNat, by omega⟩
      have hlt : o < cur.size := by
        have h1 := (Lib.indexByte_some ho).1
        by_cases h : o < cur.data.toList.length
        · rw [Array.length_toList] at h; exact h
        · rw [List.getElem?_eq_none (by omega)] at h1; cases h1
      have hx : Calls Tryd.prog 63 #[.string cur, .string ⟨#[47]⟩] wr fun e w' => e = .returned (.int .i64 o) ∧ wr = w' := by
        refine (strIndex_one cur 47 wr).mono ?_
        rintro e w' ⟨rfl, rfl⟩
        exact ⟨by rw [ho], rfl⟩
      obtain ⟨fn, tmps, assign, body, hy, hR⟩ := hY pre (cur.extract 0 o) (splitB (cur.extract (o + 1) cur.size)) cur wr (by rw [hcut, splitB_some ho]) hJ hB
      have hc : splitB s = (pre ++ [cur.extract 0 o]) ++ splitB (cur.extract (o + 1) cur.size) := by
        rw [hcut, splitB_some ho, List.append_assoc, List.singleton_append]
      have HC := Lib.hid hc
      clear hc
      clear hcut hi hge ho
      gi_wp2_with (refine ⟨trivial, wide_depth, ?_⟩; gi_at_call 63; refine (callsIn_wide.2 hx).mono ?_; rintro e w' ⟨rfl, rfl⟩)
      refine ⟨wide_depth, hR.mono ?_⟩
      clear hR hy hx d1 d2 d3 f1
      rintro e W3 ⟨rfl, hJ3, hB3⟩
      have d1 := hB3.1.cell
      have d2 := hB3.2.1.cell
      have f1 := hB3.1.frozen
      gi_wp2
      go_roundw
      case rel => exact ⟨pre ++ [cur.extract 0 o], cur.extract (o + 1) cur.size, HC.out, hS _ _ _ _ hJ3 hB3, hB3.set _, by simp; omega⟩
      case measure => rw [leftSize_eq (hB3.set _), leftSize_eq hB]; simp; omega

end Go.Proofs.YtnjabpgbpgocnaaDoor.PAll

-- HandP3
/- The run of path.parts' iterator, for every loop whose rounds go on. Conditions: the text is shorter than 2^62 bytes; the loop's invariant bears changes in the six blocks that the iterator lays first, and a round keeps these. -/
namespace Go.Proofs.YtnjabpgbpgocnaaDoor.PAll
open Go Go.RowKit Go.Shelf
set_option linter.unusedVariables false
set_option linter.unusedSimpArgs false
attribute [local go_sem] Oper.semAt_some

theorem yieldAt_any {m m' : Nat} {P : Program} {l : Nat} {args : Array Value} {W : World} {R : Ending → World → Prop} (h : YieldAt Fence.wide m P l args W R) : YieldAt Fence.wide m' P l args W R := by
  obtain ⟨fn, tmps, assign, body, hy, hF, hR⟩ := h
  exact ⟨fn, tmps, assign, body, hy, hF, fun c cs _ => hR c cs (room_wide _)⟩

def nonNil (x : ByteArray) : Bool := decide (x.toList ≠ [])

theorem boxed_putObj {W : World} {B l : Nat} {t : TypeId} {v : Value} (h : Boxed W B t v) (o : Obj) (hne : B ≠ l) : Boxed (W.putObj l o) B t v :=
  h.kept (grownBy_putObj' W l o) (fun e => hne (by cases e; rfl))

/-- What the inner loop of parts keeps between its rounds; N: the size of the heap when parts' iterator began. -/
def PartsI (J : List ByteArray → World → Prop) (N l0 : Nat) (rec : LoopState → Loop) (st : LoopState) (pre : List ByteArray) (W : World) : Prop :=
  J (pre.filter nonNil) W ∧ W.heap[N + 5]? = some (.loop (rec st)) ∧ W.heap[N + 4]? = some (.deferred (some [])) ∧
    Boxed W N 31 (.func (.yield l0) #[] #[]) ∧ N + 6 ≤ W.heap.size

set_option maxRecDepth 100000 in
set_option maxHeartbeats 2000000 in
theorem parts44 (n l0 b0 : Nat) (s : ByteArray) (hs : s.size < 4611686018427387904) (J : List ByteArray → World → Prop) (W : World) (hb0 : Boxed W b0 9 (.string s))
    (hY : ∀ pre x rest W1, piecesOf s = pre ++ x :: rest → W.heap.size + 6 ≤ W1.heap.size → J pre W1 → YieldAt Fence.wide 0 Tryd.prog l0 #[.string x] W1 fun e W' =>
      e = .returned (.bool true) ∧ J (pre ++ [x]) W' ∧ W1.heap.size ≤ W'.heap.size ∧ ∀ k, W.heap.size ≤ k → k < W.heap.size + 6 → W'.heap[k]? = W1.heap[k]?)
    (hJ : ∀ pre A B row, J pre A → A.grownBy B row → (∀ r, row = some r → W.heap.size ≤ r ∧ r < W.heap.size + 6) → J pre B)
    (h0 : J [] W) :
    CallsIn Fence.wide n Tryd.prog 44 #[.func (.yield l0) #[] #[], .pointer (some ⟨b0, 0, none⟩)] W fun e W' =>
      (∃ v, e = .returned v) ∧ J (piecesOf s) W' := by
  refine callsIn_of_wp_marks Tryd.func44 rfl trivial ?_ rfl
  simp only [Tryd.ntmps44, List.size_toArray, List.length_cons, List.length_nil, Nat.reduceAdd, Nat.reduceSub, Array.replicate_succ, Array.replicate_zero, List.push_toArray, List.append_toArray, List.nil_append, List.cons_append]
  have c0 := (hb0.alloc (.cells #[.func (.yield l0) #[] #[]] 31)).cell
  gi_wp2_with (refine ⟨trivial, wide_depth, ?_⟩; gi_at_call 45; refine (callsIn_wide.2 (SplitSeq_any s ⟨#[47]⟩ _)).mono ?_; rintro e w' ⟨rfl, rfl⟩)
  obtain ⟨W0, hW0⟩ : ∃ W0, splitWorld (W.alloc (.cells #[.func (.yield l0) #[] #[]] 31)) s ⟨#[47]⟩ = W0 := ⟨_, rfl⟩
  have hz : W0.heap.size = W.heap.size + 4 := by rw [← hW0]; simp [splitWorld]
  have hJ0 : J [] W0 := by
    rw [← hW0]
    refine hJ _ _ _ none (hJ _ _ _ none (hJ _ _ _ none (hJ _ _ _ none h0 (World.grownBy_alloc _ _ none) ?_) (World.grownBy_alloc _ _ none) ?_) (World.grownBy_alloc _ _ none) ?_) (World.grownBy_alloc _ _ none) ?_ <;> (intro r e; cases e)
  have hby : Boxed W0 W.heap.size 31 (.func (.yield l0) #[] #[]) := by
    rw [← hW0]
    exact (((Boxed.new W 31 _).alloc _).alloc _).alloc _
  have hbx : SplitBoxes W0 (W.heap.size + 1) s := by
    rw [← hW0]
    have b1 := Boxed.new (W.alloc (.cells #[.func (.yield l0) #[] #[]] 31)) 9 (.string s)
    have b2 := Boxed.new ((W.alloc (.cells #[.func (.yield l0) #[] #[]] 31)).alloc (.cells #[.string s] 9)) 9 (.string ⟨#[47]⟩)
    have b3 := Boxed.new (((W.alloc (.cells #[.func (.yield l0) #[] #[]] 31)).alloc (.cells #[.string s] 9)).alloc (.cells #[.string ⟨#[47]⟩] 9)) 3 (.int .i64 0)
    simp only [World.size_alloc] at b1 b2 b3
    exact ⟨(b1.alloc _).alloc _, b2.alloc _, b3⟩
  rw [hW0]
  clear hW0 c0
  refine loop_all rfl wide_depth (gf := 61) (lb := #[.pointer (some ⟨W.heap.size + 1 + 1, 0, none⟩), .pointer (some ⟨W.heap.size + 1, 0, none⟩), .pointer (some ⟨W.heap.size + 1 + 1 + 1, 0, none⟩)]) rfl trivial (enters_of Tryd.func61 (by kernel_rfl) rfl) ?_
  intro fn hfn rec hrec
  have HR := Lib.hid hrec
  clear hrec
  have hK4 : ((W0.alloc (.deferred (some []))).alloc (.loop (rec .ready))).heap[W.heap.size + 4]? = some (.deferred (some [])) := by
    rw [← hz]; exact (Below.heap_alloc _ _ _ (by simp)).trans (World.alloc_heap_new W0 _)
  have hL5 : ((W0.alloc (.deferred (some []))).alloc (.loop (rec .ready))).heap[W.heap.size + 5]? = some (.loop (rec .ready)) := by
    have := World.alloc_heap_new (W0.alloc (.deferred (some []))) (.loop (rec .ready))
    rwa [World.size_alloc, hz] at this
  rw [show W0.heap.size + 1 = W.heap.size + 5 by omega]
  refine (split61 _ (W.heap.size + 5) (W.heap.size + 1) s hs (PartsI J W.heap.size l0 rec .ready) ?_ ?_ _ ⟨(hbx.1.alloc _).alloc _, (hbx.2.1.alloc _).alloc _, (hbx.2.2.alloc _).alloc _⟩ ?_).mono ?_
  · -- one round
    rintro pre x rest cur W1 hcut ⟨hj, hl, hk, hy, hsz⟩ hb
    refine round_on HR.out hfn hl rfl { tmps := #[.func (.yield l0) #[] #[], .pointer (some ⟨b0, 0, none⟩), .pointer (some ⟨W.heap.size, 0, none⟩), .string x, .string s, .func (.func 61) #[] #[.pointer (some ⟨W.heap.size + 1 + 1, 0, none⟩), .pointer (some ⟨W.heap.size + 1, 0, none⟩), .pointer (some ⟨W.heap.size + 1 + 1 + 1, 0, none⟩)], .string x, undef, undef, undef, undef, undef, undef, undef, undef], defers := [] } ?_ ?_
    · intro K hK
      gi_wp2
      exact hK
    · obtain ⟨W2, hW2⟩ : ∃ W2, W1.putObj (W.heap.size + 5) (.loop (rec .busy)) = W2 := ⟨_, rfl⟩
      have hj2 : J (pre.filter nonNil) W2 := by rw [← hW2]; exact hJ _ _ _ _ hj (grownBy_putObj' W1 _ _) (by rintro r e; cases e; omega)
      have hl2 : W2.heap[W.heap.size + 5]? = some (.loop (rec .busy)) := by rw [← hW2]; exact World.putObj_heap_same (by omega)
      have hk2 : W2.heap[W.heap.size + 4]? = some (.deferred (some [])) := by rw [← hW2]; exact (World.putObj_heap_other (by omega)).trans hk
      have hy2 : Boxed W2 W.heap.size 31 (.func (.yield l0) #[] #[]) := by rw [← hW2]; exact boxed_putObj hy _ (by omega)
      have hb2 : SplitBoxes W2 (W.heap.size + 1) cur := by
        rw [← hW2]; exact ⟨boxed_putObj hb.1 _ (by omega), boxed_putObj hb.2.1 _ (by omega), boxed_putObj hb.2.2 _ (by omega)⟩
      have hz2 : W.heap.size + 6 ≤ W2.heap.size := by rw [← hW2]; simpa using hsz
      rw [hW2]
      clear hW2 hj hl hk hy hb hsz
      have c2 := hy2.cell
      by_cases hx : x.toList = []
      · have hn : nonNil x = false := by simp [nonNil, hx]
        have HF : Hid ((pre ++ [x]).filter nonNil = pre.filter nonNil) := by simp [hn]; trivial
        clear hn
        gi_wp2
        refine ⟨fun _ h => (by cases h), ?_⟩
        gi_wp2
        refine ⟨hl2, rfl, ⟨?_, World.putObj_heap_same (by omega), (World.putObj_heap_other (by omega)).trans hk2, boxed_putObj hy2 _ (by omega), by simpa using hz2⟩, boxed_putObj hb2.1 _ (by omega), boxed_putObj hb2.2.1 _ (by omega), boxed_putObj hb2.2.2 _ (by omega)⟩
        rw [HF.out]
        exact hJ _ _ _ _ hj2 (grownBy_putObj' W2 _ _) (by rintro r e; cases e; omega)
      · have hn : nonNil x = true := by simp [nonNil, hx]
        have hp : piecesOf s = pre.filter nonNil ++ x :: rest.filter nonNil := by
          rw [piecesOf_eq, hcut, List.filter_append]
          congr 1
          exact List.filter_cons_of_pos hn
        obtain ⟨fn', tmps', assign', body', hyy, hR⟩ := yieldAt_any (m' := n - 1 - 1 - 1) (hY _ _ _ _ hp hz2 hj2)
        have hF0 : (pre ++ [x]).filter nonNil = pre.filter nonNil ++ [x] := by simp [hn]
        have HF := Lib.hid hF0
        clear hn hp hF0 hcut
        gi_wp2
        refine ⟨wide_depth, RoundIn.mono hR ?_⟩
        clear hR hyy
        rintro e W3 ⟨rfl, hj3, hz3, hf3⟩
        have hl3 := (hf3 (W.heap.size + 5) (by omega) (by omega)).trans hl2
        have hk3 := (hf3 (W.heap.size + 4) (by omega) (by omega)).trans hk2
        have hy3 : Boxed W3 W.heap.size 31 (.func (.yield l0) #[] #[]) := (hf3 _ (by omega) (by omega)).trans hy2
        have hb31 : Boxed W3 (W.heap.size + 1) 9 (.string cur) := (hf3 _ (by omega) (by omega)).trans hb2.1
        have hb32 : Boxed W3 (W.heap.size + 1 + 1) 9 (.string ⟨#[47]⟩) := (hf3 _ (by omega) (by omega)).trans hb2.2.1
        have hb33 : Boxed W3 (W.heap.size + 1 + 1 + 1) 3 (.int .i64 0) := (hf3 _ (by omega) (by omega)).trans hb2.2.2
        clear hf3 hl2 hk2 hy2 hb2 c2
        gi_wp2
        refine ⟨hl3, rfl, ⟨?_, World.putObj_heap_same (by omega), (World.putObj_heap_other (by omega)).trans hk3, boxed_putObj hy3 _ (by omega), by simp; omega⟩, boxed_putObj hb31 _ (by omega), boxed_putObj hb32 _ (by omega), boxed_putObj hb33 _ (by omega)⟩
        rw [HF.out]
        exact hJ _ _ _ _ hj3 (grownBy_putObj' W3 _ _) (by rintro r e; cases e; omega)
  · -- the store to the iterator's own variable
    rintro pre W1 cur c ⟨hj, hl, hk, hy, hsz⟩ hb
    refine ⟨hJ _ _ _ _ hj (grownBy_setCell' W1 _ _) (by rintro r e; cases e; omega), ?_, ?_, hy.other (by omega) _, ?_⟩
    · exact (Below.heap_setCell W1 _ _ _ (by show W.heap.size + 5 ≠ W.heap.size + 1; omega)).trans hl
    · exact (Below.heap_setCell W1 _ _ _ (by show W.heap.size + 4 ≠ W.heap.size + 1; omega)).trans hk
    · exact Nat.le_trans hsz (KeepsOthers.setCell W1 _ _).size
  · -- at the start
    refine ⟨?_, hL5, hK4, (hby.alloc _).alloc _, by simp; omega⟩
    exact hJ _ _ _ none (hJ _ _ _ none hJ0 (World.grownBy_alloc _ _ none) (by intro r e; cases e)) (World.grownBy_alloc _ _ none) (by intro r e; cases e)
  · -- behind the loop
    rintro e W2 ⟨hv, hj, hl, hk, hy, hsz⟩
    refine ⟨hv, hl, ?_⟩
    have hk' : (W2.putObj (W.heap.size + 5) (.loop (rec .exhausted))).heap[W.heap.size + 4]? = some (.deferred (some [])) := (World.putObj_heap_other (by omega)).trans hk
    gi_wp2
    refine ⟨by simp, .inl ⟨_, _, rfl, run_takeDeferred hk', ?_⟩⟩
    refine ⟨_, results_none rfl _ _ _, ⟨_, rfl⟩, ?_⟩
    have hpe : piecesOf s = (splitB s).filter nonNil := piecesOf_eq s
    rw [hpe]
    exact hJ _ _ _ _ (hJ _ _ _ _ hj (grownBy_putObj' W2 _ _) (by rintro r e; cases e; omega)) (grownBy_putObj' _ _ _) (by rintro r e; cases e; omega)

end Go.Proofs.YtnjabpgbpgocnaaDoor.PAll
