-- Written by a program of this place's prover (wip/turn_print.py): not by hand.
import Derived.Test.YtlojfepfnmoclaaPAllx0
import Derived.Test.YtlojfepfnmoclaaPAllx1
import Derived.Test.YtlojfepfnmoclaaPAllx2
import Derived.Test.YtlojfepfnmoclaaPAllx3
import Derived.Test.YtlojfepfnmoclaaPAllx7
import Derived.Test.YtlojfepfnmoclaaPAllx8
import Derived.Test.YtlojfepfnmoclaaPAllx9
import Derived.Test.YtlojfepfnmoclaaPAllx10
import Derived.Test.YtlojfepfnmoclaaPAllx11
import Derived.Test.YtlojfepfnmoclaaPAllx12
import Derived.Test.YtlojfepfnmoclaaPAllx14
namespace Go.Proofs.Ytlojfepfnmoclaa.PAll
open Go.RowKit Go.Proofs.YtlojfepfnmoclaaW.PrintWords Go.Proofs.YtlojfepfnmoclaaW.PrintLast Go.Proofs.YtlojfepfnmoclaaW.PrintMore
attribute [local go_sem] max2_int min2_int max_two min_two max_three min_three max_four min_four   -- for this text's walks alone
set_option linter.unusedVariables false
set_option linter.unusedSimpArgs false

/-! ### looks: function 3 -/
mutual
def looks.l0 : Nat → Int → Int → List (S24) → Int → Int → Int → Int → Int → Int → Int → Int → List Int → Int → Int → Int → Int → Int → Int → Int → Option (Bool)
  | 0, _, _, _, _, _, _, _, _, _, _, _, _, _, _, _, _, _, _, _ => none
  | k + 1, x2, x3, x26, x27, x28, x186000, x186001, x186002, x186003, x186004, x186005, x189000, x189001, x204000, x204001, x204002, x204003, x204004, x204005 => if x28 < x27 then (if 0 ≤ x28 then (if x28 < (x26.length : Int) then ((kauditmill_Case_Int.f x189000 x189001 3).bind fun bt209 => ((kauditmill_Case_Pick.f x189000 bt209.2 (([0, 149, 150, 299, 300, 450, 899, 900, 2000] : List Int))).bind fun bt214 => ((kauditmill_Case_Int.f x189000 bt214.2 256).bind fun bt216 => ((kauditmill_Case_Int.f x189000 bt216.2 4).bind fun bt218 => ((some (([(⟨x2, x3⟩ : S38), (⟨bt209.1, bt214.1⟩ : S38), (⟨x2, bt216.1⟩ : S38), (⟨wrap64 (bt218.1 - 1), x3⟩ : S38)] : List (S38)) : List (S38))).bind fun y220 => (looks.l1 k x2 x3 x26 x27 x28 y220 (y220.length : Int) 0 x186000 x186001 x186002 x186003 x186004 x186005 x189000 bt218.2 x204000 x204001 x204002 x204003 x204004 x204005 ((rd_T24 x26 x28).f0) ((rd_T24 x26 x28).f1) ((rd_T24 x26 x28).f2) ((rd_T24 x26 x28).f3) ((rd_T24 x26 x28).f4) ((rd_T24 x26 x28).f5))))))) else (none)) else (none)) else ((space_Valid.f x186000 x186001 x186002 x186003 x186004 x186005).bind fun t231 => ((kauditref26_SpaceValid.f k x186000 x186001 x186002 x186003 x186004 x186005).bind fun t232 => (if (t231 == t232) = true then ((space_Valid.f x204000 x204001 x204002 x204003 x204004 x204005).bind fun t233 => (if t233 = true then ((kauditlaw27_begun.f k).bind fun t234 => (some t234)) else (some false))) else (some false))))
def looks.l1 : Nat → Int → Int → List (S24) → Int → Int → List (S38) → Int → Int → Int → Int → Int → Int → Int → Int → List Int → Int → Int → Int → Int → Int → Int → Int → Int → Int → Int → Int → Int → Int → Option (Bool)
  | 0, _, _, _, _, _, _, _, _, _, _, _, _, _, _, _, _, _, _, _, _, _, _, _, _, _, _, _, _ => none
  | k + 1, x2, x3, x26, x27, x28, x50, x51, x52, x186000, x186001, x186002, x186003, x186004, x186005, x189000, x189001, x204000, x204001, x204002, x204003, x204004, x204005, x209000, x209001, x209002, x209003, x209004, x209005 => if x52 < x51 then (if 0 ≤ x52 then (if x52 < (x50.length : Int) then ((space_Look.f k x209000 x209001 x209002 x209003 x209004 x209005 ((rd_T38 x50 x52).f0) ((rd_T38 x50 x52).f1)).bind fun bt225 => ((kauditref26_Look.f k x209000 x209001 x209002 x209003 x209004 x209005 ((rd_T38 x50 x52).f0) ((rd_T38 x50 x52).f1)).bind fun bt227 => (if bt225.1 = bt227.1 then (if bt225.2 = bt227.2 then ((space_Level.f x209000 x209001 x209002 x209003 x209004 x209005 ((rd_T38 x50 x52).f1)).bind fun t229 => ((kauditref26_Level.f k x209000 x209001 x209002 x209003 x209004 x209005 ((rd_T38 x50 x52).f1)).bind fun t230 => (if t229 = t230 then (looks.l1 k x2 x3 x26 x27 x28 x50 x51 (wrap64 (x52 + 1)) x186000 x186001 x186002 x186003 x186004 x186005 x189000 x189001 x204000 x204001 x204002 x204003 x204004 x204005 x209000 x209001 x209002 x209003 x209004 x209005) else (some false)))) else (some false)) else (some false)))) else (none)) else (none)) else (looks.l0 k x2 x3 x26 x27 (wrap64 (x28 + 1)) x186000 x186001 x186002 x186003 x186004 x186005 x189000 x189001 x204000 x204001 x204002 x204003 x204004 x204005)
end
def looks.f (k : Nat) (l0 : List Int) (a1_0 : Int) (a1_1 : Int) (a1_2 : Int) (a1_3 : Int) (a1_4 : Int) (a1_5 : Int) (a2 : Int) (a3 : Int) : Option (Bool) := (kauditmill_New.f l0 40).bind fun bt186 => ((kauditmill_Case_Config.f k bt186.1 bt186.2).bind fun bt189 => ((some (([(⟨a1_0, a1_1, a1_2, a1_3, a1_4, a1_5⟩ : S24), (⟨bt189.2.2.2.2.2.1, bt189.2.2.2.2.2.2.1, bt189.2.2.2.2.2.2.2.1, bt189.2.2.2.2.2.2.2.2.1, bt189.2.2.2.2.2.2.2.2.2.1, bt189.2.2.2.2.2.2.2.2.2.2.1⟩ : S24)] : List (S24)) : List (S24))).bind fun y204 => (looks.l0 k a2 a3 y204 (y204.length : Int) 0 a1_0 a1_1 a1_2 a1_3 a1_4 a1_5 bt186.1 bt189.2.2.2.2.2.2.2.2.2.2.2.2.2 bt189.2.2.2.2.2.1 bt189.2.2.2.2.2.2.1 bt189.2.2.2.2.2.2.2.1 bt189.2.2.2.2.2.2.2.2.1 bt189.2.2.2.2.2.2.2.2.2.1 bt189.2.2.2.2.2.2.2.2.2.2.1)))
theorem looks.mono_l : ∀ k, (∀ y0 y1 y2 y3 y4 y5 y6 y7 y8 y9 y10 y11 y12 y13 y14 y15 y16 y17 y18, LeO (looks.l0 k y0 y1 y2 y3 y4 y5 y6 y7 y8 y9 y10 y11 y12 y13 y14 y15 y16 y17 y18) (looks.l0 (k + 1) y0 y1 y2 y3 y4 y5 y6 y7 y8 y9 y10 y11 y12 y13 y14 y15 y16 y17 y18)) ∧ (∀ y0 y1 y2 y3 y4 y5 y6 y7 y8 y9 y10 y11 y12 y13 y14 y15 y16 y17 y18 y19 y20 y21 y22 y23 y24 y25 y26 y27, LeO (looks.l1 k y0 y1 y2 y3 y4 y5 y6 y7 y8 y9 y10 y11 y12 y13 y14 y15 y16 y17 y18 y19 y20 y21 y22 y23 y24 y25 y26 y27) (looks.l1 (k + 1) y0 y1 y2 y3 y4 y5 y6 y7 y8 y9 y10 y11 y12 y13 y14 y15 y16 y17 y18 y19 y20 y21 y22 y23 y24 y25 y26 y27))
  | 0 => ⟨fun _ _ _ _ _ _ _ _ _ _ _ _ _ _ _ _ _ _ _ r h => by simp [looks.l0] at h, fun _ _ _ _ _ _ _ _ _ _ _ _ _ _ _ _ _ _ _ _ _ _ _ _ _ _ _ _ r h => by simp [looks.l1] at h⟩
  | k + 1 => by
    obtain ⟨ih0, ih1⟩ := looks.mono_l k
    refine ⟨?_, ?_⟩
    · intro y0 y1 y2 y3 y4 y5 y6 y7 y8 y9 y10 y11 y12 y13 y14 y15 y16 y17 y18
      unfold looks.l0
      repeat' first
      | (with_reducible exact ih0 _ _ _ _ _ _ _ _ _ _ _ _ _ _ _ _ _ _ _)
      | (with_reducible exact ih1 _ _ _ _ _ _ _ _ _ _ _ _ _ _ _ _ _ _ _ _ _ _ _ _ _ _ _ _)
      | (with_reducible exact kauditlaw27_begun.mono _)
      | (with_reducible exact kauditmill_Case_Config.mono _ _ _)
      | (with_reducible exact kauditref26_Level.mono _ _ _ _ _ _ _ _)
      | (with_reducible exact kauditref26_Look.mono _ _ _ _ _ _ _ _ _)
      | (with_reducible exact kauditref26_SpaceValid.mono _ _ _ _ _ _ _)
      | (with_reducible exact space_Look.mono _ _ _ _ _ _ _ _ _)
      | (with_reducible exact LeO.refl _)
      | (with_reducible exact LeO.none _)
      | (with_reducible refine LeO.ite ?_ ?_)
      | (with_reducible refine LeO.bind ?_ (fun _ => ?_))
      | exact ih0 _ _ _ _ _ _ _ _ _ _ _ _ _ _ _ _ _ _ _
      | exact ih1 _ _ _ _ _ _ _ _ _ _ _ _ _ _ _ _ _ _ _ _ _ _ _ _ _ _ _ _
      | exact kauditlaw27_begun.mono _
      | exact kauditmill_Case_Config.mono _ _ _
      | exact kauditref26_Level.mono _ _ _ _ _ _ _ _
      | exact kauditref26_Look.mono _ _ _ _ _ _ _ _ _
      | exact kauditref26_SpaceValid.mono _ _ _ _ _ _ _
      | exact space_Look.mono _ _ _ _ _ _ _ _ _
      | exact LeO.none _
      | refine LeO.ite ?_ ?_
      | refine LeO.bind ?_ (fun _ => ?_)
    · intro y0 y1 y2 y3 y4 y5 y6 y7 y8 y9 y10 y11 y12 y13 y14 y15 y16 y17 y18 y19 y20 y21 y22 y23 y24 y25 y26 y27
      unfold looks.l1
      repeat' first
      | (with_reducible exact ih0 _ _ _ _ _ _ _ _ _ _ _ _ _ _ _ _ _ _ _)
      | (with_reducible exact ih1 _ _ _ _ _ _ _ _ _ _ _ _ _ _ _ _ _ _ _ _ _ _ _ _ _ _ _ _)
      | (with_reducible exact kauditlaw27_begun.mono _)
      | (with_reducible exact kauditmill_Case_Config.mono _ _ _)
      | (with_reducible exact kauditref26_Level.mono _ _ _ _ _ _ _ _)
      | (with_reducible exact kauditref26_Look.mono _ _ _ _ _ _ _ _ _)
      | (with_reducible exact kauditref26_SpaceValid.mono _ _ _ _ _ _ _)
      | (with_reducible exact space_Look.mono _ _ _ _ _ _ _ _ _)
      | (with_reducible exact LeO.refl _)
      | (with_reducible exact LeO.none _)
      | (with_reducible refine LeO.ite ?_ ?_)
      | (with_reducible refine LeO.bind ?_ (fun _ => ?_))
      | exact ih0 _ _ _ _ _ _ _ _ _ _ _ _ _ _ _ _ _ _ _
      | exact ih1 _ _ _ _ _ _ _ _ _ _ _ _ _ _ _ _ _ _ _ _ _ _ _ _ _ _ _ _
      | exact kauditlaw27_begun.mono _
      | exact kauditmill_Case_Config.mono _ _ _
      | exact kauditref26_Level.mono _ _ _ _ _ _ _ _
      | exact kauditref26_Look.mono _ _ _ _ _ _ _ _ _
      | exact kauditref26_SpaceValid.mono _ _ _ _ _ _ _
      | exact space_Look.mono _ _ _ _ _ _ _ _ _
      | exact LeO.none _
      | refine LeO.ite ?_ ?_
      | refine LeO.bind ?_ (fun _ => ?_)
theorem looks.mono : ∀ a0 a1 a2 a3 a4 a5 a6 a7 a8 k, LeO (looks.f k a0 a1 a2 a3 a4 a5 a6 a7 a8) (looks.f (k + 1) a0 a1 a2 a3 a4 a5 a6 a7 a8) := by
  intro a0 a1 a2 a3 a4 a5 a6 a7 a8 k
  obtain ⟨ih0, ih1⟩ := looks.mono_l k
  unfold looks.f
  repeat' first
      | (with_reducible exact ih0 _ _ _ _ _ _ _ _ _ _ _ _ _ _ _ _ _ _ _)
      | (with_reducible exact ih1 _ _ _ _ _ _ _ _ _ _ _ _ _ _ _ _ _ _ _ _ _ _ _ _ _ _ _ _)
      | (with_reducible exact kauditlaw27_begun.mono _)
      | (with_reducible exact kauditmill_Case_Config.mono _ _ _)
      | (with_reducible exact kauditref26_Level.mono _ _ _ _ _ _ _ _)
      | (with_reducible exact kauditref26_Look.mono _ _ _ _ _ _ _ _ _)
      | (with_reducible exact kauditref26_SpaceValid.mono _ _ _ _ _ _ _)
      | (with_reducible exact space_Look.mono _ _ _ _ _ _ _ _ _)
      | (with_reducible exact LeO.refl _)
      | (with_reducible exact LeO.none _)
      | (with_reducible refine LeO.ite ?_ ?_)
      | (with_reducible refine LeO.bind ?_ (fun _ => ?_))
      | exact ih0 _ _ _ _ _ _ _ _ _ _ _ _ _ _ _ _ _ _ _
      | exact ih1 _ _ _ _ _ _ _ _ _ _ _ _ _ _ _ _ _ _ _ _ _ _ _ _ _ _ _ _
      | exact kauditlaw27_begun.mono _
      | exact kauditmill_Case_Config.mono _ _ _
      | exact kauditref26_Level.mono _ _ _ _ _ _ _ _
      | exact kauditref26_Look.mono _ _ _ _ _ _ _ _ _
      | exact kauditref26_SpaceValid.mono _ _ _ _ _ _ _
      | exact space_Look.mono _ _ _ _ _ _ _ _ _
      | exact LeO.none _
      | refine LeO.ite ?_ ?_
      | refine LeO.bind ?_ (fun _ => ?_)
def looks.T11 : Bool × List (List Nat × List Nat) := (true, [([], []), ([], []), ([0, 1], [0, 1]), ([2], [2]), ([3], [3]), ([3], [3]), ([4, 5, 3], [3, 4, 5]), ([3, 6], [3, 6]), ([7, 3], [7]), ([8], [8]), ([8], [8]), ([10, 8], [8, 10]), ([9, 11, 8, 8], [8, 9, 11]), ([8], [8]), ([8], [8]), ([14, 8], [8, 14]), ([13, 15, 12, 8], [8, 13, 15]), ([12, 16, 8], [8, 12, 16]), ([8, 17], [8, 17])])
def looks.B11 : List Nat := [0, 0, 3, 7, 15, 15, 63, 127, 255, 511, 511, 1535, 4095, 511, 511, 16895, 65535, 131071, 262143]
theorem looks.tab11 : rtab .any (opsOf Try.f3 11) = looks.T11 := by kernel_rfl
theorem looks.bits11 : waitsOk looks.T11.2 looks.B11 = true := by kernel_rfl
def looks.T15 : Bool × List (List Nat × List Nat) := (true, [([], []), ([0], [0]), ([], []), ([2, 1], [2]), ([1, 3], [1, 3]), ([4, 3], [4]), ([5], [5]), ([6, 5, 5], [5, 6]), ([5, 7], [5, 7]), ([8, 7], [8]), ([9, 9], [9]), ([9, 10], [9, 10]), ([11, 10, 0, 1, 2, 3, 4, 5, 6, 7, 8, 9, 10, 11], [11])])
def looks.B15 : List Nat := [0, 1, 0, 7, 15, 31, 63, 127, 255, 511, 1023, 2047, 4095]
theorem looks.tab15 : rtab .any (opsOf Try.f3 15) = looks.T15 := by kernel_rfl
theorem looks.bits15 : waitsOk looks.T15.2 looks.B15 = true := by kernel_rfl
set_option maxHeartbeats 8000000 in
set_option maxRecDepth 100000 in
theorem looks.calls (k : Nat) (A0 : Option Addr) (c0 : Nat) (l0 : List Int) (a1_0 : Int) (a1_1 : Int) (a1_2 : Int) (a1_3 : Int) (a1_4 : Int) (a1_5 : Int) (a2 : Int) (a3 : Int) (r : Bool) (w : World) (hr0 : Kd.C (Kd.int .u8) w A0 l0.length l0) (hc0 : l0.length ≤ c0) (h : looks.f k l0 a1_0 a1_1 a1_2 a1_3 a1_4 a1_5 a2 a3 = some r) :
    Calls Try.prog 3 #[.slice A0 l0.length c0, .agg #[.int .i64 a1_0, .int .i64 a1_1, .int .i64 a1_2, .int .i64 a1_3, .int .i64 a1_4, .int .i64 a1_5], .int .i64 a2, .int .i64 a3] w fun e w' => e = .returned (.bool r) ∧ Below w.heap.size w w' := by
  have hu24 := Try.underlying24
  have hf35_2 : ∀ (q0 q1 q2 q3 q4 q5 q6 q7 q8 q9 q10 q11 q12 : Value) (w_ : World), (Instr.field 35 (.agg #[q0, q1, q2, q3, q4, q5, q6, q7, q8, q9, q10, q11, q12]) 2).run Try.prog w_ = .ok (.agg #[q5, q6, q7, q8, q9, q10]) w_ := fun _ _ _ _ _ _ _ _ _ _ _ _ _ _ => by kernel_rfl
  have hu38 := Try.underlying38
  have HR0 := Aside0.mk hr0
  have HC0 := Aside0.mk hc0
  clear hr0 hc0
  have HB := Aside0.mk (Below.refl w.heap.size w)
  have H : ((kauditmill_New.f l0 40).bind fun bt186 => ((kauditmill_Case_Config.f k bt186.1 bt186.2).bind fun bt189 => ((some (([(⟨a1_0, a1_1, a1_2, a1_3, a1_4, a1_5⟩ : S24), (⟨bt189.2.2.2.2.2.1, bt189.2.2.2.2.2.2.1, bt189.2.2.2.2.2.2.2.1, bt189.2.2.2.2.2.2.2.2.1, bt189.2.2.2.2.2.2.2.2.2.1, bt189.2.2.2.2.2.2.2.2.2.2.1⟩ : S24)] : List (S24)) : List (S24))).bind fun y204 => (looks.l0 k a2 a3 y204 (y204.length : Int) 0 a1_0 a1_1 a1_2 a1_3 a1_4 a1_5 bt186.1 bt189.2.2.2.2.2.2.2.2.2.2.2.2.2 bt189.2.2.2.2.2.1 bt189.2.2.2.2.2.2.1 bt189.2.2.2.2.2.2.2.1 bt189.2.2.2.2.2.2.2.2.1 bt189.2.2.2.2.2.2.2.2.2.1 bt189.2.2.2.2.2.2.2.2.2.2.1)))) = some r := h
  clear h
  replace H := Option.bind_eq_some_iff.mp H
  obtain ⟨⟨t186, t187⟩, A50, H⟩ := H
  replace H : ((kauditmill_Case_Config.f k t186 t187).bind fun bt189 => ((some (([(⟨a1_0, a1_1, a1_2, a1_3, a1_4, a1_5⟩ : S24), (⟨bt189.2.2.2.2.2.1, bt189.2.2.2.2.2.2.1, bt189.2.2.2.2.2.2.2.1, bt189.2.2.2.2.2.2.2.2.1, bt189.2.2.2.2.2.2.2.2.2.1, bt189.2.2.2.2.2.2.2.2.2.2.1⟩ : S24)] : List (S24)) : List (S24))).bind fun y204 => (looks.l0 k a2 a3 y204 (y204.length : Int) 0 a1_0 a1_1 a1_2 a1_3 a1_4 a1_5 t186 bt189.2.2.2.2.2.2.2.2.2.2.2.2.2 bt189.2.2.2.2.2.1 bt189.2.2.2.2.2.2.1 bt189.2.2.2.2.2.2.2.1 bt189.2.2.2.2.2.2.2.2.1 bt189.2.2.2.2.2.2.2.2.2.1 bt189.2.2.2.2.2.2.2.2.2.2.1))) = some r := H
  have A5 := Aside0.mk A50
  clear A50
  replace H := Option.bind_eq_some_iff.mp H
  obtain ⟨⟨t189, t190, t191, t192, t193, t194, t195, t196, t197, t198, t199, t200, t201, t202⟩, A60, H⟩ := H
  replace H : ((some (([(⟨a1_0, a1_1, a1_2, a1_3, a1_4, a1_5⟩ : S24), (⟨t194, t195, t196, t197, t198, t199⟩ : S24)] : List (S24)) : List (S24))).bind fun y204 => (looks.l0 k a2 a3 y204 (y204.length : Int) 0 a1_0 a1_1 a1_2 a1_3 a1_4 a1_5 t186 t202 t194 t195 t196 t197 t198 t199)) = some r := H
  have A6 := Aside0.mk A60
  clear A60
  obtain ⟨y204, hy204⟩ : ∃ y_ : List (S24), y_ = (([(⟨a1_0, a1_1, a1_2, a1_3, a1_4, a1_5⟩ : S24), (⟨t194, t195, t196, t197, t198, t199⟩ : S24)] : List (S24))) := ⟨_, rfl⟩
  replace H : (looks.l0 k a2 a3 y204 (y204.length : Int) 0 a1_0 a1_1 a1_2 a1_3 a1_4 a1_5 t186 t202 t194 t195 t196 t197 t198 t199) = some r := by first | (rw [hy204]; with_reducible exact H) | (have H2_ := (Option.bind_some _ _).symm.trans H; rw [hy204]; with_reducible exact H2_) | (have H2_ := (Option.bind_some _ _).symm.trans H; with_reducible exact H2_) | with_reducible exact H | (rw [hy204]; exact H) | exact H
  have Ny204 := Aside0.mk hy204
  clear hy204
  have H' := Aside0.mk H
  clear H
  go_enter Try.func3, Try.ntmps3
  go_wp2_with (first | ((with_reducible refine gate_dst (N := 5) rfl ?_); refine box_event ?hg (N := 5) ?hd (cs := #[.int .i64 a1_0, .int .i64 a1_1, .int .i64 a1_2, .int .i64 a1_3, .int .i64 a1_4, .int .i64 a1_5]) (t := 24) ?hr ?_; (case hd => rfl); (case hg => rfl); (case hr => first | (go_simp; done) | (go_simp; rfl)); intro gb185 hg w7 hbox hb; have n0_ := Aside0.mk (below_step (by repeat (first | (with_reducible first | exact HB.out | apply below_alloc | apply pw_below_drewN | apply below_drew1) | exact HB.out)) hb); have n1_ := Aside0.mk (hbox); have n2_ := Aside0.mk ((by rw [hg]; exact (below_size (by repeat (first | (with_reducible first | exact HB.out | apply below_alloc | apply pw_below_drewN | apply below_drew1) | exact HB.out))) : w.heap.size ≤ gb185)); have n3_ := Aside0.mk ((by rw [hg]; exact (below_size (by repeat (first | (with_reducible first | exact HB.out | apply below_alloc | apply pw_below_drewN | apply below_drew1) | exact HB.out))) : w.heap.size ≤ gb185)); clear HB; have HB := n0_; have BK185 := n1_; have GW185 := n2_; have GE185 := n3_; clear n0_ n1_ n2_ n3_; clear hb hbox hg) | ((with_reducible refine gate_callee (f := 7) rfl ?_); refine goesL_ (some 20) rfl rfl Try.func7 (by kernel_rfl) rfl #[.slice A0 l0.length c0, .int .i64 40] rfl (by (try simp only [List.map_toArray, List.map_cons, List.map_nil]); first | done | rfl | (simp only [List.length_drop, List.length_take]; rfl)) ?_; (with_reducible refine (kauditmill_New.calls _ _ l0 40 t186 t187 w _ ?side1 ?side2 ?side3 A5.out).mono ?_); (case side1 => repeat (first | (with_reducible first | exact HB.out | apply below_alloc | apply pw_below_drewN | apply below_drew1 | refine below_set ?_ GE185.out) | exact HB.out)); (case side2 => exact HR0.out); (case side3 => exact HC0.out); rintro e w8 ⟨g188, rfl, hi, hb, hb2⟩; refine ⟨_, rfl, ?_⟩; have n0_ := Aside0.mk (blk_below (g := gb185) (o := .cells #[.int .i64 a1_0, .int .i64 a1_1, .int .i64 a1_2, .int .i64 a1_3, .int .i64 a1_4, .int .i64 a1_5] 24 (0, 0)) (by (with_reducible repeat (first | refine blk_drewN ?_ _ | refine blk_drew ?_ | refine blk_alloc ?_ _)); exact BK185.out) hb2); have n1_ := Aside0.mk (hb); have n2_ := Aside0.mk (hi); have n3_ := Aside0.mk (IsS54.ne_blk hi (blk_below (g := gb185) (o := .cells #[.int .i64 a1_0, .int .i64 a1_1, .int .i64 a1_2, .int .i64 a1_3, .int .i64 a1_4, .int .i64 a1_5] 24 (0, 0)) (by (with_reducible repeat (first | refine blk_drewN ?_ _ | refine blk_drew ?_ | refine blk_alloc ?_ _)); exact BK185.out) hb2) (by decide)); have n4_ := Aside0.mk (Ne.symm (IsS54.ne_blk hi (blk_below (g := gb185) (o := .cells #[.int .i64 a1_0, .int .i64 a1_1, .int .i64 a1_2, .int .i64 a1_3, .int .i64 a1_4, .int .i64 a1_5] 24 (0, 0)) (by (with_reducible repeat (first | refine blk_drewN ?_ _ | refine blk_drew ?_ | refine blk_alloc ?_ _)); exact BK185.out) hb2) (by decide))); clear BK185; clear HB; have BK185 := n0_; have HB := n1_; have HI188 := n2_; have NB188_185 := n3_; have NB185_188 := n4_; clear n0_ n1_ n2_ n3_ n4_; (try clear hb); (try clear hb2); (try clear hk); (try clear hi)) | ((with_reducible refine gate_callee (f := 8) rfl ?_); refine goesL_ (some 22) rfl rfl Try.func8 (by kernel_rfl) rfl #[.pointer (some ⟨g188, 0, none⟩)] rfl (by (try simp only [List.map_toArray, List.map_cons, List.map_nil]); first | done | rfl | (simp only [List.length_drop, List.length_take]; rfl)) ?_; (with_reducible refine (kauditmill_Case_Config.calls k g188 t186 t187 t189 t190 t191 t192 t193 t194 t195 t196 t197 t198 t199 t200 t201 t202 w _ ?side1 ?side2 A6.out).mono ?_); (case side1 => repeat (first | (with_reducible first | exact HI188.out | apply IsS54.alloc | apply IsS54.drewN | apply IsS54.drew | apply IsS54.set_1 | refine IsS54.far ?_ NB188_185.out _) | exact HI188.out)); (case side2 => repeat (first | (with_reducible first | exact HB.out | apply below_alloc | apply pw_below_drewN | apply below_drew1 | refine below_set ?_ (IsS54.ge HI188.out) | refine below_set ?_ GE185.out) | exact HB.out)); rintro e w9 ⟨rfl, hi, hb, hk⟩; refine ⟨_, rfl, ?_⟩; have n0_ := Aside0.mk (KeepBut.blk hk (g' := gb185) (o := .cells #[.int .i64 a1_0, .int .i64 a1_1, .int .i64 a1_2, .int .i64 a1_3, .int .i64 a1_4, .int .i64 a1_5] 24 (0, 0)) (by (with_reducible repeat (first | refine blk_drewN ?_ _ | refine blk_drew ?_ | refine blk_alloc ?_ _)); exact BK185.out) NB185_188.out (by simp)); have n1_ := Aside0.mk (hb); have n2_ := Aside0.mk (hi); clear BK185; clear HB; clear HI188; have BK185 := n0_; have HB := n1_; have HI188 := n2_; clear n0_ n1_ n2_; (try clear hb); (try clear hb2); (try clear hk); (try clear hi)) | ((with_reducible refine gate_dst (N := 10) rfl ?_); refine box_event ?hg (N := 10) ?hd (cs := #[.int .i64 0, .int .i64 0, .int .i64 0, .int .i64 0, .int .i64 0, .int .i64 0]) (t := 24) ?hr ?_; (case hd => rfl); (case hg => rfl); (case hr => first | (go_simp; done) | (go_simp; rfl)); intro gb203 hg w10 hbox hb; have n0_ := Aside0.mk (blk_below (g := gb185) (o := .cells #[.int .i64 a1_0, .int .i64 a1_1, .int .i64 a1_2, .int .i64 a1_3, .int .i64 a1_4, .int .i64 a1_5] 24 (0, 0)) (by (with_reducible repeat (first | refine blk_drewN ?_ _ | refine blk_drew ?_ | refine blk_alloc ?_ _)); exact BK185.out) hb); have n1_ := Aside0.mk (IsS54.below (by repeat (first | (with_reducible first | exact HI188.out | apply IsS54.alloc | apply IsS54.drewN | apply IsS54.drew | apply IsS54.set_1 | refine IsS54.far ?_ NB188_185.out _) | exact HI188.out)) hb); have n2_ := Aside0.mk (below_step (by repeat (first | (with_reducible first | exact HB.out | apply below_alloc | apply pw_below_drewN | apply below_drew1 | refine below_set ?_ (IsS54.ge HI188.out) | refine below_set ?_ GE185.out) | exact HB.out)) hb); have n3_ := Aside0.mk (hbox); have n4_ := Aside0.mk ((by rw [hg]; exact (below_size (by repeat (first | (with_reducible first | exact HB.out | apply below_alloc | apply pw_below_drewN | apply below_drew1 | refine below_set ?_ (IsS54.ge HI188.out) | refine below_set ?_ GE185.out) | exact HB.out))) : w.heap.size ≤ gb203)); have n5_ := Aside0.mk ((by rw [hg]; exact (below_size (by repeat (first | (with_reducible first | exact HB.out | apply below_alloc | apply pw_below_drewN | apply below_drew1 | refine below_set ?_ (IsS54.ge HI188.out) | refine below_set ?_ GE185.out) | exact HB.out))) : w.heap.size ≤ gb203)); have n6_ := Aside0.mk ((by rw [hg]; exact Nat.ne_of_lt (blk_lt (g := gb185) (o := .cells #[.int .i64 a1_0, .int .i64 a1_1, .int .i64 a1_2, .int .i64 a1_3, .int .i64 a1_4, .int .i64 a1_5] 24 (0, 0)) (by (with_reducible repeat (first | refine blk_drewN ?_ _ | refine blk_drew ?_ | refine blk_alloc ?_ _)); exact BK185.out)) : gb185 ≠ gb203)); have n7_ := Aside0.mk ((by rw [hg]; exact Nat.ne_of_gt (blk_lt (g := gb185) (o := .cells #[.int .i64 a1_0, .int .i64 a1_1, .int .i64 a1_2, .int .i64 a1_3, .int .i64 a1_4, .int .i64 a1_5] 24 (0, 0)) (by (with_reducible repeat (first | refine blk_drewN ?_ _ | refine blk_drew ?_ | refine blk_alloc ?_ _)); exact BK185.out)) : gb203 ≠ gb185)); have n8_ := Aside0.mk ((by rw [hg]; exact Nat.ne_of_lt (IsS54.lt (show IsS54 w _ g188 t186 t202 from by repeat (first | (with_reducible first | exact HI188.out | apply IsS54.alloc | apply IsS54.drewN | apply IsS54.drew | apply IsS54.set_1 | refine IsS54.far ?_ NB188_185.out _) | exact HI188.out))) : g188 ≠ gb203)); have n9_ := Aside0.mk ((by rw [hg]; exact Nat.ne_of_gt (IsS54.lt (show IsS54 w _ g188 t186 t202 from by repeat (first | (with_reducible first | exact HI188.out | apply IsS54.alloc | apply IsS54.drewN | apply IsS54.drew | apply IsS54.set_1 | refine IsS54.far ?_ NB188_185.out _) | exact HI188.out))) : gb203 ≠ g188)); clear BK185; clear HI188; clear HB; have BK185 := n0_; have HI188 := n1_; have HB := n2_; have BK203 := n3_; have GW203 := n4_; have GE203 := n5_; have NB185_203 := n6_; have NB203_185 := n7_; have NB188_203 := n8_; have NB203_188 := n9_; clear n0_ n1_ n2_ n3_ n4_ n5_ n6_ n7_ n8_ n9_; clear hb hbox hg; have hnb11 := NB203_185.out; have hnc11 := NB185_203.out; have hnb12 := NB203_188.out; have hnc12 := NB188_203.out; have hcz13_0 : w10.cell? ⟨gb203, 0, none⟩ = some (.int .i64 0) := (blk_cell BK203.out 0).trans rfl; have hcz13_1 : w10.cell? ⟨gb203, 1, none⟩ = some (.int .i64 0) := (blk_cell BK203.out 1).trans rfl; have hcz13_2 : w10.cell? ⟨gb203, 2, none⟩ = some (.int .i64 0) := (blk_cell BK203.out 2).trans rfl; have hcz13_3 : w10.cell? ⟨gb203, 3, none⟩ = some (.int .i64 0) := (blk_cell BK203.out 3).trans rfl; have hcz13_4 : w10.cell? ⟨gb203, 4, none⟩ = some (.int .i64 0) := (blk_cell BK203.out 4).trans rfl; have hcz13_5 : w10.cell? ⟨gb203, 5, none⟩ = some (.int .i64 0) := (blk_cell BK203.out 5).trans rfl; have hfz13_0 := blk_frozen BK203.out 0; have hfz13_1 := blk_frozen BK203.out 1; have hfz13_2 := blk_frozen BK203.out 2; have hfz13_3 := blk_frozen BK203.out 3; have hfz13_4 := blk_frozen BK203.out 4; have hfz13_5 := blk_frozen BK203.out 5; have hnb14 := NB185_188.out; have hnc14 := NB188_185.out; have hcz15_0 : w10.cell? ⟨gb185, 0, none⟩ = some (.int .i64 a1_0) := (blk_cell BK185.out 0).trans rfl; have hcz15_1 : w10.cell? ⟨gb185, 1, none⟩ = some (.int .i64 a1_1) := (blk_cell BK185.out 1).trans rfl; have hcz15_2 : w10.cell? ⟨gb185, 2, none⟩ = some (.int .i64 a1_2) := (blk_cell BK185.out 2).trans rfl; have hcz15_3 : w10.cell? ⟨gb185, 3, none⟩ = some (.int .i64 a1_3) := (blk_cell BK185.out 3).trans rfl; have hcz15_4 : w10.cell? ⟨gb185, 4, none⟩ = some (.int .i64 a1_4) := (blk_cell BK185.out 4).trans rfl; have hcz15_5 : w10.cell? ⟨gb185, 5, none⟩ = some (.int .i64 a1_5) := (blk_cell BK185.out 5).trans rfl; have hfz15_0 := blk_frozen BK185.out 0; have hfz15_1 := blk_frozen BK185.out 1; have hfz15_2 := blk_frozen BK185.out 2; have hfz15_3 := blk_frozen BK185.out 3; have hfz15_4 := blk_frozen BK185.out 4; have hfz15_5 := blk_frozen BK185.out 5) | ((with_reducible refine gate_dst (N := 26) rfl ?_); refine Kd.R_lit k24 _ 24 ?hg (N := 26) ?hd (xs := ([(⟨a1_0, a1_1, a1_2, a1_3, a1_4, a1_5⟩ : S24), (⟨t194, t195, t196, t197, t198, t199⟩ : S24)] : List (S24))) (inner := [.int .i64 a1_0, .int .i64 a1_1, .int .i64 a1_2, .int .i64 a1_3, .int .i64 a1_4, .int .i64 a1_5, .int .i64 t194, .int .i64 t195, .int .i64 t196, .int .i64 t197, .int .i64 t198, .int .i64 t199]) (ok := fun _ => True) (okp := fun _ => True) ?hr ?hp (fun _ hk => hk) trivial (Below.refl _ _) (Nat.le_refl _) (by simp) ?_; (case hd => rfl); (case hg => rfl); (case hr => first | (go_simp; done) | (go_simp; rfl)); (case hp => exact (Reps.c6 (show Kd.M k24 _ _ _ (⟨a1_0, a1_1, a1_2, a1_3, a1_4, a1_5⟩ : S24) [.int .i64 a1_0, .int .i64 a1_1, .int .i64 a1_2, .int .i64 a1_3, .int .i64 a1_4, .int .i64 a1_5] from (k24_mkM _ _ _ (⟨a1_0, a1_1, a1_2, a1_3, a1_4, a1_5⟩ : S24) )) (Reps.c6 (show Kd.M k24 _ _ _ (⟨t194, t195, t196, t197, t198, t199⟩ : S24) [.int .i64 t194, .int .i64 t195, .int .i64 t196, .int .i64 t197, .int .i64 t198, .int .i64 t199] from (k24_mkM _ _ _ (⟨t194, t195, t196, t197, t198, t199⟩ : S24) )) (Reps.none _ _)))); intro v205 w16 ho17 hb hg_ hnew_; clear hg_ hnew_; (first | rw [← Ny204.out] at ho17 | (simp only [Int.reduceToNat] at ho17; rw [← Ny204.out] at ho17)); have n0_ := Aside0.mk (Kd.R_lower (Kd.R_newB (Kd.R_newB ho17 (g := gb185) (o := .cells #[.int .i64 a1_0, .int .i64 a1_1, .int .i64 a1_2, .int .i64 a1_3, .int .i64 a1_4, .int .i64 a1_5] 24 (0, 0)) (by (with_reducible repeat (first | refine blk_drewN ?_ _ | refine blk_drew ?_ | refine blk_alloc ?_ _)); refine blk_far ?_ NB185_203.out _; (with_reducible repeat (first | refine blk_drewN ?_ _ | refine blk_drew ?_ | refine blk_alloc ?_ _)); refine blk_far ?_ NB185_203.out _; (with_reducible repeat (first | refine blk_drewN ?_ _ | refine blk_drew ?_ | refine blk_alloc ?_ _)); refine blk_far ?_ NB185_203.out _; (with_reducible repeat (first | refine blk_drewN ?_ _ | refine blk_drew ?_ | refine blk_alloc ?_ _)); refine blk_far ?_ NB185_203.out _; (with_reducible repeat (first | refine blk_drewN ?_ _ | refine blk_drew ?_ | refine blk_alloc ?_ _)); refine blk_far ?_ NB185_203.out _; (with_reducible repeat (first | refine blk_drewN ?_ _ | refine blk_drew ?_ | refine blk_alloc ?_ _)); refine blk_far ?_ NB185_203.out _; (with_reducible repeat (first | refine blk_drewN ?_ _ | refine blk_drew ?_ | refine blk_alloc ?_ _)); exact BK185.out)) (g := gb203) (o := .cells #[.int .i64 t194, .int .i64 t195, .int .i64 t196, .int .i64 t197, .int .i64 t198, .int .i64 t199] 24 (0, 0)) (by (with_reducible repeat (first | refine blk_drewN ?_ _ | refine blk_drew ?_ | refine blk_alloc ?_ _)); refine blk_put (cs := #[.int .i64 t194, .int .i64 t195, .int .i64 t196, .int .i64 t197, .int .i64 t198, .int .i64 0]) ?_ 5 _ rfl; (with_reducible repeat (first | refine blk_drewN ?_ _ | refine blk_drew ?_ | refine blk_alloc ?_ _)); refine blk_put (cs := #[.int .i64 t194, .int .i64 t195, .int .i64 t196, .int .i64 t197, .int .i64 0, .int .i64 0]) ?_ 4 _ rfl; (with_reducible repeat (first | refine blk_drewN ?_ _ | refine blk_drew ?_ | refine blk_alloc ?_ _)); refine blk_put (cs := #[.int .i64 t194, .int .i64 t195, .int .i64 t196, .int .i64 0, .int .i64 0, .int .i64 0]) ?_ 3 _ rfl; (with_reducible repeat (first | refine blk_drewN ?_ _ | refine blk_drew ?_ | refine blk_alloc ?_ _)); refine blk_put (cs := #[.int .i64 t194, .int .i64 t195, .int .i64 0, .int .i64 0, .int .i64 0, .int .i64 0]) ?_ 2 _ rfl; (with_reducible repeat (first | refine blk_drewN ?_ _ | refine blk_drew ?_ | refine blk_alloc ?_ _)); refine blk_put (cs := #[.int .i64 t194, .int .i64 0, .int .i64 0, .int .i64 0, .int .i64 0, .int .i64 0]) ?_ 1 _ rfl; (with_reducible repeat (first | refine blk_drewN ?_ _ | refine blk_drew ?_ | refine blk_alloc ?_ _)); refine blk_put (cs := #[.int .i64 0, .int .i64 0, .int .i64 0, .int .i64 0, .int .i64 0, .int .i64 0]) ?_ 0 _ rfl; (with_reducible repeat (first | refine blk_drewN ?_ _ | refine blk_drew ?_ | refine blk_alloc ?_ _)); exact BK203.out)) (below_size (by repeat (first | (with_reducible first | exact HB.out | apply below_alloc | apply pw_below_drewN | apply below_drew1 | refine below_set ?_ (IsS54.ge HI188.out) | refine below_set ?_ GE185.out | refine below_set ?_ GE203.out) | exact HB.out)))); have n1_ := Aside0.mk (blk_below (g := gb185) (o := .cells #[.int .i64 a1_0, .int .i64 a1_1, .int .i64 a1_2, .int .i64 a1_3, .int .i64 a1_4, .int .i64 a1_5] 24 (0, 0)) (by (with_reducible repeat (first | refine blk_drewN ?_ _ | refine blk_drew ?_ | refine blk_alloc ?_ _)); refine blk_far ?_ NB185_203.out _; (with_reducible repeat (first | refine blk_drewN ?_ _ | refine blk_drew ?_ | refine blk_alloc ?_ _)); refine blk_far ?_ NB185_203.out _; (with_reducible repeat (first | refine blk_drewN ?_ _ | refine blk_drew ?_ | refine blk_alloc ?_ _)); refine blk_far ?_ NB185_203.out _; (with_reducible repeat (first | refine blk_drewN ?_ _ | refine blk_drew ?_ | refine blk_alloc ?_ _)); refine blk_far ?_ NB185_203.out _; (with_reducible repeat (first | refine blk_drewN ?_ _ | refine blk_drew ?_ | refine blk_alloc ?_ _)); refine blk_far ?_ NB185_203.out _; (with_reducible repeat (first | refine blk_drewN ?_ _ | refine blk_drew ?_ | refine blk_alloc ?_ _)); refine blk_far ?_ NB185_203.out _; (with_reducible repeat (first | refine blk_drewN ?_ _ | refine blk_drew ?_ | refine blk_alloc ?_ _)); exact BK185.out) hb); have n2_ := Aside0.mk (IsS54.below (show IsS54 w ((((((w10.setCell ⟨gb203, 0, none⟩ (.int .i64 t194)).setCell ⟨gb203, 1, none⟩ (.int .i64 t195)).setCell ⟨gb203, 2, none⟩ (.int .i64 t196)).setCell ⟨gb203, 3, none⟩ (.int .i64 t197)).setCell ⟨gb203, 4, none⟩ (.int .i64 t198)).setCell ⟨gb203, 5, none⟩ (.int .i64 t199)) g188 t186 t202 from by repeat (first | (with_reducible first | exact HI188.out | apply IsS54.alloc | apply IsS54.drewN | apply IsS54.drew | apply IsS54.set_1 | refine IsS54.far ?_ NB188_185.out _ | refine IsS54.far ?_ NB188_203.out _) | exact HI188.out)) hb); have n3_ := Aside0.mk (blk_below (g := gb203) (o := .cells #[.int .i64 t194, .int .i64 t195, .int .i64 t196, .int .i64 t197, .int .i64 t198, .int .i64 t199] 24 (0, 0)) (by (with_reducible repeat (first | refine blk_drewN ?_ _ | refine blk_drew ?_ | refine blk_alloc ?_ _)); refine blk_put (cs := #[.int .i64 t194, .int .i64 t195, .int .i64 t196, .int .i64 t197, .int .i64 t198, .int .i64 0]) ?_ 5 _ rfl; (with_reducible repeat (first | refine blk_drewN ?_ _ | refine blk_drew ?_ | refine blk_alloc ?_ _)); refine blk_put (cs := #[.int .i64 t194, .int .i64 t195, .int .i64 t196, .int .i64 t197, .int .i64 0, .int .i64 0]) ?_ 4 _ rfl; (with_reducible repeat (first | refine blk_drewN ?_ _ | refine blk_drew ?_ | refine blk_alloc ?_ _)); refine blk_put (cs := #[.int .i64 t194, .int .i64 t195, .int .i64 t196, .int .i64 0, .int .i64 0, .int .i64 0]) ?_ 3 _ rfl; (with_reducible repeat (first | refine blk_drewN ?_ _ | refine blk_drew ?_ | refine blk_alloc ?_ _)); refine blk_put (cs := #[.int .i64 t194, .int .i64 t195, .int .i64 0, .int .i64 0, .int .i64 0, .int .i64 0]) ?_ 2 _ rfl; (with_reducible repeat (first | refine blk_drewN ?_ _ | refine blk_drew ?_ | refine blk_alloc ?_ _)); refine blk_put (cs := #[.int .i64 t194, .int .i64 0, .int .i64 0, .int .i64 0, .int .i64 0, .int .i64 0]) ?_ 1 _ rfl; (with_reducible repeat (first | refine blk_drewN ?_ _ | refine blk_drew ?_ | refine blk_alloc ?_ _)); refine blk_put (cs := #[.int .i64 0, .int .i64 0, .int .i64 0, .int .i64 0, .int .i64 0, .int .i64 0]) ?_ 0 _ rfl; (with_reducible repeat (first | refine blk_drewN ?_ _ | refine blk_drew ?_ | refine blk_alloc ?_ _)); exact BK203.out) hb); have n4_ := Aside0.mk (below_step (by repeat (first | (with_reducible first | exact HB.out | apply below_alloc | apply pw_below_drewN | apply below_drew1 | refine below_set ?_ (IsS54.ge HI188.out) | refine below_set ?_ GE185.out | refine below_set ?_ GE203.out) | exact HB.out)) hb); clear BK185; clear HI188; clear BK203; clear HB; have HO206 := n0_; have BK185 := n1_; have HI188 := n2_; have BK203 := n3_; have HB := n4_; clear n0_ n1_ n2_ n3_ n4_; clear hb ho17; obtain ⟨Ao18, co18, eo18⟩ := Kd.R_slice HO206.out; subst eo18))
  go_loopg [28] k (fun kq v28 w' => ∃ (x28_1 : Int) (x189001_1 : Int), v28 = .int .i64 x28_1 ∧ Aside0 (looks.l0 kq a2 a3 y204 (y204.length : Int) x28_1 a1_0 a1_1 a1_2 a1_3 a1_4 a1_5 t186 x189001_1 t194 t195 t196 t197 t198 t199 = some r) ∧ Aside0 (kq ≤ k) ∧ Aside0 (Kd.R k24 24 w' w.heap.size (fun k_ => k_ ≠ gb185 ∧ k_ ≠ gb203) (.slice Ao18 y204.length co18) y204) ∧ Aside0 (w'.heap[gb185]? = some (.cells #[.int .i64 a1_0, .int .i64 a1_1, .int .i64 a1_2, .int .i64 a1_3, .int .i64 a1_4, .int .i64 a1_5] 24 (0, 0))) ∧ Aside0 (w'.heap[gb203]? = some (.cells #[.int .i64 t194, .int .i64 t195, .int .i64 t196, .int .i64 t197, .int .i64 t198, .int .i64 t199] 24 (0, 0))) ∧ Aside0 (IsS54 w w' g188 t186 x189001_1) ∧ Aside0 (Below w.heap.size w w'))
  case atStart => exact ⟨(0), (t202), (by first | rfl | (simp; done) | (simp [*]; done)), H', ⟨Nat.le_refl _⟩, ⟨by (with_reducible repeat (first | apply Kd.R_alloc | apply Kd.R_drewN | apply Kd.R_drew)); exact Kd.R_mono HO206.out (fun _ hk => ⟨hk.1.2, hk.2⟩)⟩, ⟨by (with_reducible repeat (first | refine blk_drewN ?_ _ | refine blk_drew ?_ | refine blk_alloc ?_ _)); exact BK185.out⟩, ⟨by (with_reducible repeat (first | refine blk_drewN ?_ _ | refine blk_drew ?_ | refine blk_alloc ?_ _)); exact BK203.out⟩, ⟨by repeat (first | (with_reducible first | exact HI188.out | apply IsS54.alloc | apply IsS54.drewN | apply IsS54.drew | apply IsS54.set_1 | refine IsS54.far ?_ NB188_185.out _ | refine IsS54.far ?_ NB188_203.out _) | exact HI188.out)⟩, ⟨by repeat (first | (with_reducible first | exact HB.out | apply below_alloc | apply pw_below_drewN | apply below_drew1 | refine below_set ?_ (IsS54.ge HI188.out) | refine below_set ?_ GE185.out | refine below_set ?_ GE203.out) | exact HB.out)⟩⟩
  case round =>
    clear H'
    try clear c1
    try clear p2
    try clear c3
    try clear c6
    try clear c7
    try clear c8
    try clear c11
    try clear c12
    try clear c14
    try clear hcz13_0
    try clear hcz13_1
    try clear hcz13_2
    try clear hcz13_3
    try clear hcz13_4
    try clear hcz13_5
    try clear hcz15_0
    try clear hcz15_1
    try clear hcz15_2
    try clear hcz15_3
    try clear hcz15_4
    try clear hcz15_5
    try clear hfz13_0
    try clear hfz13_1
    try clear hfz13_2
    try clear hfz13_3
    try clear hfz13_4
    try clear hfz13_5
    try clear hfz15_0
    try clear hfz15_1
    try clear hfz15_2
    try clear hfz15_3
    try clear hfz15_4
    try clear hfz15_5
    obtain ⟨x28_1, x189001_1, rfl, HA, HK1, HO_26, BK185, BK203, HI188, HB⟩ := hrel
    cases gk with
    | zero => exact absurd HA.out (by simp [looks.l0])
    | succ k1 =>
      have H := HA.out
      clear HA
      simp only [looks.l0] at H
      by_cases c19 : x28_1 < (y204.length : Int)
      · rw [if_pos c19] at H
        have c19b0 : decide (x28_1 < (y204.length : Int)) = true := decide_eq_true c19
        clear c19
        by_cases c20 : 0 ≤ x28_1
        · rw [if_pos c20] at H
          have c20b0 : decide (0 ≤ x28_1) = true := decide_eq_true c20
          clear c20
          by_cases c21 : x28_1 < (y204.length : Int)
          · rw [if_pos c21] at H
            have c21b0 : decide (x28_1 < (y204.length : Int)) = true := decide_eq_true c21
            clear c21
            replace H := Option.bind_eq_some_iff.mp H
            obtain ⟨⟨t209, t210⟩, A220, H⟩ := H
            replace H : ((kauditmill_Case_Pick.f t186 t210 (([0, 149, 150, 299, 300, 450, 899, 900, 2000] : List Int))).bind fun bt214 => ((kauditmill_Case_Int.f t186 bt214.2 256).bind fun bt216 => ((kauditmill_Case_Int.f t186 bt216.2 4).bind fun bt218 => ((some (([(⟨a2, a3⟩ : S38), (⟨t209, bt214.1⟩ : S38), (⟨a2, bt216.1⟩ : S38), (⟨wrap64 (bt218.1 - 1), a3⟩ : S38)] : List (S38)) : List (S38))).bind fun y220 => (looks.l1 k1 a2 a3 y204 (y204.length : Int) x28_1 y220 (y220.length : Int) 0 a1_0 a1_1 a1_2 a1_3 a1_4 a1_5 t186 bt218.2 t194 t195 t196 t197 t198 t199 ((rd_T24 y204 x28_1).f0) ((rd_T24 y204 x28_1).f1) ((rd_T24 y204 x28_1).f2) ((rd_T24 y204 x28_1).f3) ((rd_T24 y204 x28_1).f4) ((rd_T24 y204 x28_1).f5)))))) = some r := H
            have A22 := Aside0.mk A220
            clear A220
            obtain ⟨y211, hy211⟩ : ∃ y_ : List Int, y_ = (([0, 149, 150, 299, 300, 450, 899, 900, 2000] : List Int)) := ⟨_, rfl⟩
            replace H : ((kauditmill_Case_Pick.f t186 t210 y211).bind fun bt214 => ((kauditmill_Case_Int.f t186 bt214.2 256).bind fun bt216 => ((kauditmill_Case_Int.f t186 bt216.2 4).bind fun bt218 => ((some (([(⟨a2, a3⟩ : S38), (⟨t209, bt214.1⟩ : S38), (⟨a2, bt216.1⟩ : S38), (⟨wrap64 (bt218.1 - 1), a3⟩ : S38)] : List (S38)) : List (S38))).bind fun y220 => (looks.l1 k1 a2 a3 y204 (y204.length : Int) x28_1 y220 (y220.length : Int) 0 a1_0 a1_1 a1_2 a1_3 a1_4 a1_5 t186 bt218.2 t194 t195 t196 t197 t198 t199 ((rd_T24 y204 x28_1).f0) ((rd_T24 y204 x28_1).f1) ((rd_T24 y204 x28_1).f2) ((rd_T24 y204 x28_1).f3) ((rd_T24 y204 x28_1).f4) ((rd_T24 y204 x28_1).f5)))))) = some r := by first | (rw [hy211]; with_reducible exact H) | (have H2_ := (Option.bind_some _ _).symm.trans H; rw [hy211]; with_reducible exact H2_) | (have H2_ := (Option.bind_some _ _).symm.trans H; with_reducible exact H2_) | with_reducible exact H | (rw [hy211]; exact H) | exact H
            have Ny211 := Aside0.mk hy211
            clear hy211
            replace H := Option.bind_eq_some_iff.mp H
            obtain ⟨⟨t214, t215⟩, A230, H⟩ := H
            replace H : ((kauditmill_Case_Int.f t186 t215 256).bind fun bt216 => ((kauditmill_Case_Int.f t186 bt216.2 4).bind fun bt218 => ((some (([(⟨a2, a3⟩ : S38), (⟨t209, t214⟩ : S38), (⟨a2, bt216.1⟩ : S38), (⟨wrap64 (bt218.1 - 1), a3⟩ : S38)] : List (S38)) : List (S38))).bind fun y220 => (looks.l1 k1 a2 a3 y204 (y204.length : Int) x28_1 y220 (y220.length : Int) 0 a1_0 a1_1 a1_2 a1_3 a1_4 a1_5 t186 bt218.2 t194 t195 t196 t197 t198 t199 ((rd_T24 y204 x28_1).f0) ((rd_T24 y204 x28_1).f1) ((rd_T24 y204 x28_1).f2) ((rd_T24 y204 x28_1).f3) ((rd_T24 y204 x28_1).f4) ((rd_T24 y204 x28_1).f5))))) = some r := H
            have A23 := Aside0.mk A230
            clear A230
            replace H := Option.bind_eq_some_iff.mp H
            obtain ⟨⟨t216, t217⟩, A240, H⟩ := H
            replace H : ((kauditmill_Case_Int.f t186 t217 4).bind fun bt218 => ((some (([(⟨a2, a3⟩ : S38), (⟨t209, t214⟩ : S38), (⟨a2, t216⟩ : S38), (⟨wrap64 (bt218.1 - 1), a3⟩ : S38)] : List (S38)) : List (S38))).bind fun y220 => (looks.l1 k1 a2 a3 y204 (y204.length : Int) x28_1 y220 (y220.length : Int) 0 a1_0 a1_1 a1_2 a1_3 a1_4 a1_5 t186 bt218.2 t194 t195 t196 t197 t198 t199 ((rd_T24 y204 x28_1).f0) ((rd_T24 y204 x28_1).f1) ((rd_T24 y204 x28_1).f2) ((rd_T24 y204 x28_1).f3) ((rd_T24 y204 x28_1).f4) ((rd_T24 y204 x28_1).f5)))) = some r := H
            have A24 := Aside0.mk A240
            clear A240
            replace H := Option.bind_eq_some_iff.mp H
            obtain ⟨⟨t218, t219⟩, A250, H⟩ := H
            replace H : ((some (([(⟨a2, a3⟩ : S38), (⟨t209, t214⟩ : S38), (⟨a2, t216⟩ : S38), (⟨wrap64 (t218 - 1), a3⟩ : S38)] : List (S38)) : List (S38))).bind fun y220 => (looks.l1 k1 a2 a3 y204 (y204.length : Int) x28_1 y220 (y220.length : Int) 0 a1_0 a1_1 a1_2 a1_3 a1_4 a1_5 t186 t219 t194 t195 t196 t197 t198 t199 ((rd_T24 y204 x28_1).f0) ((rd_T24 y204 x28_1).f1) ((rd_T24 y204 x28_1).f2) ((rd_T24 y204 x28_1).f3) ((rd_T24 y204 x28_1).f4) ((rd_T24 y204 x28_1).f5))) = some r := H
            have A25 := Aside0.mk A250
            clear A250
            obtain ⟨y220, hy220⟩ : ∃ y_ : List (S38), y_ = (([(⟨a2, a3⟩ : S38), (⟨t209, t214⟩ : S38), (⟨a2, t216⟩ : S38), (⟨wrap64 (t218 - 1), a3⟩ : S38)] : List (S38))) := ⟨_, rfl⟩
            replace H : (looks.l1 k1 a2 a3 y204 (y204.length : Int) x28_1 y220 (y220.length : Int) 0 a1_0 a1_1 a1_2 a1_3 a1_4 a1_5 t186 t219 t194 t195 t196 t197 t198 t199 ((rd_T24 y204 x28_1).f0) ((rd_T24 y204 x28_1).f1) ((rd_T24 y204 x28_1).f2) ((rd_T24 y204 x28_1).f3) ((rd_T24 y204 x28_1).f4) ((rd_T24 y204 x28_1).f5)) = some r := by first | (rw [hy220]; with_reducible exact H) | (have H2_ := (Option.bind_some _ _).symm.trans H; rw [hy220]; with_reducible exact H2_) | (have H2_ := (Option.bind_some _ _).symm.trans H; with_reducible exact H2_) | with_reducible exact H | (rw [hy220]; exact H) | exact H
            have Ny220 := Aside0.mk hy220
            clear hy220
            have H' := Aside0.mk H
            clear H
            have p207 : 0 ≤ (x28_1 : Int) := of_decide_eq_true (by first | (with_reducible assumption) | assumption)
            have q207 : x28_1 < (y204.length : Int) := of_decide_eq_true (by first | (with_reducible assumption) | assumption)
            obtain ⟨ad207, e207, hx207_0, hx207_1, hx207_2, hx207_3, hx207_4, hx207_5⟩ := at_T24 (Kd.R_reads' HO_26.out).2.2 x28_1 p207 q207
            cases e207
            replace p207 := eq_true p207
            replace q207 := eq_true q207
            go_wp2_with (first | ((with_reducible refine gate_dst (N := 12) rfl ?_); refine box_event ?hg (N := 12) ?hd (cs := #[.int .i64 0, .int .i64 0, .int .i64 0, .int .i64 0, .int .i64 0, .int .i64 0]) (t := 24) ?hr ?_; (case hd => rfl); (case hg => rfl); (case hr => first | (go_simp; done) | (go_simp; rfl)); intro gb208 hg w26 hbox hb; have n0_ := Aside0.mk (Kd.R_below (Kd.R_elderB (by (with_reducible repeat (first | apply Kd.R_alloc | apply Kd.R_drewN | apply Kd.R_drew)); exact HO_26.out) gb208 (Nat.le_of_eq hg.symm)) hb); have n1_ := Aside0.mk (blk_below (g := gb185) (o := .cells #[.int .i64 a1_0, .int .i64 a1_1, .int .i64 a1_2, .int .i64 a1_3, .int .i64 a1_4, .int .i64 a1_5] 24 (0, 0)) (by (with_reducible repeat (first | refine blk_drewN ?_ _ | refine blk_drew ?_ | refine blk_alloc ?_ _)); exact BK185.out) hb); have n2_ := Aside0.mk (blk_below (g := gb203) (o := .cells #[.int .i64 t194, .int .i64 t195, .int .i64 t196, .int .i64 t197, .int .i64 t198, .int .i64 t199] 24 (0, 0)) (by (with_reducible repeat (first | refine blk_drewN ?_ _ | refine blk_drew ?_ | refine blk_alloc ?_ _)); exact BK203.out) hb); have n3_ := Aside0.mk (IsS54.below (by repeat (first | (with_reducible first | exact HI188.out | apply IsS54.alloc | apply IsS54.drewN | apply IsS54.drew | apply IsS54.set_1 | refine IsS54.far ?_ NB188_185.out _ | refine IsS54.far ?_ NB188_203.out _) | exact HI188.out)) hb); have n4_ := Aside0.mk (below_step (by repeat (first | (with_reducible first | exact HB.out | apply below_alloc | apply pw_below_drewN | apply below_drew1 | refine below_set ?_ (IsS54.ge HI188.out) | refine below_set ?_ GE185.out | refine below_set ?_ GE203.out) | exact HB.out)) hb); have n5_ := Aside0.mk (hbox); have n6_ := Aside0.mk ((by rw [hg]; exact (below_size (by repeat (first | (with_reducible first | exact HB.out | apply below_alloc | apply pw_below_drewN | apply below_drew1 | refine below_set ?_ (IsS54.ge HI188.out) | refine below_set ?_ GE185.out | refine below_set ?_ GE203.out) | exact HB.out))) : w.heap.size ≤ gb208)); have n7_ := Aside0.mk ((by rw [hg]; exact (below_size (by repeat (first | (with_reducible first | exact HB.out | apply below_alloc | apply pw_below_drewN | apply below_drew1 | refine below_set ?_ (IsS54.ge HI188.out) | refine below_set ?_ GE185.out | refine below_set ?_ GE203.out) | exact HB.out))) : w.heap.size ≤ gb208)); have n8_ := Aside0.mk ((by rw [hg]; exact Nat.ne_of_lt (blk_lt (g := gb185) (o := .cells #[.int .i64 a1_0, .int .i64 a1_1, .int .i64 a1_2, .int .i64 a1_3, .int .i64 a1_4, .int .i64 a1_5] 24 (0, 0)) (by (with_reducible repeat (first | refine blk_drewN ?_ _ | refine blk_drew ?_ | refine blk_alloc ?_ _)); exact BK185.out)) : gb185 ≠ gb208)); have n9_ := Aside0.mk ((by rw [hg]; exact Nat.ne_of_gt (blk_lt (g := gb185) (o := .cells #[.int .i64 a1_0, .int .i64 a1_1, .int .i64 a1_2, .int .i64 a1_3, .int .i64 a1_4, .int .i64 a1_5] 24 (0, 0)) (by (with_reducible repeat (first | refine blk_drewN ?_ _ | refine blk_drew ?_ | refine blk_alloc ?_ _)); exact BK185.out)) : gb208 ≠ gb185)); have n10_ := Aside0.mk ((by rw [hg]; exact Nat.ne_of_lt (blk_lt (g := gb203) (o := .cells #[.int .i64 t194, .int .i64 t195, .int .i64 t196, .int .i64 t197, .int .i64 t198, .int .i64 t199] 24 (0, 0)) (by (with_reducible repeat (first | refine blk_drewN ?_ _ | refine blk_drew ?_ | refine blk_alloc ?_ _)); exact BK203.out)) : gb203 ≠ gb208)); have n11_ := Aside0.mk ((by rw [hg]; exact Nat.ne_of_gt (blk_lt (g := gb203) (o := .cells #[.int .i64 t194, .int .i64 t195, .int .i64 t196, .int .i64 t197, .int .i64 t198, .int .i64 t199] 24 (0, 0)) (by (with_reducible repeat (first | refine blk_drewN ?_ _ | refine blk_drew ?_ | refine blk_alloc ?_ _)); exact BK203.out)) : gb208 ≠ gb203)); have n12_ := Aside0.mk ((by rw [hg]; exact Nat.ne_of_lt (IsS54.lt (show IsS54 w _ g188 t186 x189001_1 from by repeat (first | (with_reducible first | exact HI188.out | apply IsS54.alloc | apply IsS54.drewN | apply IsS54.drew | apply IsS54.set_1 | refine IsS54.far ?_ NB188_185.out _ | refine IsS54.far ?_ NB188_203.out _) | exact HI188.out))) : g188 ≠ gb208)); have n13_ := Aside0.mk ((by rw [hg]; exact Nat.ne_of_gt (IsS54.lt (show IsS54 w _ g188 t186 x189001_1 from by repeat (first | (with_reducible first | exact HI188.out | apply IsS54.alloc | apply IsS54.drewN | apply IsS54.drew | apply IsS54.set_1 | refine IsS54.far ?_ NB188_185.out _ | refine IsS54.far ?_ NB188_203.out _) | exact HI188.out))) : gb208 ≠ g188)); clear HO_26; clear BK185; clear BK203; clear HI188; clear HB; have HO_26 := n0_; have BK185 := n1_; have BK203 := n2_; have HI188 := n3_; have HB := n4_; have BK208 := n5_; have GW208 := n6_; have GE208 := n7_; have NB185_208 := n8_; have NB208_185 := n9_; have NB203_208 := n10_; have NB208_203 := n11_; have NB188_208 := n12_; have NB208_188 := n13_; clear n0_ n1_ n2_ n3_ n4_ n5_ n6_ n7_ n8_ n9_ n10_ n11_ n12_ n13_; clear hb hbox hg; have hnb27 := NB208_185.out; have hnc27 := NB185_208.out; have hnb28 := NB208_203.out; have hnc28 := NB203_208.out; have hnb29 := NB208_188.out; have hnc29 := NB188_208.out; have hcz30_0 : w26.cell? ⟨gb208, 0, none⟩ = some (.int .i64 0) := (blk_cell BK208.out 0).trans rfl; have hcz30_1 : w26.cell? ⟨gb208, 1, none⟩ = some (.int .i64 0) := (blk_cell BK208.out 1).trans rfl; have hcz30_2 : w26.cell? ⟨gb208, 2, none⟩ = some (.int .i64 0) := (blk_cell BK208.out 2).trans rfl; have hcz30_3 : w26.cell? ⟨gb208, 3, none⟩ = some (.int .i64 0) := (blk_cell BK208.out 3).trans rfl; have hcz30_4 : w26.cell? ⟨gb208, 4, none⟩ = some (.int .i64 0) := (blk_cell BK208.out 4).trans rfl; have hcz30_5 : w26.cell? ⟨gb208, 5, none⟩ = some (.int .i64 0) := (blk_cell BK208.out 5).trans rfl; have hfz30_0 := blk_frozen BK208.out 0; have hfz30_1 := blk_frozen BK208.out 1; have hfz30_2 := blk_frozen BK208.out 2; have hfz30_3 := blk_frozen BK208.out 3; have hfz30_4 := blk_frozen BK208.out 4; have hfz30_5 := blk_frozen BK208.out 5) | ((with_reducible refine gate_callee (f := 9) rfl ?_); refine goesL_ (some 36) rfl rfl Try.func9 (by kernel_rfl) rfl #[.pointer (some ⟨g188, 0, none⟩), .int .i64 3] rfl (by (try simp only [List.map_toArray, List.map_cons, List.map_nil]); first | done | rfl | (simp only [List.length_drop, List.length_take]; rfl)) ?_; (with_reducible refine (kauditmill_Case_Int.calls g188 t186 x189001_1 3 t209 t210 w _ ?side1 ?side2 A22.out).mono ?_); (case side1 => repeat (first | (with_reducible first | exact HI188.out | apply IsS54.alloc | apply IsS54.drewN | apply IsS54.drew | apply IsS54.set_1 | refine IsS54.far ?_ NB188_185.out _ | refine IsS54.far ?_ NB188_203.out _ | refine IsS54.far ?_ NB188_208.out _) | exact HI188.out)); (case side2 => repeat (first | (with_reducible first | exact HB.out | apply below_alloc | apply pw_below_drewN | apply below_drew1 | refine below_set ?_ (IsS54.ge HI188.out) | refine below_set ?_ GE185.out | refine below_set ?_ GE203.out | refine below_set ?_ GE208.out) | exact HB.out)); rintro e w31 ⟨rfl, hi, hb, hk⟩; refine ⟨_, rfl, ?_⟩; have n0_ := Aside0.mk (Kd.R_mono (Kd.R_keep (IsS54.apart (show IsS54 w _ g188 t186 x189001_1 from by repeat (first | (with_reducible first | exact HI188.out | apply IsS54.alloc | apply IsS54.drewN | apply IsS54.drew | apply IsS54.set_1 | refine IsS54.far ?_ NB188_185.out _ | refine IsS54.far ?_ NB188_203.out _ | refine IsS54.far ?_ NB188_208.out _) | exact HI188.out)) (by (with_reducible repeat (first | apply Kd.R_alloc | apply Kd.R_drewN | apply Kd.R_drew)); exact (Kd.R_mono (Kd.R_far (p := ⟨gb208, 5, none⟩) (Kd.R_far (p := ⟨gb208, 4, none⟩) (Kd.R_far (p := ⟨gb208, 3, none⟩) (Kd.R_far (p := ⟨gb208, 2, none⟩) (Kd.R_far (p := ⟨gb208, 1, none⟩) (Kd.R_far (p := ⟨gb208, 0, none⟩) (Kd.R_mono HO_26.out (fun k_ hk => (⟨hk, hk.2⟩ : _ ∧ k_ ≠ gb208))) (fun _ hk => hk.2) (.int .i64 ((rd_T24 y204 x28_1).f0))) (fun _ hk => hk.2) (.int .i64 ((rd_T24 y204 x28_1).f1))) (fun _ hk => hk.2) (.int .i64 ((rd_T24 y204 x28_1).f2))) (fun _ hk => hk.2) (.int .i64 ((rd_T24 y204 x28_1).f3))) (fun _ hk => hk.2) (.int .i64 ((rd_T24 y204 x28_1).f4))) (fun _ hk => hk.2) (.int .i64 ((rd_T24 y204 x28_1).f5))) (fun _ h_ => h_.1))) (by decide)) hk (fun _ h => h.2)) (fun _ h => h.1)); have n1_ := Aside0.mk (KeepBut.blk hk (g' := gb185) (o := .cells #[.int .i64 a1_0, .int .i64 a1_1, .int .i64 a1_2, .int .i64 a1_3, .int .i64 a1_4, .int .i64 a1_5] 24 (0, 0)) (by (with_reducible repeat (first | refine blk_drewN ?_ _ | refine blk_drew ?_ | refine blk_alloc ?_ _)); refine blk_far ?_ NB185_208.out _; (with_reducible repeat (first | refine blk_drewN ?_ _ | refine blk_drew ?_ | refine blk_alloc ?_ _)); refine blk_far ?_ NB185_208.out _; (with_reducible repeat (first | refine blk_drewN ?_ _ | refine blk_drew ?_ | refine blk_alloc ?_ _)); refine blk_far ?_ NB185_208.out _; (with_reducible repeat (first | refine blk_drewN ?_ _ | refine blk_drew ?_ | refine blk_alloc ?_ _)); refine blk_far ?_ NB185_208.out _; (with_reducible repeat (first | refine blk_drewN ?_ _ | refine blk_drew ?_ | refine blk_alloc ?_ _)); refine blk_far ?_ NB185_208.out _; (with_reducible repeat (first | refine blk_drewN ?_ _ | refine blk_drew ?_ | refine blk_alloc ?_ _)); refine blk_far ?_ NB185_208.out _; (with_reducible repeat (first | refine blk_drewN ?_ _ | refine blk_drew ?_ | refine blk_alloc ?_ _)); exact BK185.out) NB185_188.out (by simp)); have n2_ := Aside0.mk (KeepBut.blk hk (g' := gb203) (o := .cells #[.int .i64 t194, .int .i64 t195, .int .i64 t196, .int .i64 t197, .int .i64 t198, .int .i64 t199] 24 (0, 0)) (by (with_reducible repeat (first | refine blk_drewN ?_ _ | refine blk_drew ?_ | refine blk_alloc ?_ _)); refine blk_far ?_ NB203_208.out _; (with_reducible repeat (first | refine blk_drewN ?_ _ | refine blk_drew ?_ | refine blk_alloc ?_ _)); refine blk_far ?_ NB203_208.out _; (with_reducible repeat (first | refine blk_drewN ?_ _ | refine blk_drew ?_ | refine blk_alloc ?_ _)); refine blk_far ?_ NB203_208.out _; (with_reducible repeat (first | refine blk_drewN ?_ _ | refine blk_drew ?_ | refine blk_alloc ?_ _)); refine blk_far ?_ NB203_208.out _; (with_reducible repeat (first | refine blk_drewN ?_ _ | refine blk_drew ?_ | refine blk_alloc ?_ _)); refine blk_far ?_ NB203_208.out _; (with_reducible repeat (first | refine blk_drewN ?_ _ | refine blk_drew ?_ | refine blk_alloc ?_ _)); refine blk_far ?_ NB203_208.out _; (with_reducible repeat (first | refine blk_drewN ?_ _ | refine blk_drew ?_ | refine blk_alloc ?_ _)); exact BK203.out) NB203_188.out (by simp)); have n3_ := Aside0.mk (KeepBut.blk hk (g' := gb208) (o := .cells #[.int .i64 ((rd_T24 y204 x28_1).f0), .int .i64 ((rd_T24 y204 x28_1).f1), .int .i64 ((rd_T24 y204 x28_1).f2), .int .i64 ((rd_T24 y204 x28_1).f3), .int .i64 ((rd_T24 y204 x28_1).f4), .int .i64 ((rd_T24 y204 x28_1).f5)] 24 (0, 0)) (by (with_reducible repeat (first | refine blk_drewN ?_ _ | refine blk_drew ?_ | refine blk_alloc ?_ _)); refine blk_put (cs := #[.int .i64 ((rd_T24 y204 x28_1).f0), .int .i64 ((rd_T24 y204 x28_1).f1), .int .i64 ((rd_T24 y204 x28_1).f2), .int .i64 ((rd_T24 y204 x28_1).f3), .int .i64 ((rd_T24 y204 x28_1).f4), .int .i64 0]) ?_ 5 _ rfl; (with_reducible repeat (first | refine blk_drewN ?_ _ | refine blk_drew ?_ | refine blk_alloc ?_ _)); refine blk_put (cs := #[.int .i64 ((rd_T24 y204 x28_1).f0), .int .i64 ((rd_T24 y204 x28_1).f1), .int .i64 ((rd_T24 y204 x28_1).f2), .int .i64 ((rd_T24 y204 x28_1).f3), .int .i64 0, .int .i64 0]) ?_ 4 _ rfl; (with_reducible repeat (first | refine blk_drewN ?_ _ | refine blk_drew ?_ | refine blk_alloc ?_ _)); refine blk_put (cs := #[.int .i64 ((rd_T24 y204 x28_1).f0), .int .i64 ((rd_T24 y204 x28_1).f1), .int .i64 ((rd_T24 y204 x28_1).f2), .int .i64 0, .int .i64 0, .int .i64 0]) ?_ 3 _ rfl; (with_reducible repeat (first | refine blk_drewN ?_ _ | refine blk_drew ?_ | refine blk_alloc ?_ _)); refine blk_put (cs := #[.int .i64 ((rd_T24 y204 x28_1).f0), .int .i64 ((rd_T24 y204 x28_1).f1), .int .i64 0, .int .i64 0, .int .i64 0, .int .i64 0]) ?_ 2 _ rfl; (with_reducible repeat (first | refine blk_drewN ?_ _ | refine blk_drew ?_ | refine blk_alloc ?_ _)); refine blk_put (cs := #[.int .i64 ((rd_T24 y204 x28_1).f0), .int .i64 0, .int .i64 0, .int .i64 0, .int .i64 0, .int .i64 0]) ?_ 1 _ rfl; (with_reducible repeat (first | refine blk_drewN ?_ _ | refine blk_drew ?_ | refine blk_alloc ?_ _)); refine blk_put (cs := #[.int .i64 0, .int .i64 0, .int .i64 0, .int .i64 0, .int .i64 0, .int .i64 0]) ?_ 0 _ rfl; (with_reducible repeat (first | refine blk_drewN ?_ _ | refine blk_drew ?_ | refine blk_alloc ?_ _)); exact BK208.out) NB208_188.out (by simp)); have n4_ := Aside0.mk (hb); have n5_ := Aside0.mk (hi); clear HO_26; clear BK185; clear BK203; clear BK208; clear HB; clear HI188; have HO_26 := n0_; have BK185 := n1_; have BK203 := n2_; have BK208 := n3_; have HB := n4_; have HI188 := n5_; clear n0_ n1_ n2_ n3_ n4_ n5_; (try clear hb); (try clear hb2); (try clear hk); (try clear hi)) | ((with_reducible refine gate_dst (N := 38) rfl ?_); refine Kd.R_lit (Kd.int .i64) _ 3 ?hg (N := 38) ?hd (xs := ([0, 149, 150, 299, 300, 450, 899, 900, 2000] : List Int)) (inner := [.int .i64 0, .int .i64 149, .int .i64 150, .int .i64 299, .int .i64 300, .int .i64 450, .int .i64 899, .int .i64 900, .int .i64 2000]) (ok := fun _ => True) (okp := fun _ => True) ?hr ?hp (fun _ hk => hk) trivial (Below.refl _ _) (Nat.le_refl _) (by simp) ?_; (case hd => rfl); (case hg => rfl); (case hr => first | (go_simp; done) | (go_simp; rfl)); (case hp => exact (Reps.one (show Kd.M (Kd.int .i64) _ _ _ 0 [.int .i64 0] from rfl) (Reps.one (show Kd.M (Kd.int .i64) _ _ _ 149 [.int .i64 149] from rfl) (Reps.one (show Kd.M (Kd.int .i64) _ _ _ 150 [.int .i64 150] from rfl) (Reps.one (show Kd.M (Kd.int .i64) _ _ _ 299 [.int .i64 299] from rfl) (Reps.one (show Kd.M (Kd.int .i64) _ _ _ 300 [.int .i64 300] from rfl) (Reps.one (show Kd.M (Kd.int .i64) _ _ _ 450 [.int .i64 450] from rfl) (Reps.one (show Kd.M (Kd.int .i64) _ _ _ 899 [.int .i64 899] from rfl) (Reps.one (show Kd.M (Kd.int .i64) _ _ _ 900 [.int .i64 900] from rfl) (Reps.one (show Kd.M (Kd.int .i64) _ _ _ 2000 [.int .i64 2000] from rfl) (Reps.none _ _))))))))))); intro v212 w32 ho33 hb hg_ hnew_; clear hg_ hnew_; (first | rw [← Ny211.out] at ho33 | (simp only [Int.reduceToNat] at ho33; rw [← Ny211.out] at ho33)); have n0_ := Aside0.mk (Kd.R_below (by (with_reducible repeat (first | apply Kd.R_alloc | apply Kd.R_drewN | apply Kd.R_drew)); exact HO_26.out) hb); have n1_ := Aside0.mk (Kd.R_lower ho33 (below_size (by repeat (first | (with_reducible first | exact HB.out | apply below_alloc | apply pw_below_drewN | apply below_drew1 | refine below_set ?_ (IsS54.ge HI188.out) | refine below_set ?_ GE185.out | refine below_set ?_ GE203.out | refine below_set ?_ GE208.out) | exact HB.out)))); have n2_ := Aside0.mk (blk_below (g := gb185) (o := .cells #[.int .i64 a1_0, .int .i64 a1_1, .int .i64 a1_2, .int .i64 a1_3, .int .i64 a1_4, .int .i64 a1_5] 24 (0, 0)) (by (with_reducible repeat (first | refine blk_drewN ?_ _ | refine blk_drew ?_ | refine blk_alloc ?_ _)); exact BK185.out) hb); have n3_ := Aside0.mk (blk_below (g := gb203) (o := .cells #[.int .i64 t194, .int .i64 t195, .int .i64 t196, .int .i64 t197, .int .i64 t198, .int .i64 t199] 24 (0, 0)) (by (with_reducible repeat (first | refine blk_drewN ?_ _ | refine blk_drew ?_ | refine blk_alloc ?_ _)); exact BK203.out) hb); have n4_ := Aside0.mk (IsS54.below (by repeat (first | (with_reducible first | exact HI188.out | apply IsS54.alloc | apply IsS54.drewN | apply IsS54.drew | apply IsS54.set_1 | refine IsS54.far ?_ NB188_185.out _ | refine IsS54.far ?_ NB188_203.out _ | refine IsS54.far ?_ NB188_208.out _) | exact HI188.out)) hb); have n5_ := Aside0.mk (blk_below (g := gb208) (o := .cells #[.int .i64 ((rd_T24 y204 x28_1).f0), .int .i64 ((rd_T24 y204 x28_1).f1), .int .i64 ((rd_T24 y204 x28_1).f2), .int .i64 ((rd_T24 y204 x28_1).f3), .int .i64 ((rd_T24 y204 x28_1).f4), .int .i64 ((rd_T24 y204 x28_1).f5)] 24 (0, 0)) (by (with_reducible repeat (first | refine blk_drewN ?_ _ | refine blk_drew ?_ | refine blk_alloc ?_ _)); exact BK208.out) hb); have n6_ := Aside0.mk (below_step (by repeat (first | (with_reducible first | exact HB.out | apply below_alloc | apply pw_below_drewN | apply below_drew1 | refine below_set ?_ (IsS54.ge HI188.out) | refine below_set ?_ GE185.out | refine below_set ?_ GE203.out | refine below_set ?_ GE208.out) | exact HB.out)) hb); clear HO_26; clear BK185; clear BK203; clear HI188; clear BK208; clear HB; have HO_26 := n0_; have HO213 := n1_; have BK185 := n2_; have BK203 := n3_; have HI188 := n4_; have BK208 := n5_; have HB := n6_; clear n0_ n1_ n2_ n3_ n4_ n5_ n6_; clear hb ho33; obtain ⟨Ao34, co34, eo34⟩ := Kd.R_slice HO213.out; subst eo34) | ((with_reducible refine gate_callee (f := 10) rfl ?_); refine goesL_ (some 39) rfl rfl Try.func10 (by kernel_rfl) rfl #[.pointer (some ⟨g188, 0, none⟩), .slice Ao34 y211.length co34] rfl (by (try simp only [List.map_toArray, List.map_cons, List.map_nil]); first | done | rfl | (simp only [List.length_drop, List.length_take]; rfl)) ?_; (with_reducible refine (kauditmill_Case_Pick.calls g188 t186 t210 _ _ y211 t214 t215 w _ ?side1 ?side2 ?side3 ?side4 ?side5 A23.out).mono ?_); (case side1 => repeat (first | (with_reducible first | exact HI188.out | apply IsS54.alloc | apply IsS54.drewN | apply IsS54.drew | apply IsS54.set_1 | refine IsS54.far ?_ NB188_185.out _ | refine IsS54.far ?_ NB188_203.out _ | refine IsS54.far ?_ NB188_208.out _) | exact HI188.out)); (case side2 => repeat (first | (with_reducible first | exact HB.out | apply below_alloc | apply pw_below_drewN | apply below_drew1 | refine below_set ?_ (IsS54.ge HI188.out) | refine below_set ?_ GE185.out | refine below_set ?_ GE203.out | refine below_set ?_ GE208.out) | exact HB.out)); (case side3 => repeat (first | exact (Kd.R_reads' HO213.out).2.2 | (with_reducible refine Kd.C_alloc ?_ _) | (with_reducible refine Kd.C_drewN ?_ _) | (with_reducible refine Kd.C_drew ?_))); (case side4 => exact (Kd.R_reads' HO213.out).2.1); (case side5 => exact far_slice (IsS54.own_ne HI188.out HO213.out (by decide))); rintro e w35 ⟨rfl, hi, hb, hk⟩; refine ⟨_, rfl, ?_⟩; have n0_ := Aside0.mk (Kd.R_mono (Kd.R_keep (IsS54.apart (show IsS54 w _ g188 t186 t210 from by repeat (first | (with_reducible first | exact HI188.out | apply IsS54.alloc | apply IsS54.drewN | apply IsS54.drew | apply IsS54.set_1 | refine IsS54.far ?_ NB188_185.out _ | refine IsS54.far ?_ NB188_203.out _ | refine IsS54.far ?_ NB188_208.out _) | exact HI188.out)) (by (with_reducible repeat (first | apply Kd.R_alloc | apply Kd.R_drewN | apply Kd.R_drew)); exact HO_26.out) (by decide)) hk (fun _ h => h.2)) (fun _ h => h.1)); have n1_ := Aside0.mk (KeepBut.blk hk (g' := gb185) (o := .cells #[.int .i64 a1_0, .int .i64 a1_1, .int .i64 a1_2, .int .i64 a1_3, .int .i64 a1_4, .int .i64 a1_5] 24 (0, 0)) (by (with_reducible repeat (first | refine blk_drewN ?_ _ | refine blk_drew ?_ | refine blk_alloc ?_ _)); exact BK185.out) NB185_188.out (by simp)); have n2_ := Aside0.mk (KeepBut.blk hk (g' := gb203) (o := .cells #[.int .i64 t194, .int .i64 t195, .int .i64 t196, .int .i64 t197, .int .i64 t198, .int .i64 t199] 24 (0, 0)) (by (with_reducible repeat (first | refine blk_drewN ?_ _ | refine blk_drew ?_ | refine blk_alloc ?_ _)); exact BK203.out) NB203_188.out (by simp)); have n3_ := Aside0.mk (KeepBut.blk hk (g' := gb208) (o := .cells #[.int .i64 ((rd_T24 y204 x28_1).f0), .int .i64 ((rd_T24 y204 x28_1).f1), .int .i64 ((rd_T24 y204 x28_1).f2), .int .i64 ((rd_T24 y204 x28_1).f3), .int .i64 ((rd_T24 y204 x28_1).f4), .int .i64 ((rd_T24 y204 x28_1).f5)] 24 (0, 0)) (by (with_reducible repeat (first | refine blk_drewN ?_ _ | refine blk_drew ?_ | refine blk_alloc ?_ _)); exact BK208.out) NB208_188.out (by simp)); have n4_ := Aside0.mk (Kd.R_mono (Kd.R_keep (IsS54.apart (show IsS54 w _ g188 t186 t210 from by repeat (first | (with_reducible first | exact HI188.out | apply IsS54.alloc | apply IsS54.drewN | apply IsS54.drew | apply IsS54.set_1 | refine IsS54.far ?_ NB188_185.out _ | refine IsS54.far ?_ NB188_203.out _ | refine IsS54.far ?_ NB188_208.out _) | exact HI188.out)) (by (with_reducible repeat (first | apply Kd.R_alloc | apply Kd.R_drewN | apply Kd.R_drew)); exact HO213.out) (by decide)) hk (fun _ h => h.2)) (fun _ h => h.1)); have n5_ := Aside0.mk (hb); have n6_ := Aside0.mk (hi); clear HO_26; clear BK185; clear BK203; clear BK208; clear HO213; clear HB; clear HI188; have HO_26 := n0_; have BK185 := n1_; have BK203 := n2_; have BK208 := n3_; have HO213 := n4_; have HB := n5_; have HI188 := n6_; clear n0_ n1_ n2_ n3_ n4_ n5_ n6_; (try clear hb); (try clear hb2); (try clear hk); (try clear hi)) | ((with_reducible refine gate_callee (f := 9) rfl ?_); refine goesL_ (some 43) rfl rfl Try.func9 (by kernel_rfl) rfl #[.pointer (some ⟨g188, 0, none⟩), .int .i64 256] rfl (by (try simp only [List.map_toArray, List.map_cons, List.map_nil]); first | done | rfl | (simp only [List.length_drop, List.length_take]; rfl)) ?_; (with_reducible refine (kauditmill_Case_Int.calls g188 t186 t215 256 t216 t217 w _ ?side1 ?side2 A24.out).mono ?_); (case side1 => repeat (first | (with_reducible first | exact HI188.out | apply IsS54.alloc | apply IsS54.drewN | apply IsS54.drew | apply IsS54.set_1 | refine IsS54.far ?_ NB188_185.out _ | refine IsS54.far ?_ NB188_203.out _ | refine IsS54.far ?_ NB188_208.out _) | exact HI188.out)); (case side2 => repeat (first | (with_reducible first | exact HB.out | apply below_alloc | apply pw_below_drewN | apply below_drew1 | refine below_set ?_ (IsS54.ge HI188.out) | refine below_set ?_ GE185.out | refine below_set ?_ GE203.out | refine below_set ?_ GE208.out) | exact HB.out)); rintro e w36 ⟨rfl, hi, hb, hk⟩; refine ⟨_, rfl, ?_⟩; have n0_ := Aside0.mk (Kd.R_mono (Kd.R_keep (IsS54.apart (show IsS54 w _ g188 t186 t215 from by repeat (first | (with_reducible first | exact HI188.out | apply IsS54.alloc | apply IsS54.drewN | apply IsS54.drew | apply IsS54.set_1 | refine IsS54.far ?_ NB188_185.out _ | refine IsS54.far ?_ NB188_203.out _ | refine IsS54.far ?_ NB188_208.out _) | exact HI188.out)) (by (with_reducible repeat (first | apply Kd.R_alloc | apply Kd.R_drewN | apply Kd.R_drew)); exact HO_26.out) (by decide)) hk (fun _ h => h.2)) (fun _ h => h.1)); have n1_ := Aside0.mk (KeepBut.blk hk (g' := gb185) (o := .cells #[.int .i64 a1_0, .int .i64 a1_1, .int .i64 a1_2, .int .i64 a1_3, .int .i64 a1_4, .int .i64 a1_5] 24 (0, 0)) (by (with_reducible repeat (first | refine blk_drewN ?_ _ | refine blk_drew ?_ | refine blk_alloc ?_ _)); exact BK185.out) NB185_188.out (by simp)); have n2_ := Aside0.mk (KeepBut.blk hk (g' := gb203) (o := .cells #[.int .i64 t194, .int .i64 t195, .int .i64 t196, .int .i64 t197, .int .i64 t198, .int .i64 t199] 24 (0, 0)) (by (with_reducible repeat (first | refine blk_drewN ?_ _ | refine blk_drew ?_ | refine blk_alloc ?_ _)); exact BK203.out) NB203_188.out (by simp)); have n3_ := Aside0.mk (KeepBut.blk hk (g' := gb208) (o := .cells #[.int .i64 ((rd_T24 y204 x28_1).f0), .int .i64 ((rd_T24 y204 x28_1).f1), .int .i64 ((rd_T24 y204 x28_1).f2), .int .i64 ((rd_T24 y204 x28_1).f3), .int .i64 ((rd_T24 y204 x28_1).f4), .int .i64 ((rd_T24 y204 x28_1).f5)] 24 (0, 0)) (by (with_reducible repeat (first | refine blk_drewN ?_ _ | refine blk_drew ?_ | refine blk_alloc ?_ _)); exact BK208.out) NB208_188.out (by simp)); have n4_ := Aside0.mk (Kd.R_mono (Kd.R_keep (IsS54.apart (show IsS54 w _ g188 t186 t215 from by repeat (first | (with_reducible first | exact HI188.out | apply IsS54.alloc | apply IsS54.drewN | apply IsS54.drew | apply IsS54.set_1 | refine IsS54.far ?_ NB188_185.out _ | refine IsS54.far ?_ NB188_203.out _ | refine IsS54.far ?_ NB188_208.out _) | exact HI188.out)) (by (with_reducible repeat (first | apply Kd.R_alloc | apply Kd.R_drewN | apply Kd.R_drew)); exact HO213.out) (by decide)) hk (fun _ h => h.2)) (fun _ h => h.1)); have n5_ := Aside0.mk (hb); have n6_ := Aside0.mk (hi); clear HO_26; clear BK185; clear BK203; clear BK208; clear HO213; clear HB; clear HI188; have HO_26 := n0_; have BK185 := n1_; have BK203 := n2_; have BK208 := n3_; have HO213 := n4_; have HB := n5_; have HI188 := n6_; clear n0_ n1_ n2_ n3_ n4_ n5_ n6_; (try clear hb); (try clear hb2); (try clear hk); (try clear hi)) | ((with_reducible refine gate_callee (f := 9) rfl ?_); refine goesL_ (some 46) rfl rfl Try.func9 (by kernel_rfl) rfl #[.pointer (some ⟨g188, 0, none⟩), .int .i64 4] rfl (by (try simp only [List.map_toArray, List.map_cons, List.map_nil]); first | done | rfl | (simp only [List.length_drop, List.length_take]; rfl)) ?_; (with_reducible refine (kauditmill_Case_Int.calls g188 t186 t217 4 t218 t219 w _ ?side1 ?side2 A25.out).mono ?_); (case side1 => repeat (first | (with_reducible first | exact HI188.out | apply IsS54.alloc | apply IsS54.drewN | apply IsS54.drew | apply IsS54.set_1 | refine IsS54.far ?_ NB188_185.out _ | refine IsS54.far ?_ NB188_203.out _ | refine IsS54.far ?_ NB188_208.out _) | exact HI188.out)); (case side2 => repeat (first | (with_reducible first | exact HB.out | apply below_alloc | apply pw_below_drewN | apply below_drew1 | refine below_set ?_ (IsS54.ge HI188.out) | refine below_set ?_ GE185.out | refine below_set ?_ GE203.out | refine below_set ?_ GE208.out) | exact HB.out)); rintro e w37 ⟨rfl, hi, hb, hk⟩; refine ⟨_, rfl, ?_⟩; have n0_ := Aside0.mk (Kd.R_mono (Kd.R_keep (IsS54.apart (show IsS54 w _ g188 t186 t217 from by repeat (first | (with_reducible first | exact HI188.out | apply IsS54.alloc | apply IsS54.drewN | apply IsS54.drew | apply IsS54.set_1 | refine IsS54.far ?_ NB188_185.out _ | refine IsS54.far ?_ NB188_203.out _ | refine IsS54.far ?_ NB188_208.out _) | exact HI188.out)) (by (with_reducible repeat (first | apply Kd.R_alloc | apply Kd.R_drewN | apply Kd.R_drew)); exact HO_26.out) (by decide)) hk (fun _ h => h.2)) (fun _ h => h.1)); have n1_ := Aside0.mk (KeepBut.blk hk (g' := gb185) (o := .cells #[.int .i64 a1_0, .int .i64 a1_1, .int .i64 a1_2, .int .i64 a1_3, .int .i64 a1_4, .int .i64 a1_5] 24 (0, 0)) (by (with_reducible repeat (first | refine blk_drewN ?_ _ | refine blk_drew ?_ | refine blk_alloc ?_ _)); exact BK185.out) NB185_188.out (by simp)); have n2_ := Aside0.mk (KeepBut.blk hk (g' := gb203) (o := .cells #[.int .i64 t194, .int .i64 t195, .int .i64 t196, .int .i64 t197, .int .i64 t198, .int .i64 t199] 24 (0, 0)) (by (with_reducible repeat (first | refine blk_drewN ?_ _ | refine blk_drew ?_ | refine blk_alloc ?_ _)); exact BK203.out) NB203_188.out (by simp)); have n3_ := Aside0.mk (KeepBut.blk hk (g' := gb208) (o := .cells #[.int .i64 ((rd_T24 y204 x28_1).f0), .int .i64 ((rd_T24 y204 x28_1).f1), .int .i64 ((rd_T24 y204 x28_1).f2), .int .i64 ((rd_T24 y204 x28_1).f3), .int .i64 ((rd_T24 y204 x28_1).f4), .int .i64 ((rd_T24 y204 x28_1).f5)] 24 (0, 0)) (by (with_reducible repeat (first | refine blk_drewN ?_ _ | refine blk_drew ?_ | refine blk_alloc ?_ _)); exact BK208.out) NB208_188.out (by simp)); have n4_ := Aside0.mk (Kd.R_mono (Kd.R_keep (IsS54.apart (show IsS54 w _ g188 t186 t217 from by repeat (first | (with_reducible first | exact HI188.out | apply IsS54.alloc | apply IsS54.drewN | apply IsS54.drew | apply IsS54.set_1 | refine IsS54.far ?_ NB188_185.out _ | refine IsS54.far ?_ NB188_203.out _ | refine IsS54.far ?_ NB188_208.out _) | exact HI188.out)) (by (with_reducible repeat (first | apply Kd.R_alloc | apply Kd.R_drewN | apply Kd.R_drew)); exact HO213.out) (by decide)) hk (fun _ h => h.2)) (fun _ h => h.1)); have n5_ := Aside0.mk (hb); have n6_ := Aside0.mk (hi); clear HO_26; clear BK185; clear BK203; clear BK208; clear HO213; clear HB; clear HI188; have HO_26 := n0_; have BK185 := n1_; have BK203 := n2_; have BK208 := n3_; have HO213 := n4_; have HB := n5_; have HI188 := n6_; clear n0_ n1_ n2_ n3_ n4_ n5_ n6_; (try clear hb); (try clear hb2); (try clear hk); (try clear hi)) | ((with_reducible refine gate_dst (N := 50) rfl ?_); refine Kd.R_lit k38 _ 38 ?hg (N := 50) ?hd (xs := ([(⟨a2, a3⟩ : S38), (⟨t209, t214⟩ : S38), (⟨a2, t216⟩ : S38), (⟨wrap64 (t218 - 1), a3⟩ : S38)] : List (S38))) (inner := [.int .i64 a2, .int .i64 a3, .int .i64 t209, .int .i64 t214, .int .i64 a2, .int .i64 t216, .int .i64 (wrap64 (t218 - 1)), .int .i64 a3]) (ok := fun _ => True) (okp := fun _ => True) ?hr ?hp (fun _ hk => hk) trivial (Below.refl _ _) (Nat.le_refl _) (by simp) ?_; (case hd => rfl); (case hg => rfl); (case hr => first | (go_simp; done) | (go_simp; rfl)); (case hp => exact (Reps.c2 (show Kd.M k38 _ _ _ (⟨a2, a3⟩ : S38) [.int .i64 a2, .int .i64 a3] from (k38_mkM _ _ _ (⟨a2, a3⟩ : S38) )) (Reps.c2 (show Kd.M k38 _ _ _ (⟨t209, t214⟩ : S38) [.int .i64 t209, .int .i64 t214] from (k38_mkM _ _ _ (⟨t209, t214⟩ : S38) )) (Reps.c2 (show Kd.M k38 _ _ _ (⟨a2, t216⟩ : S38) [.int .i64 a2, .int .i64 t216] from (k38_mkM _ _ _ (⟨a2, t216⟩ : S38) )) (Reps.c2 (show Kd.M k38 _ _ _ (⟨wrap64 (t218 - 1), a3⟩ : S38) [.int .i64 (wrap64 (t218 - 1)), .int .i64 a3] from (k38_mkM _ _ _ (⟨wrap64 (t218 - 1), a3⟩ : S38) )) (Reps.none _ _)))))); intro v221 w38 ho39 hb hg_ hnew_; clear hg_ hnew_; (first | rw [← Ny220.out] at ho39 | (simp only [Int.reduceToNat] at ho39; rw [← Ny220.out] at ho39)); have n0_ := Aside0.mk (Kd.R_below (by (with_reducible repeat (first | apply Kd.R_alloc | apply Kd.R_drewN | apply Kd.R_drew)); exact HO_26.out) hb); have n1_ := Aside0.mk (Kd.R_below (by (with_reducible repeat (first | apply Kd.R_alloc | apply Kd.R_drewN | apply Kd.R_drew)); exact HO213.out) hb); have n2_ := Aside0.mk (Kd.R_lower ho39 (below_size (by repeat (first | (with_reducible first | exact HB.out | apply below_alloc | apply pw_below_drewN | apply below_drew1 | refine below_set ?_ (IsS54.ge HI188.out) | refine below_set ?_ GE185.out | refine below_set ?_ GE203.out | refine below_set ?_ GE208.out) | exact HB.out)))); have n3_ := Aside0.mk (blk_below (g := gb185) (o := .cells #[.int .i64 a1_0, .int .i64 a1_1, .int .i64 a1_2, .int .i64 a1_3, .int .i64 a1_4, .int .i64 a1_5] 24 (0, 0)) (by (with_reducible repeat (first | refine blk_drewN ?_ _ | refine blk_drew ?_ | refine blk_alloc ?_ _)); exact BK185.out) hb); have n4_ := Aside0.mk (blk_below (g := gb203) (o := .cells #[.int .i64 t194, .int .i64 t195, .int .i64 t196, .int .i64 t197, .int .i64 t198, .int .i64 t199] 24 (0, 0)) (by (with_reducible repeat (first | refine blk_drewN ?_ _ | refine blk_drew ?_ | refine blk_alloc ?_ _)); exact BK203.out) hb); have n5_ := Aside0.mk (IsS54.below (by repeat (first | (with_reducible first | exact HI188.out | apply IsS54.alloc | apply IsS54.drewN | apply IsS54.drew | apply IsS54.set_1 | refine IsS54.far ?_ NB188_185.out _ | refine IsS54.far ?_ NB188_203.out _ | refine IsS54.far ?_ NB188_208.out _) | exact HI188.out)) hb); have n6_ := Aside0.mk (blk_below (g := gb208) (o := .cells #[.int .i64 ((rd_T24 y204 x28_1).f0), .int .i64 ((rd_T24 y204 x28_1).f1), .int .i64 ((rd_T24 y204 x28_1).f2), .int .i64 ((rd_T24 y204 x28_1).f3), .int .i64 ((rd_T24 y204 x28_1).f4), .int .i64 ((rd_T24 y204 x28_1).f5)] 24 (0, 0)) (by (with_reducible repeat (first | refine blk_drewN ?_ _ | refine blk_drew ?_ | refine blk_alloc ?_ _)); exact BK208.out) hb); have n7_ := Aside0.mk (below_step (by repeat (first | (with_reducible first | exact HB.out | apply below_alloc | apply pw_below_drewN | apply below_drew1 | refine below_set ?_ (IsS54.ge HI188.out) | refine below_set ?_ GE185.out | refine below_set ?_ GE203.out | refine below_set ?_ GE208.out) | exact HB.out)) hb); clear HO_26; clear HO213; clear BK185; clear BK203; clear HI188; clear BK208; clear HB; have HO_26 := n0_; have HO213 := n1_; have HO222 := n2_; have BK185 := n3_; have BK203 := n4_; have HI188 := n5_; have BK208 := n6_; have HB := n7_; clear n0_ n1_ n2_ n3_ n4_ n5_ n6_ n7_; clear hb ho39; obtain ⟨Ao40, co40, eo40⟩ := Kd.R_slice HO222.out; subst eo40))
            go_loopg [52] k1 (fun kq v52 w' => ∃ (x52_2 : Int), v52 = .int .i64 x52_2 ∧ Aside0 (looks.l1 kq a2 a3 y204 (y204.length : Int) x28_1 y220 (y220.length : Int) x52_2 a1_0 a1_1 a1_2 a1_3 a1_4 a1_5 t186 t219 t194 t195 t196 t197 t198 t199 ((rd_T24 y204 x28_1).f0) ((rd_T24 y204 x28_1).f1) ((rd_T24 y204 x28_1).f2) ((rd_T24 y204 x28_1).f3) ((rd_T24 y204 x28_1).f4) ((rd_T24 y204 x28_1).f5) = some r) ∧ Aside0 (kq ≤ k1) ∧ Aside0 (Kd.R k24 24 w' w.heap.size (fun k_ => k_ ≠ gb185 ∧ k_ ≠ gb203 ∧ k_ ≠ gb208) (.slice (some ad207) y204.length co18) y204) ∧ Aside0 (Kd.R k38 38 w' w.heap.size (fun _ => True) (.slice Ao40 y220.length co40) y220) ∧ Aside0 (w'.heap[gb185]? = some (.cells #[.int .i64 a1_0, .int .i64 a1_1, .int .i64 a1_2, .int .i64 a1_3, .int .i64 a1_4, .int .i64 a1_5] 24 (0, 0))) ∧ Aside0 (w'.heap[gb203]? = some (.cells #[.int .i64 t194, .int .i64 t195, .int .i64 t196, .int .i64 t197, .int .i64 t198, .int .i64 t199] 24 (0, 0))) ∧ Aside0 (w'.heap[gb208]? = some (.cells #[.int .i64 ((rd_T24 y204 x28_1).f0), .int .i64 ((rd_T24 y204 x28_1).f1), .int .i64 ((rd_T24 y204 x28_1).f2), .int .i64 ((rd_T24 y204 x28_1).f3), .int .i64 ((rd_T24 y204 x28_1).f4), .int .i64 ((rd_T24 y204 x28_1).f5)] 24 (0, 0))) ∧ Aside0 (IsS54 w w' g188 t186 t219) ∧ Aside0 (Below w.heap.size w w'))
            case atStart => exact ⟨(0), (by first | rfl | (simp; done) | (simp [*]; done)), H', ⟨Nat.le_refl _⟩, ⟨by (with_reducible repeat (first | apply Kd.R_alloc | apply Kd.R_drewN | apply Kd.R_drew)); exact Kd.R_mono HO_26.out (fun _ hk => ⟨hk.1.1, ⟨hk.1.2, hk.2⟩⟩)⟩, ⟨by (with_reducible repeat (first | apply Kd.R_alloc | apply Kd.R_drewN | apply Kd.R_drew)); exact HO222.out⟩, ⟨by (with_reducible repeat (first | refine blk_drewN ?_ _ | refine blk_drew ?_ | refine blk_alloc ?_ _)); exact BK185.out⟩, ⟨by (with_reducible repeat (first | refine blk_drewN ?_ _ | refine blk_drew ?_ | refine blk_alloc ?_ _)); exact BK203.out⟩, ⟨by (with_reducible repeat (first | refine blk_drewN ?_ _ | refine blk_drew ?_ | refine blk_alloc ?_ _)); exact BK208.out⟩, ⟨by repeat (first | (with_reducible first | exact HI188.out | apply IsS54.alloc | apply IsS54.drewN | apply IsS54.drew | apply IsS54.set_1 | refine IsS54.far ?_ NB188_185.out _ | refine IsS54.far ?_ NB188_203.out _ | refine IsS54.far ?_ NB188_208.out _) | exact HI188.out)⟩, ⟨by repeat (first | (with_reducible first | exact HB.out | apply below_alloc | apply pw_below_drewN | apply below_drew1 | refine below_set ?_ (IsS54.ge HI188.out) | refine below_set ?_ GE185.out | refine below_set ?_ GE203.out | refine below_set ?_ GE208.out) | exact HB.out)⟩⟩
            case round =>
              clear H'
              try clear c1
              try clear c2
              try clear p2
              try clear q2
              try clear hx2
              try clear c3
              try clear c6
              try clear p6
              try clear c7
              try clear c8
              try clear c9
              try clear c10
              try clear c11
              try clear c12
              try clear c14
              try clear c19
              try clear c19b0
              try clear c20
              try clear c20b0
              try clear p20
              try clear q20
              try clear hx20
              try clear c21
              try clear c21b0
              try clear c27
              try clear c28
              try clear c29
              try clear hcz13_0
              try clear hcz13_1
              try clear hcz13_2
              try clear hcz13_3
              try clear hcz13_4
              try clear hcz13_5
              try clear hcz15_0
              try clear hcz15_1
              try clear hcz15_2
              try clear hcz15_3
              try clear hcz15_4
              try clear hcz15_5
              try clear hcz30_0
              try clear hcz30_1
              try clear hcz30_2
              try clear hcz30_3
              try clear hcz30_4
              try clear hcz30_5
              try clear hfz13_0
              try clear hfz13_1
              try clear hfz13_2
              try clear hfz13_3
              try clear hfz13_4
              try clear hfz13_5
              try clear hfz15_0
              try clear hfz15_1
              try clear hfz15_2
              try clear hfz15_3
              try clear hfz15_4
              try clear hfz15_5
              try clear hfz30_0
              try clear hfz30_1
              try clear hfz30_2
              try clear hfz30_3
              try clear hfz30_4
              try clear hfz30_5
              try clear hx207_0
              try clear hx207_1
              try clear hx207_2
              try clear hx207_3
              try clear hx207_4
              try clear hx207_5
              try clear p2
              try clear p207
              try clear q207
              obtain ⟨x52_2, rfl, HA, HK2, HO_26, HO_50, BK185, BK203, BK208, HI188, HB⟩ := hrel
              cases gk with
              | zero => exact absurd HA.out (by simp [looks.l1])
              | succ k2 =>
                have H := HA.out
                clear HA
                simp only [looks.l1] at H
                by_cases c41 : x52_2 < (y220.length : Int)
                · rw [if_pos c41] at H
                  have c41b0 : decide (x52_2 < (y220.length : Int)) = true := decide_eq_true c41
                  clear c41
                  by_cases c42 : 0 ≤ x52_2
                  · rw [if_pos c42] at H
                    have c42b0 : decide (0 ≤ x52_2) = true := decide_eq_true c42
                    clear c42
                    by_cases c43 : x52_2 < (y220.length : Int)
                    · rw [if_pos c43] at H
                      have c43b0 : decide (x52_2 < (y220.length : Int)) = true := decide_eq_true c43
                      clear c43
                      replace H := Option.bind_eq_some_iff.mp H
                      obtain ⟨⟨t225, t226⟩, A440, H⟩ := H
                      replace H : ((kauditref26_Look.f k2 ((rd_T24 y204 x28_1).f0) ((rd_T24 y204 x28_1).f1) ((rd_T24 y204 x28_1).f2) ((rd_T24 y204 x28_1).f3) ((rd_T24 y204 x28_1).f4) ((rd_T24 y204 x28_1).f5) ((rd_T38 y220 x52_2).f0) ((rd_T38 y220 x52_2).f1)).bind fun bt227 => (if t225 = bt227.1 then (if t226 = bt227.2 then ((space_Level.f ((rd_T24 y204 x28_1).f0) ((rd_T24 y204 x28_1).f1) ((rd_T24 y204 x28_1).f2) ((rd_T24 y204 x28_1).f3) ((rd_T24 y204 x28_1).f4) ((rd_T24 y204 x28_1).f5) ((rd_T38 y220 x52_2).f1)).bind fun t229 => ((kauditref26_Level.f k2 ((rd_T24 y204 x28_1).f0) ((rd_T24 y204 x28_1).f1) ((rd_T24 y204 x28_1).f2) ((rd_T24 y204 x28_1).f3) ((rd_T24 y204 x28_1).f4) ((rd_T24 y204 x28_1).f5) ((rd_T38 y220 x52_2).f1)).bind fun t230 => (if t229 = t230 then (looks.l1 k2 a2 a3 y204 (y204.length : Int) x28_1 y220 (y220.length : Int) (wrap64 (x52_2 + 1)) a1_0 a1_1 a1_2 a1_3 a1_4 a1_5 t186 t219 t194 t195 t196 t197 t198 t199 ((rd_T24 y204 x28_1).f0) ((rd_T24 y204 x28_1).f1) ((rd_T24 y204 x28_1).f2) ((rd_T24 y204 x28_1).f3) ((rd_T24 y204 x28_1).f4) ((rd_T24 y204 x28_1).f5)) else (some false)))) else (some false)) else (some false))) = some r := H
                      have A44 := Aside0.mk A440
                      clear A440
                      replace H := Option.bind_eq_some_iff.mp H
                      obtain ⟨⟨t227, t228⟩, A450, H⟩ := H
                      replace H : (if t225 = t227 then (if t226 = t228 then ((space_Level.f ((rd_T24 y204 x28_1).f0) ((rd_T24 y204 x28_1).f1) ((rd_T24 y204 x28_1).f2) ((rd_T24 y204 x28_1).f3) ((rd_T24 y204 x28_1).f4) ((rd_T24 y204 x28_1).f5) ((rd_T38 y220 x52_2).f1)).bind fun t229 => ((kauditref26_Level.f k2 ((rd_T24 y204 x28_1).f0) ((rd_T24 y204 x28_1).f1) ((rd_T24 y204 x28_1).f2) ((rd_T24 y204 x28_1).f3) ((rd_T24 y204 x28_1).f4) ((rd_T24 y204 x28_1).f5) ((rd_T38 y220 x52_2).f1)).bind fun t230 => (if t229 = t230 then (looks.l1 k2 a2 a3 y204 (y204.length : Int) x28_1 y220 (y220.length : Int) (wrap64 (x52_2 + 1)) a1_0 a1_1 a1_2 a1_3 a1_4 a1_5 t186 t219 t194 t195 t196 t197 t198 t199 ((rd_T24 y204 x28_1).f0) ((rd_T24 y204 x28_1).f1) ((rd_T24 y204 x28_1).f2) ((rd_T24 y204 x28_1).f3) ((rd_T24 y204 x28_1).f4) ((rd_T24 y204 x28_1).f5)) else (some false)))) else (some false)) else (some false)) = some r := H
                      have A45 := Aside0.mk A450
                      clear A450
                      by_cases c46 : t225 = t227
                      · rw [if_pos c46] at H
                        have c46b0 : (t225 == t227) = true := beq_iff_eq.mpr c46
                        have c46b1 : (t225 != t227) = false := bne_eq_false_iff_eq.mpr c46
                        clear c46
                        by_cases c47 : t226 = t228
                        · rw [if_pos c47] at H
                          have c47b0 : (t226 == t228) = true := beq_iff_eq.mpr c47
                          have c47b1 : (t226 != t228) = false := bne_eq_false_iff_eq.mpr c47
                          clear c47
                          replace H := Option.bind_eq_some_iff.mp H
                          obtain ⟨t229, A480, H⟩ := H
                          replace H : ((kauditref26_Level.f k2 ((rd_T24 y204 x28_1).f0) ((rd_T24 y204 x28_1).f1) ((rd_T24 y204 x28_1).f2) ((rd_T24 y204 x28_1).f3) ((rd_T24 y204 x28_1).f4) ((rd_T24 y204 x28_1).f5) ((rd_T38 y220 x52_2).f1)).bind fun t230 => (if t229 = t230 then (looks.l1 k2 a2 a3 y204 (y204.length : Int) x28_1 y220 (y220.length : Int) (wrap64 (x52_2 + 1)) a1_0 a1_1 a1_2 a1_3 a1_4 a1_5 t186 t219 t194 t195 t196 t197 t198 t199 ((rd_T24 y204 x28_1).f0) ((rd_T24 y204 x28_1).f1) ((rd_T24 y204 x28_1).f2) ((rd_T24 y204 x28_1).f3) ((rd_T24 y204 x28_1).f4) ((rd_T24 y204 x28_1).f5)) else (some false))) = some r := H
                          have A48 := Aside0.mk A480
                          clear A480
                          replace H := Option.bind_eq_some_iff.mp H
                          obtain ⟨t230, A490, H⟩ := H
                          replace H : (if t229 = t230 then (looks.l1 k2 a2 a3 y204 (y204.length : Int) x28_1 y220 (y220.length : Int) (wrap64 (x52_2 + 1)) a1_0 a1_1 a1_2 a1_3 a1_4 a1_5 t186 t219 t194 t195 t196 t197 t198 t199 ((rd_T24 y204 x28_1).f0) ((rd_T24 y204 x28_1).f1) ((rd_T24 y204 x28_1).f2) ((rd_T24 y204 x28_1).f3) ((rd_T24 y204 x28_1).f4) ((rd_T24 y204 x28_1).f5)) else (some false)) = some r := H
                          have A49 := Aside0.mk A490
                          clear A490
                          by_cases c50 : t229 = t230
                          · rw [if_pos c50] at H
                            have c50b0 : (t229 == t230) = true := beq_iff_eq.mpr c50
                            have c50b1 : (t229 != t230) = false := bne_eq_false_iff_eq.mpr c50
                            clear c50
                            have H' := Aside0.mk H
                            clear H
                            have p223 : 0 ≤ (x52_2 : Int) := of_decide_eq_true (by first | (with_reducible assumption) | assumption)
                            have q223 : x52_2 < (y220.length : Int) := of_decide_eq_true (by first | (with_reducible assumption) | assumption)
                            obtain ⟨ad223, e223, hx223_0, hx223_1⟩ := at_T38 (Kd.R_reads' HO_50.out).2.2 x52_2 p223 q223
                            cases e223
                            replace p223 := eq_true p223
                            replace q223 := eq_true q223
                            try go_wp2_with (first | ((with_reducible refine gate_dst (N := 14) rfl ?_); refine box_event ?hg (N := 14) ?hd (cs := #[.int .i64 0, .int .i64 0]) (t := 38) ?hr ?_; (case hd => rfl); (case hg => rfl); (case hr => first | (go_simp; done) | (go_simp; rfl)); intro gb224 hg w51 hbox hb; have n0_ := Aside0.mk (Kd.R_below (by (with_reducible repeat (first | apply Kd.R_alloc | apply Kd.R_drewN | apply Kd.R_drew)); exact HO_26.out) hb); have n1_ := Aside0.mk (Kd.R_below (Kd.R_elderB (by (with_reducible repeat (first | apply Kd.R_alloc | apply Kd.R_drewN | apply Kd.R_drew)); exact HO_50.out) gb224 (Nat.le_of_eq hg.symm)) hb); have n2_ := Aside0.mk (blk_below (g := gb185) (o := .cells #[.int .i64 a1_0, .int .i64 a1_1, .int .i64 a1_2, .int .i64 a1_3, .int .i64 a1_4, .int .i64 a1_5] 24 (0, 0)) (by (with_reducible repeat (first | refine blk_drewN ?_ _ | refine blk_drew ?_ | refine blk_alloc ?_ _)); exact BK185.out) hb); have n3_ := Aside0.mk (blk_below (g := gb203) (o := .cells #[.int .i64 t194, .int .i64 t195, .int .i64 t196, .int .i64 t197, .int .i64 t198, .int .i64 t199] 24 (0, 0)) (by (with_reducible repeat (first | refine blk_drewN ?_ _ | refine blk_drew ?_ | refine blk_alloc ?_ _)); exact BK203.out) hb); have n4_ := Aside0.mk (blk_below (g := gb208) (o := .cells #[.int .i64 ((rd_T24 y204 x28_1).f0), .int .i64 ((rd_T24 y204 x28_1).f1), .int .i64 ((rd_T24 y204 x28_1).f2), .int .i64 ((rd_T24 y204 x28_1).f3), .int .i64 ((rd_T24 y204 x28_1).f4), .int .i64 ((rd_T24 y204 x28_1).f5)] 24 (0, 0)) (by (with_reducible repeat (first | refine blk_drewN ?_ _ | refine blk_drew ?_ | refine blk_alloc ?_ _)); exact BK208.out) hb); have n5_ := Aside0.mk (IsS54.below (by repeat (first | (with_reducible first | exact HI188.out | apply IsS54.alloc | apply IsS54.drewN | apply IsS54.drew | apply IsS54.set_1 | refine IsS54.far ?_ NB188_185.out _ | refine IsS54.far ?_ NB188_203.out _ | refine IsS54.far ?_ NB188_208.out _) | exact HI188.out)) hb); have n6_ := Aside0.mk (below_step (by repeat (first | (with_reducible first | exact HB.out | apply below_alloc | apply pw_below_drewN | apply below_drew1 | refine below_set ?_ (IsS54.ge HI188.out) | refine below_set ?_ GE185.out | refine below_set ?_ GE203.out | refine below_set ?_ GE208.out) | exact HB.out)) hb); have n7_ := Aside0.mk (hbox); have n8_ := Aside0.mk ((by rw [hg]; exact (below_size (by repeat (first | (with_reducible first | exact HB.out | apply below_alloc | apply pw_below_drewN | apply below_drew1 | refine below_set ?_ (IsS54.ge HI188.out) | refine below_set ?_ GE185.out | refine below_set ?_ GE203.out | refine below_set ?_ GE208.out) | exact HB.out))) : w.heap.size ≤ gb224)); have n9_ := Aside0.mk ((by rw [hg]; exact (below_size (by repeat (first | (with_reducible first | exact HB.out | apply below_alloc | apply pw_below_drewN | apply below_drew1 | refine below_set ?_ (IsS54.ge HI188.out) | refine below_set ?_ GE185.out | refine below_set ?_ GE203.out | refine below_set ?_ GE208.out) | exact HB.out))) : w.heap.size ≤ gb224)); have n10_ := Aside0.mk ((by rw [hg]; exact Nat.ne_of_lt (blk_lt (g := gb185) (o := .cells #[.int .i64 a1_0, .int .i64 a1_1, .int .i64 a1_2, .int .i64 a1_3, .int .i64 a1_4, .int .i64 a1_5] 24 (0, 0)) (by (with_reducible repeat (first | refine blk_drewN ?_ _ | refine blk_drew ?_ | refine blk_alloc ?_ _)); exact BK185.out)) : gb185 ≠ gb224)); have n11_ := Aside0.mk ((by rw [hg]; exact Nat.ne_of_gt (blk_lt (g := gb185) (o := .cells #[.int .i64 a1_0, .int .i64 a1_1, .int .i64 a1_2, .int .i64 a1_3, .int .i64 a1_4, .int .i64 a1_5] 24 (0, 0)) (by (with_reducible repeat (first | refine blk_drewN ?_ _ | refine blk_drew ?_ | refine blk_alloc ?_ _)); exact BK185.out)) : gb224 ≠ gb185)); have n12_ := Aside0.mk ((by rw [hg]; exact Nat.ne_of_lt (blk_lt (g := gb203) (o := .cells #[.int .i64 t194, .int .i64 t195, .int .i64 t196, .int .i64 t197, .int .i64 t198, .int .i64 t199] 24 (0, 0)) (by (with_reducible repeat (first | refine blk_drewN ?_ _ | refine blk_drew ?_ | refine blk_alloc ?_ _)); exact BK203.out)) : gb203 ≠ gb224)); have n13_ := Aside0.mk ((by rw [hg]; exact Nat.ne_of_gt (blk_lt (g := gb203) (o := .cells #[.int .i64 t194, .int .i64 t195, .int .i64 t196, .int .i64 t197, .int .i64 t198, .int .i64 t199] 24 (0, 0)) (by (with_reducible repeat (first | refine blk_drewN ?_ _ | refine blk_drew ?_ | refine blk_alloc ?_ _)); exact BK203.out)) : gb224 ≠ gb203)); have n14_ := Aside0.mk ((by rw [hg]; exact Nat.ne_of_lt (blk_lt (g := gb208) (o := .cells #[.int .i64 ((rd_T24 y204 x28_1).f0), .int .i64 ((rd_T24 y204 x28_1).f1), .int .i64 ((rd_T24 y204 x28_1).f2), .int .i64 ((rd_T24 y204 x28_1).f3), .int .i64 ((rd_T24 y204 x28_1).f4), .int .i64 ((rd_T24 y204 x28_1).f5)] 24 (0, 0)) (by (with_reducible repeat (first | refine blk_drewN ?_ _ | refine blk_drew ?_ | refine blk_alloc ?_ _)); exact BK208.out)) : gb208 ≠ gb224)); have n15_ := Aside0.mk ((by rw [hg]; exact Nat.ne_of_gt (blk_lt (g := gb208) (o := .cells #[.int .i64 ((rd_T24 y204 x28_1).f0), .int .i64 ((rd_T24 y204 x28_1).f1), .int .i64 ((rd_T24 y204 x28_1).f2), .int .i64 ((rd_T24 y204 x28_1).f3), .int .i64 ((rd_T24 y204 x28_1).f4), .int .i64 ((rd_T24 y204 x28_1).f5)] 24 (0, 0)) (by (with_reducible repeat (first | refine blk_drewN ?_ _ | refine blk_drew ?_ | refine blk_alloc ?_ _)); exact BK208.out)) : gb224 ≠ gb208)); have n16_ := Aside0.mk ((by rw [hg]; exact Nat.ne_of_lt (IsS54.lt (show IsS54 w _ g188 t186 t219 from by repeat (first | (with_reducible first | exact HI188.out | apply IsS54.alloc | apply IsS54.drewN | apply IsS54.drew | apply IsS54.set_1 | refine IsS54.far ?_ NB188_185.out _ | refine IsS54.far ?_ NB188_203.out _ | refine IsS54.far ?_ NB188_208.out _) | exact HI188.out))) : g188 ≠ gb224)); have n17_ := Aside0.mk ((by rw [hg]; exact Nat.ne_of_gt (IsS54.lt (show IsS54 w _ g188 t186 t219 from by repeat (first | (with_reducible first | exact HI188.out | apply IsS54.alloc | apply IsS54.drewN | apply IsS54.drew | apply IsS54.set_1 | refine IsS54.far ?_ NB188_185.out _ | refine IsS54.far ?_ NB188_203.out _ | refine IsS54.far ?_ NB188_208.out _) | exact HI188.out))) : gb224 ≠ g188)); clear HO_26; clear HO_50; clear BK185; clear BK203; clear BK208; clear HI188; clear HB; have HO_26 := n0_; have HO_50 := n1_; have BK185 := n2_; have BK203 := n3_; have BK208 := n4_; have HI188 := n5_; have HB := n6_; have BK224 := n7_; have GW224 := n8_; have GE224 := n9_; have NB185_224 := n10_; have NB224_185 := n11_; have NB203_224 := n12_; have NB224_203 := n13_; have NB208_224 := n14_; have NB224_208 := n15_; have NB188_224 := n16_; have NB224_188 := n17_; clear n0_ n1_ n2_ n3_ n4_ n5_ n6_ n7_ n8_ n9_ n10_ n11_ n12_ n13_ n14_ n15_ n16_ n17_; clear hb hbox hg; have hnb52 := NB224_185.out; have hnc52 := NB185_224.out; have hnb53 := NB224_203.out; have hnc53 := NB203_224.out; have hnb54 := NB224_208.out; have hnc54 := NB208_224.out; have hnb55 := NB224_188.out; have hnc55 := NB188_224.out; have hcz56_0 : w51.cell? ⟨gb224, 0, none⟩ = some (.int .i64 0) := (blk_cell BK224.out 0).trans rfl; have hcz56_1 : w51.cell? ⟨gb224, 1, none⟩ = some (.int .i64 0) := (blk_cell BK224.out 1).trans rfl; have hfz56_0 := blk_frozen BK224.out 0; have hfz56_1 := blk_frozen BK224.out 1; have hnb57 := NB208_185.out; have hnc57 := NB185_208.out; have hnb58 := NB208_203.out; have hnc58 := NB203_208.out; have hnb59 := NB208_188.out; have hnc59 := NB188_208.out; have hcz60_0 : w51.cell? ⟨gb208, 0, none⟩ = some (.int .i64 ((rd_T24 y204 x28_1).f0)) := (blk_cell BK208.out 0).trans rfl; have hcz60_1 : w51.cell? ⟨gb208, 1, none⟩ = some (.int .i64 ((rd_T24 y204 x28_1).f1)) := (blk_cell BK208.out 1).trans rfl; have hcz60_2 : w51.cell? ⟨gb208, 2, none⟩ = some (.int .i64 ((rd_T24 y204 x28_1).f2)) := (blk_cell BK208.out 2).trans rfl; have hcz60_3 : w51.cell? ⟨gb208, 3, none⟩ = some (.int .i64 ((rd_T24 y204 x28_1).f3)) := (blk_cell BK208.out 3).trans rfl; have hcz60_4 : w51.cell? ⟨gb208, 4, none⟩ = some (.int .i64 ((rd_T24 y204 x28_1).f4)) := (blk_cell BK208.out 4).trans rfl; have hcz60_5 : w51.cell? ⟨gb208, 5, none⟩ = some (.int .i64 ((rd_T24 y204 x28_1).f5)) := (blk_cell BK208.out 5).trans rfl; have hfz60_0 := blk_frozen BK208.out 0; have hfz60_1 := blk_frozen BK208.out 1; have hfz60_2 := blk_frozen BK208.out 2; have hfz60_3 := blk_frozen BK208.out 3; have hfz60_4 := blk_frozen BK208.out 4; have hfz60_5 := blk_frozen BK208.out 5) | ((with_reducible refine gate_callee (f := 11) rfl ?_); refine goesL_ (some 62) rfl rfl Try.func11 (by kernel_rfl) rfl #[.agg #[.int .i64 ((rd_T24 y204 x28_1).f0), .int .i64 ((rd_T24 y204 x28_1).f1), .int .i64 ((rd_T24 y204 x28_1).f2), .int .i64 ((rd_T24 y204 x28_1).f3), .int .i64 ((rd_T24 y204 x28_1).f4), .int .i64 ((rd_T24 y204 x28_1).f5)], .int .i64 ((rd_T38 y220 x52_2).f0), .int .i64 ((rd_T38 y220 x52_2).f1)] rfl (by (try simp only [List.map_toArray, List.map_cons, List.map_nil]); first | done | rfl | (simp only [List.length_drop, List.length_take]; rfl)) ?_; (with_reducible refine (space_Look.calls k2 ((rd_T24 y204 x28_1).f0) ((rd_T24 y204 x28_1).f1) ((rd_T24 y204 x28_1).f2) ((rd_T24 y204 x28_1).f3) ((rd_T24 y204 x28_1).f4) ((rd_T24 y204 x28_1).f5) ((rd_T38 y220 x52_2).f0) ((rd_T38 y220 x52_2).f1) t225 t226 _ A44.out).mono ?_); rintro e w61 ⟨rfl, hb⟩; refine ⟨_, rfl, ?_⟩; have n0_ := Aside0.mk (Kd.R_below (by (with_reducible repeat (first | apply Kd.R_alloc | apply Kd.R_drewN | apply Kd.R_drew)); exact (Kd.R_mono (Kd.R_far (p := ⟨gb224, 1, none⟩) (Kd.R_far (p := ⟨gb224, 0, none⟩) (Kd.R_types HO_26.out BK224.out (by decide)) (fun _ hk => hk.2) (.int .i64 ((rd_T38 y220 x52_2).f0))) (fun _ hk => hk.2) (.int .i64 ((rd_T38 y220 x52_2).f1))) (fun _ h_ => h_.1))) hb); have n1_ := Aside0.mk (Kd.R_below (by (with_reducible repeat (first | apply Kd.R_alloc | apply Kd.R_drewN | apply Kd.R_drew)); exact (Kd.R_mono (Kd.R_far (p := ⟨gb224, 1, none⟩) (Kd.R_far (p := ⟨gb224, 0, none⟩) (Kd.R_mono HO_50.out (fun k_ hk => (⟨hk, hk.2⟩ : _ ∧ k_ ≠ gb224))) (fun _ hk => hk.2) (.int .i64 ((rd_T38 y220 x52_2).f0))) (fun _ hk => hk.2) (.int .i64 ((rd_T38 y220 x52_2).f1))) (fun _ h_ => h_.1))) hb); have n2_ := Aside0.mk (blk_below (g := gb185) (o := .cells #[.int .i64 a1_0, .int .i64 a1_1, .int .i64 a1_2, .int .i64 a1_3, .int .i64 a1_4, .int .i64 a1_5] 24 (0, 0)) (by (with_reducible repeat (first | refine blk_drewN ?_ _ | refine blk_drew ?_ | refine blk_alloc ?_ _)); refine blk_far ?_ NB185_224.out _; (with_reducible repeat (first | refine blk_drewN ?_ _ | refine blk_drew ?_ | refine blk_alloc ?_ _)); refine blk_far ?_ NB185_224.out _; (with_reducible repeat (first | refine blk_drewN ?_ _ | refine blk_drew ?_ | refine blk_alloc ?_ _)); exact BK185.out) hb); have n3_ := Aside0.mk (blk_below (g := gb203) (o := .cells #[.int .i64 t194, .int .i64 t195, .int .i64 t196, .int .i64 t197, .int .i64 t198, .int .i64 t199] 24 (0, 0)) (by (with_reducible repeat (first | refine blk_drewN ?_ _ | refine blk_drew ?_ | refine blk_alloc ?_ _)); refine blk_far ?_ NB203_224.out _; (with_reducible repeat (first | refine blk_drewN ?_ _ | refine blk_drew ?_ | refine blk_alloc ?_ _)); refine blk_far ?_ NB203_224.out _; (with_reducible repeat (first | refine blk_drewN ?_ _ | refine blk_drew ?_ | refine blk_alloc ?_ _)); exact BK203.out) hb); have n4_ := Aside0.mk (blk_below (g := gb208) (o := .cells #[.int .i64 ((rd_T24 y204 x28_1).f0), .int .i64 ((rd_T24 y204 x28_1).f1), .int .i64 ((rd_T24 y204 x28_1).f2), .int .i64 ((rd_T24 y204 x28_1).f3), .int .i64 ((rd_T24 y204 x28_1).f4), .int .i64 ((rd_T24 y204 x28_1).f5)] 24 (0, 0)) (by (with_reducible repeat (first | refine blk_drewN ?_ _ | refine blk_drew ?_ | refine blk_alloc ?_ _)); refine blk_far ?_ NB208_224.out _; (with_reducible repeat (first | refine blk_drewN ?_ _ | refine blk_drew ?_ | refine blk_alloc ?_ _)); refine blk_far ?_ NB208_224.out _; (with_reducible repeat (first | refine blk_drewN ?_ _ | refine blk_drew ?_ | refine blk_alloc ?_ _)); exact BK208.out) hb); have n5_ := Aside0.mk (IsS54.below (show IsS54 w ((w51.setCell ⟨gb224, 0, none⟩ (.int .i64 ((rd_T38 y220 x52_2).f0))).setCell ⟨gb224, 1, none⟩ (.int .i64 ((rd_T38 y220 x52_2).f1))) g188 t186 t219 from by repeat (first | (with_reducible first | exact HI188.out | apply IsS54.alloc | apply IsS54.drewN | apply IsS54.drew | apply IsS54.set_1 | refine IsS54.far ?_ NB188_185.out _ | refine IsS54.far ?_ NB188_203.out _ | refine IsS54.far ?_ NB188_208.out _ | refine IsS54.far ?_ NB188_224.out _) | exact HI188.out)) hb); have n6_ := Aside0.mk (blk_below (g := gb224) (o := .cells #[.int .i64 ((rd_T38 y220 x52_2).f0), .int .i64 ((rd_T38 y220 x52_2).f1)] 38 (0, 0)) (by (with_reducible repeat (first | refine blk_drewN ?_ _ | refine blk_drew ?_ | refine blk_alloc ?_ _)); refine blk_put (cs := #[.int .i64 ((rd_T38 y220 x52_2).f0), .int .i64 0]) ?_ 1 _ rfl; (with_reducible repeat (first | refine blk_drewN ?_ _ | refine blk_drew ?_ | refine blk_alloc ?_ _)); refine blk_put (cs := #[.int .i64 0, .int .i64 0]) ?_ 0 _ rfl; (with_reducible repeat (first | refine blk_drewN ?_ _ | refine blk_drew ?_ | refine blk_alloc ?_ _)); exact BK224.out) hb); have n7_ := Aside0.mk (below_step (by repeat (first | (with_reducible first | exact HB.out | apply below_alloc | apply pw_below_drewN | apply below_drew1 | refine below_set ?_ (IsS54.ge HI188.out) | refine below_set ?_ GE185.out | refine below_set ?_ GE203.out | refine below_set ?_ GE208.out | refine below_set ?_ GE224.out) | exact HB.out)) hb); clear HO_26; clear HO_50; clear BK185; clear BK203; clear BK208; clear HI188; clear BK224; clear HB; have HO_26 := n0_; have HO_50 := n1_; have BK185 := n2_; have BK203 := n3_; have BK208 := n4_; have HI188 := n5_; have BK224 := n6_; have HB := n7_; clear n0_ n1_ n2_ n3_ n4_ n5_ n6_ n7_; (try clear hb); (try clear hb2); (try clear hk); (try clear hi); have hcz62_0 : w61.cell? ⟨gb208, 0, none⟩ = some (.int .i64 ((rd_T24 y204 x28_1).f0)) := (blk_cell BK208.out 0).trans rfl; have hcz62_1 : w61.cell? ⟨gb208, 1, none⟩ = some (.int .i64 ((rd_T24 y204 x28_1).f1)) := (blk_cell BK208.out 1).trans rfl; have hcz62_2 : w61.cell? ⟨gb208, 2, none⟩ = some (.int .i64 ((rd_T24 y204 x28_1).f2)) := (blk_cell BK208.out 2).trans rfl; have hcz62_3 : w61.cell? ⟨gb208, 3, none⟩ = some (.int .i64 ((rd_T24 y204 x28_1).f3)) := (blk_cell BK208.out 3).trans rfl; have hcz62_4 : w61.cell? ⟨gb208, 4, none⟩ = some (.int .i64 ((rd_T24 y204 x28_1).f4)) := (blk_cell BK208.out 4).trans rfl; have hcz62_5 : w61.cell? ⟨gb208, 5, none⟩ = some (.int .i64 ((rd_T24 y204 x28_1).f5)) := (blk_cell BK208.out 5).trans rfl; have hfz62_0 := blk_frozen BK208.out 0; have hfz62_1 := blk_frozen BK208.out 1; have hfz62_2 := blk_frozen BK208.out 2; have hfz62_3 := blk_frozen BK208.out 3; have hfz62_4 := blk_frozen BK208.out 4; have hfz62_5 := blk_frozen BK208.out 5; have hcz63_0 : w61.cell? ⟨gb224, 0, none⟩ = some (.int .i64 ((rd_T38 y220 x52_2).f0)) := (blk_cell BK224.out 0).trans rfl; have hcz63_1 : w61.cell? ⟨gb224, 1, none⟩ = some (.int .i64 ((rd_T38 y220 x52_2).f1)) := (blk_cell BK224.out 1).trans rfl; have hfz63_0 := blk_frozen BK224.out 0; have hfz63_1 := blk_frozen BK224.out 1) | ((with_reducible refine gate_callee (f := 12) rfl ?_); refine goesL_ (some 71) rfl rfl Try.func12 (by kernel_rfl) rfl #[.agg #[.int .i64 ((rd_T24 y204 x28_1).f0), .int .i64 ((rd_T24 y204 x28_1).f1), .int .i64 ((rd_T24 y204 x28_1).f2), .int .i64 ((rd_T24 y204 x28_1).f3), .int .i64 ((rd_T24 y204 x28_1).f4), .int .i64 ((rd_T24 y204 x28_1).f5)], .int .i64 ((rd_T38 y220 x52_2).f0), .int .i64 ((rd_T38 y220 x52_2).f1)] rfl (by (try simp only [List.map_toArray, List.map_cons, List.map_nil]); first | done | rfl | (simp only [List.length_drop, List.length_take]; rfl)) ?_; (with_reducible refine (kauditref26_Look.calls k2 ((rd_T24 y204 x28_1).f0) ((rd_T24 y204 x28_1).f1) ((rd_T24 y204 x28_1).f2) ((rd_T24 y204 x28_1).f3) ((rd_T24 y204 x28_1).f4) ((rd_T24 y204 x28_1).f5) ((rd_T38 y220 x52_2).f0) ((rd_T38 y220 x52_2).f1) t227 t228 _ A45.out).mono ?_); rintro e w64 ⟨rfl, hb⟩; refine ⟨_, rfl, ?_⟩; have n0_ := Aside0.mk (Kd.R_below (by (with_reducible repeat (first | apply Kd.R_alloc | apply Kd.R_drewN | apply Kd.R_drew)); exact HO_26.out) hb); have n1_ := Aside0.mk (Kd.R_below (by (with_reducible repeat (first | apply Kd.R_alloc | apply Kd.R_drewN | apply Kd.R_drew)); exact HO_50.out) hb); have n2_ := Aside0.mk (blk_below (g := gb185) (o := .cells #[.int .i64 a1_0, .int .i64 a1_1, .int .i64 a1_2, .int .i64 a1_3, .int .i64 a1_4, .int .i64 a1_5] 24 (0, 0)) (by (with_reducible repeat (first | refine blk_drewN ?_ _ | refine blk_drew ?_ | refine blk_alloc ?_ _)); exact BK185.out) hb); have n3_ := Aside0.mk (blk_below (g := gb203) (o := .cells #[.int .i64 t194, .int .i64 t195, .int .i64 t196, .int .i64 t197, .int .i64 t198, .int .i64 t199] 24 (0, 0)) (by (with_reducible repeat (first | refine blk_drewN ?_ _ | refine blk_drew ?_ | refine blk_alloc ?_ _)); exact BK203.out) hb); have n4_ := Aside0.mk (blk_below (g := gb208) (o := .cells #[.int .i64 ((rd_T24 y204 x28_1).f0), .int .i64 ((rd_T24 y204 x28_1).f1), .int .i64 ((rd_T24 y204 x28_1).f2), .int .i64 ((rd_T24 y204 x28_1).f3), .int .i64 ((rd_T24 y204 x28_1).f4), .int .i64 ((rd_T24 y204 x28_1).f5)] 24 (0, 0)) (by (with_reducible repeat (first | refine blk_drewN ?_ _ | refine blk_drew ?_ | refine blk_alloc ?_ _)); exact BK208.out) hb); have n5_ := Aside0.mk (IsS54.below (by repeat (first | (with_reducible first | exact HI188.out | apply IsS54.alloc | apply IsS54.drewN | apply IsS54.drew | apply IsS54.set_1 | refine IsS54.far ?_ NB188_185.out _ | refine IsS54.far ?_ NB188_203.out _ | refine IsS54.far ?_ NB188_208.out _ | refine IsS54.far ?_ NB188_224.out _) | exact HI188.out)) hb); have n6_ := Aside0.mk (blk_below (g := gb224) (o := .cells #[.int .i64 ((rd_T38 y220 x52_2).f0), .int .i64 ((rd_T38 y220 x52_2).f1)] 38 (0, 0)) (by (with_reducible repeat (first | refine blk_drewN ?_ _ | refine blk_drew ?_ | refine blk_alloc ?_ _)); exact BK224.out) hb); have n7_ := Aside0.mk (below_step (by repeat (first | (with_reducible first | exact HB.out | apply below_alloc | apply pw_below_drewN | apply below_drew1 | refine below_set ?_ (IsS54.ge HI188.out) | refine below_set ?_ GE185.out | refine below_set ?_ GE203.out | refine below_set ?_ GE208.out | refine below_set ?_ GE224.out) | exact HB.out)) hb); clear HO_26; clear HO_50; clear BK185; clear BK203; clear BK208; clear HI188; clear BK224; clear HB; have HO_26 := n0_; have HO_50 := n1_; have BK185 := n2_; have BK203 := n3_; have BK208 := n4_; have HI188 := n5_; have BK224 := n6_; have HB := n7_; clear n0_ n1_ n2_ n3_ n4_ n5_ n6_ n7_; (try clear hb); (try clear hb2); (try clear hk); (try clear hi)))
                            have n0_ := Aside0.mk (Kd.R_drew HO_26.out)
                            have n1_ := Aside0.mk (Kd.R_drew HO_50.out)
                            have n2_ := Aside0.mk (blk_drew BK185.out)
                            have n3_ := Aside0.mk (blk_drew BK203.out)
                            have n4_ := Aside0.mk (blk_drew BK208.out)
                            have n5_ := Aside0.mk (blk_drew BK224.out)
                            have n6_ := Aside0.mk (IsS54.drew HI188.out)
                            have n7_ := Aside0.mk (below_drew1 HB.out)
                            clear HO_26
                            clear HO_50
                            clear BK185
                            clear BK203
                            clear BK208
                            clear BK224
                            clear HI188
                            clear HB
                            have HO_26 := n0_
                            have HO_50 := n1_
                            have BK185 := n2_
                            have BK203 := n3_
                            have BK208 := n4_
                            have BK224 := n5_
                            have HI188 := n6_
                            have HB := n7_
                            clear n0_ n1_ n2_ n3_ n4_ n5_ n6_ n7_
                            refine start_ (n := 19) (S := fun w' => w'.cell? ⟨gb208, 0, none⟩ = some (.int .i64 ((rd_T24 y204 x28_1).f0)) ∧ w'.cell? ⟨gb208, 1, none⟩ = some (.int .i64 ((rd_T24 y204 x28_1).f1)) ∧ w'.cell? ⟨gb208, 2, none⟩ = some (.int .i64 ((rd_T24 y204 x28_1).f2)) ∧ w'.cell? ⟨gb208, 3, none⟩ = some (.int .i64 ((rd_T24 y204 x28_1).f3)) ∧ w'.cell? ⟨gb208, 4, none⟩ = some (.int .i64 ((rd_T24 y204 x28_1).f4)) ∧ w'.cell? ⟨gb208, 5, none⟩ = some (.int .i64 ((rd_T24 y204 x28_1).f5)) ∧ w'.cell? ⟨gb224, 0, none⟩ = some (.int .i64 ((rd_T38 y220 x52_2).f0)) ∧ w'.cell? ⟨gb224, 1, none⟩ = some (.int .i64 ((rd_T38 y220 x52_2).f1))) (ds := []) #[false, false, false, false, false, false, false, false, false, false, false, false, false, false, false, false, false, false, false] (by kernel_rfl) rfl rfl ⟨(blk_cell BK208.out 0).trans rfl, (blk_cell BK208.out 1).trans rfl, (blk_cell BK208.out 2).trans rfl, (blk_cell BK208.out 3).trans rfl, (blk_cell BK208.out 4).trans rfl, (blk_cell BK208.out 5).trans rfl, (blk_cell BK224.out 0).trans rfl, (blk_cell BK224.out 1).trans rfl⟩ (fun hHeld => ?_); refine with_tabW looks.tab11 looks.bits11 (fun HT_ HW_ => ?_)
                            generalize w64.drew = w65 at HO_26 HO_50 BK185 BK203 BK208 BK224 HI188 HB hHeld ⊢
                            refine pure_ (i := 0) (N := some 74) (v := ?_) (a' := ?_) #[true, false, false, false, false, false, false, false, false, false, false, false, false, false, false, false, false, false, false] rfl rfl (any_of HT_.out (by kernel_rfl)) (fun _ _ _ h => h) (Or.inl ⟨by rfl, ?_⟩) ?_ ?_
                            rotate_left
                            · intro w'
                              go_simp
                              with_reducible rfl
                            rotate_left
                            · simp only [Act.put, List.setIfInBounds_toArray, List.set_cons_zero, List.set_cons_succ, i64_w, i32_w]
                              rfl
                            refine pure_ (i := 1) (N := some 75) (v := ?_) (a' := ?_) #[true, true, false, false, false, false, false, false, false, false, false, false, false, false, false, false, false, false, false] rfl rfl (any_of HT_.out (by kernel_rfl)) (fun _ _ _ h => h) (Or.inl ⟨by rfl, ?_⟩) ?_ ?_
                            rotate_left
                            · intro w'
                              go_simp
                              with_reducible rfl
                            rotate_left
                            · simp only [Act.put, List.setIfInBounds_toArray, List.set_cons_zero, List.set_cons_succ, i64_w, i32_w]
                              rfl
                            refine pure_ (i := 2) (N := some 76) (v := ?_) (a' := ?_) #[true, true, true, false, false, false, false, false, false, false, false, false, false, false, false, false, false, false, false] rfl rfl (any_of HT_.out (by kernel_rfl)) (fun _ _ _ h => h) (Or.inl ⟨by rfl, ?_⟩) ?_ ?_
                            rotate_left
                            · intro w'
                              go_simp
                              with_reducible rfl
                            rotate_left
                            · simp only [Act.put, List.setIfInBounds_toArray, List.set_cons_zero, List.set_cons_succ, i64_w, i32_w]
                              rfl
                            refine pure_ (i := 3) (N := some 77) (v := ?_) (a' := ?_) #[true, true, true, true, false, false, false, false, false, false, false, false, false, false, false, false, false, false, false] rfl rfl (any_of HT_.out (by kernel_rfl)) (fun _ _ _ h => h) (Or.inl ⟨by rfl, ?_⟩) ?_ ?_
                            rotate_left
                            · intro w'
                              go_simp
                              with_reducible rfl
                            rotate_left
                            · simp only [Act.put, List.setIfInBounds_toArray, List.set_cons_zero, List.set_cons_succ, i64_w, i32_w]
                              rfl
                            refine pure_ (i := 4) (N := some 78) (v := ?_) (a' := ?_) #[true, true, true, true, true, false, false, false, false, false, false, false, false, false, false, false, false, false, false] rfl rfl (any_of HT_.out (by kernel_rfl)) (fun _ _ _ h => h) (Or.inl ⟨by rfl, ?_⟩) ?_ ?_
                            rotate_left
                            · intro w'
                              go_simp
                              with_reducible rfl
                            rotate_left
                            · simp only [Act.put, List.setIfInBounds_toArray, List.set_cons_zero, List.set_cons_succ, i64_w, i32_w]
                              rfl
                            refine pure_ (i := 5) (N := some 79) (v := ?_) (a' := ?_) #[true, true, true, true, true, true, false, false, false, false, false, false, false, false, false, false, false, false, false] rfl rfl (any_of HT_.out (by kernel_rfl)) (fun _ _ _ h => h) (Or.inl ⟨by rfl, ?_⟩) ?_ ?_
                            rotate_left
                            · intro w'
                              go_simp
                              with_reducible rfl
                            rotate_left
                            · simp only [Act.put, List.setIfInBounds_toArray, List.set_cons_zero, List.set_cons_succ, i64_w, i32_w]
                              rfl
                            refine pure_ (i := 6) (N := some 80) (v := ?_) (a' := ?_) #[true, true, true, true, true, true, true, false, false, false, false, false, false, false, false, false, false, false, false] rfl rfl (any_of HT_.out (by kernel_rfl)) (fun _ _ _ h => h) (Or.inl ⟨by rfl, ?_⟩) ?_ ?_
                            rotate_left
                            · intro w'
                              go_simp
                              with_reducible rfl
                            rotate_left
                            · simp only [Act.put, List.setIfInBounds_toArray, List.set_cons_zero, List.set_cons_succ, i64_w, i32_w]
                              rfl
                            refine pure_ (i := 7) (N := some 81) (v := ?_) (a' := ?_) #[true, true, true, true, true, true, true, true, false, false, false, false, false, false, false, false, false, false, false] rfl rfl (any_of HT_.out (by kernel_rfl)) (fun _ _ _ h => h) (Or.inl ⟨by rfl, ?_⟩) ?_ ?_
                            rotate_left
                            · intro w'
                              go_simp
                              with_reducible rfl
                            rotate_left
                            · simp only [Act.put, List.setIfInBounds_toArray, List.set_cons_zero, List.set_cons_succ, i64_w, i32_w]
                              rfl
                            refine pure_ (i := 8) (N := some 82) (v := ?_) (a' := ?_) #[true, true, true, true, true, true, true, true, true, false, false, false, false, false, false, false, false, false, false] rfl rfl (any_of HT_.out (by kernel_rfl)) (fun _ _ _ h => h) (Or.inl ⟨by rfl, ?_⟩) ?_ ?_
                            rotate_left
                            · intro w'
                              go_simp
                              with_reducible rfl
                            rotate_left
                            · simp only [Act.put, List.setIfInBounds_toArray, List.set_cons_zero, List.set_cons_succ, i64_w, i32_w]
                              rfl
                            refine pure_ (i := 10) (N := some 84) (v := ?_) (a' := ?_) #[true, true, true, true, true, true, true, true, true, false, true, false, false, false, false, false, false, false, false] rfl rfl (any_of HT_.out (by kernel_rfl)) (fun _ _ _ h => h) (Or.inl ⟨by rfl, ?_⟩) ?_ ?_
                            rotate_left
                            · intro w'
                              go_simp
                              with_reducible rfl
                            rotate_left
                            · simp only [Act.put, List.setIfInBounds_toArray, List.set_cons_zero, List.set_cons_succ, i64_w, i32_w]
                              rfl
                            refine pure_ (i := 14) (N := some 88) (v := ?_) (a' := ?_) #[true, true, true, true, true, true, true, true, true, false, true, false, false, false, true, false, false, false, false] rfl rfl (any_of HT_.out (by kernel_rfl)) (fun _ _ _ h => h) (Or.inl ⟨by rfl, ?_⟩) ?_ ?_
                            rotate_left
                            · intro w'
                              go_simp
                              with_reducible rfl
                            rotate_left
                            · simp only [Act.put, List.setIfInBounds_toArray, List.set_cons_zero, List.set_cons_succ, i64_w, i32_w]
                              rfl
                            refine take_ (i := 9) (N := some 83) (v := ?_) (a' := ?_) #[true, true, true, true, true, true, true, true, true, true, true, false, false, false, true, false, false, false, false] rfl rfl (take_ofW HT_.out HW_.out (by kernel_rfl)) (fun _ _ _ h => h) (Or.inl ⟨by rfl, ?_⟩) hHeld ?_ ?_
                            rotate_left
                            · rintro w' ⟨s0, s1, s2, s3, s4, s5, s6, s7⟩
                              go_simp
                              with_reducible rfl
                            rotate_left
                            · simp only [Act.put, List.setIfInBounds_toArray, List.set_cons_zero, List.set_cons_succ, i64_w, i32_w]
                              rfl
                            refine take_ (i := 11) (N := some 85) (v := ?_) (a' := ?_) #[true, true, true, true, true, true, true, true, true, true, true, true, false, false, true, false, false, false, false] rfl rfl (take_ofW HT_.out HW_.out (by kernel_rfl)) (fun _ _ _ h => h) (Or.inl ⟨by rfl, ?_⟩) hHeld ?_ ?_
                            rotate_left
                            · rintro w' ⟨s0, s1, s2, s3, s4, s5, s6, s7⟩
                              go_simp
                              with_reducible rfl
                            rotate_left
                            · simp only [Act.put, List.setIfInBounds_toArray, List.set_cons_zero, List.set_cons_succ, i64_w, i32_w]
                              rfl
                            refine take_ (i := 13) (N := some 87) (v := ?_) (a' := ?_) #[true, true, true, true, true, true, true, true, true, true, true, true, false, true, true, false, false, false, false] rfl rfl (take_ofW HT_.out HW_.out (by kernel_rfl)) (fun _ _ _ h => h) (Or.inl ⟨by rfl, ?_⟩) hHeld ?_ ?_
                            rotate_left
                            · rintro w' ⟨s0, s1, s2, s3, s4, s5, s6, s7⟩
                              go_simp
                              with_reducible rfl
                            rotate_left
                            · simp only [Act.put, List.setIfInBounds_toArray, List.set_cons_zero, List.set_cons_succ, i64_w, i32_w]
                              rfl
                            refine take_ (i := 15) (N := some 89) (v := ?_) (a' := ?_) #[true, true, true, true, true, true, true, true, true, true, true, true, false, true, true, true, false, false, false] rfl rfl (take_ofW HT_.out HW_.out (by kernel_rfl)) (fun _ _ _ h => h) (Or.inl ⟨by rfl, ?_⟩) hHeld ?_ ?_
                            rotate_left
                            · rintro w' ⟨s0, s1, s2, s3, s4, s5, s6, s7⟩
                              go_simp
                              with_reducible rfl
                            rotate_left
                            · simp only [Act.put, List.setIfInBounds_toArray, List.set_cons_zero, List.set_cons_succ, i64_w, i32_w]
                              rfl
                            refine one_ (i := 12) (N := some 86) #[true, true, true, true, true, true, true, true, true, true, true, true, true, true, true, true, false, false, false] rfl rfl (one_of HT_.out (by kernel_rfl)) (by decide) (fun K hK => ?_)
                            refine goes_ Try.func13 (by kernel_rfl) rfl #[.agg #[.int .i64 ((rd_T24 y204 x28_1).f0), .int .i64 ((rd_T24 y204 x28_1).f1), .int .i64 ((rd_T24 y204 x28_1).f2), .int .i64 ((rd_T24 y204 x28_1).f3), .int .i64 ((rd_T24 y204 x28_1).f4), .int .i64 ((rd_T24 y204 x28_1).f5)], .int .i64 ((rd_T38 y220 x52_2).f1)] (by rfl) rfl rfl (by (try simp only [List.map_toArray, List.map_cons, List.map_nil]); first | done | rfl | (simp only [List.length_drop, List.length_take]; rfl)) ?_
                            with_reducible refine (space_Level.calls ((rd_T24 y204 x28_1).f0) ((rd_T24 y204 x28_1).f1) ((rd_T24 y204 x28_1).f2) ((rd_T24 y204 x28_1).f3) ((rd_T24 y204 x28_1).f4) ((rd_T24 y204 x28_1).f5) ((rd_T38 y220 x52_2).f1) t229 _ A48.out).mono ?_
                            rintro e w66 ⟨rfl, hb⟩
                            refine ⟨_, rfl, ?_⟩
                            have n0_ := Aside0.mk (Kd.R_below (by (with_reducible repeat (first | apply Kd.R_alloc | apply Kd.R_drewN | apply Kd.R_drew)); exact HO_26.out) hb)
                            have n1_ := Aside0.mk (Kd.R_below (by (with_reducible repeat (first | apply Kd.R_alloc | apply Kd.R_drewN | apply Kd.R_drew)); exact HO_50.out) hb)
                            have n2_ := Aside0.mk (blk_below (g := gb185) (o := .cells #[.int .i64 a1_0, .int .i64 a1_1, .int .i64 a1_2, .int .i64 a1_3, .int .i64 a1_4, .int .i64 a1_5] 24 (0, 0)) (by (with_reducible repeat (first | refine blk_drewN ?_ _ | refine blk_drew ?_ | refine blk_alloc ?_ _)); exact BK185.out) hb)
                            have n3_ := Aside0.mk (blk_below (g := gb203) (o := .cells #[.int .i64 t194, .int .i64 t195, .int .i64 t196, .int .i64 t197, .int .i64 t198, .int .i64 t199] 24 (0, 0)) (by (with_reducible repeat (first | refine blk_drewN ?_ _ | refine blk_drew ?_ | refine blk_alloc ?_ _)); exact BK203.out) hb)
                            have n4_ := Aside0.mk (blk_below (g := gb208) (o := .cells #[.int .i64 ((rd_T24 y204 x28_1).f0), .int .i64 ((rd_T24 y204 x28_1).f1), .int .i64 ((rd_T24 y204 x28_1).f2), .int .i64 ((rd_T24 y204 x28_1).f3), .int .i64 ((rd_T24 y204 x28_1).f4), .int .i64 ((rd_T24 y204 x28_1).f5)] 24 (0, 0)) (by (with_reducible repeat (first | refine blk_drewN ?_ _ | refine blk_drew ?_ | refine blk_alloc ?_ _)); exact BK208.out) hb)
                            have n5_ := Aside0.mk (IsS54.below (by repeat (first | (with_reducible first | exact HI188.out | apply IsS54.alloc | apply IsS54.drewN | apply IsS54.drew | apply IsS54.set_1 | refine IsS54.far ?_ NB188_185.out _ | refine IsS54.far ?_ NB188_203.out _ | refine IsS54.far ?_ NB188_208.out _ | refine IsS54.far ?_ NB188_224.out _) | exact HI188.out)) hb)
                            have n6_ := Aside0.mk (blk_below (g := gb224) (o := .cells #[.int .i64 ((rd_T38 y220 x52_2).f0), .int .i64 ((rd_T38 y220 x52_2).f1)] 38 (0, 0)) (by (with_reducible repeat (first | refine blk_drewN ?_ _ | refine blk_drew ?_ | refine blk_alloc ?_ _)); exact BK224.out) hb)
                            have n7_ := Aside0.mk (below_step (by repeat (first | (with_reducible first | exact HB.out | apply below_alloc | apply pw_below_drewN | apply below_drew1 | refine below_set ?_ (IsS54.ge HI188.out) | refine below_set ?_ GE185.out | refine below_set ?_ GE203.out | refine below_set ?_ GE208.out | refine below_set ?_ GE224.out) | exact HB.out)) hb)
                            clear HO_26
                            clear HO_50
                            clear BK185
                            clear BK203
                            clear BK208
                            clear HI188
                            clear BK224
                            clear HB
                            have HO_26 := n0_
                            have HO_50 := n1_
                            have BK185 := n2_
                            have BK203 := n3_
                            have BK208 := n4_
                            have HI188 := n5_
                            have BK224 := n6_
                            have HB := n7_
                            clear n0_ n1_ n2_ n3_ n4_ n5_ n6_ n7_
                            (try clear hb)
                            (try clear hb2)
                            (try clear hk)
                            (try clear hi)
                            refine hK.out _ _ ⟨(blk_cell BK208.out 0).trans rfl, (blk_cell BK208.out 1).trans rfl, (blk_cell BK208.out 2).trans rfl, (blk_cell BK208.out 3).trans rfl, (blk_cell BK208.out 4).trans rfl, (blk_cell BK208.out 5).trans rfl, (blk_cell BK224.out 0).trans rfl, (blk_cell BK224.out 1).trans rfl⟩ (fun hHeld => ?_)
                            clear hK K
                            refine norm_ (a' := ?_) ?_ ?_
                            rotate_left
                            · show Act.put _ (some 86) _ = _
                              simp only [Act.put, List.setIfInBounds_toArray, List.set_cons_zero, List.set_cons_succ, i64_w, i32_w]
                              rfl
                            refine one_ (i := 16) (N := some 90) #[true, true, true, true, true, true, true, true, true, true, true, true, true, true, true, true, true, false, false] rfl rfl (one_of HT_.out (by kernel_rfl)) (by decide) (fun K hK => ?_)
                            refine goes_ Try.func14 (by kernel_rfl) rfl #[.agg #[.int .i64 ((rd_T24 y204 x28_1).f0), .int .i64 ((rd_T24 y204 x28_1).f1), .int .i64 ((rd_T24 y204 x28_1).f2), .int .i64 ((rd_T24 y204 x28_1).f3), .int .i64 ((rd_T24 y204 x28_1).f4), .int .i64 ((rd_T24 y204 x28_1).f5)], .int .i64 ((rd_T38 y220 x52_2).f1)] (by rfl) rfl rfl (by (try simp only [List.map_toArray, List.map_cons, List.map_nil]); first | done | rfl | (simp only [List.length_drop, List.length_take]; rfl)) ?_
                            with_reducible refine (kauditref26_Level.calls k2 ((rd_T24 y204 x28_1).f0) ((rd_T24 y204 x28_1).f1) ((rd_T24 y204 x28_1).f2) ((rd_T24 y204 x28_1).f3) ((rd_T24 y204 x28_1).f4) ((rd_T24 y204 x28_1).f5) ((rd_T38 y220 x52_2).f1) t230 _ A49.out).mono ?_
                            rintro e w67 ⟨rfl, hb⟩
                            refine ⟨_, rfl, ?_⟩
                            have n0_ := Aside0.mk (Kd.R_below (by (with_reducible repeat (first | apply Kd.R_alloc | apply Kd.R_drewN | apply Kd.R_drew)); exact HO_26.out) hb)
                            have n1_ := Aside0.mk (Kd.R_below (by (with_reducible repeat (first | apply Kd.R_alloc | apply Kd.R_drewN | apply Kd.R_drew)); exact HO_50.out) hb)
                            have n2_ := Aside0.mk (blk_below (g := gb185) (o := .cells #[.int .i64 a1_0, .int .i64 a1_1, .int .i64 a1_2, .int .i64 a1_3, .int .i64 a1_4, .int .i64 a1_5] 24 (0, 0)) (by (with_reducible repeat (first | refine blk_drewN ?_ _ | refine blk_drew ?_ | refine blk_alloc ?_ _)); exact BK185.out) hb)
                            have n3_ := Aside0.mk (blk_below (g := gb203) (o := .cells #[.int .i64 t194, .int .i64 t195, .int .i64 t196, .int .i64 t197, .int .i64 t198, .int .i64 t199] 24 (0, 0)) (by (with_reducible repeat (first | refine blk_drewN ?_ _ | refine blk_drew ?_ | refine blk_alloc ?_ _)); exact BK203.out) hb)
                            have n4_ := Aside0.mk (blk_below (g := gb208) (o := .cells #[.int .i64 ((rd_T24 y204 x28_1).f0), .int .i64 ((rd_T24 y204 x28_1).f1), .int .i64 ((rd_T24 y204 x28_1).f2), .int .i64 ((rd_T24 y204 x28_1).f3), .int .i64 ((rd_T24 y204 x28_1).f4), .int .i64 ((rd_T24 y204 x28_1).f5)] 24 (0, 0)) (by (with_reducible repeat (first | refine blk_drewN ?_ _ | refine blk_drew ?_ | refine blk_alloc ?_ _)); exact BK208.out) hb)
                            have n5_ := Aside0.mk (IsS54.below (by repeat (first | (with_reducible first | exact HI188.out | apply IsS54.alloc | apply IsS54.drewN | apply IsS54.drew | apply IsS54.set_1 | refine IsS54.far ?_ NB188_185.out _ | refine IsS54.far ?_ NB188_203.out _ | refine IsS54.far ?_ NB188_208.out _ | refine IsS54.far ?_ NB188_224.out _) | exact HI188.out)) hb)
                            have n6_ := Aside0.mk (blk_below (g := gb224) (o := .cells #[.int .i64 ((rd_T38 y220 x52_2).f0), .int .i64 ((rd_T38 y220 x52_2).f1)] 38 (0, 0)) (by (with_reducible repeat (first | refine blk_drewN ?_ _ | refine blk_drew ?_ | refine blk_alloc ?_ _)); exact BK224.out) hb)
                            have n7_ := Aside0.mk (below_step (by repeat (first | (with_reducible first | exact HB.out | apply below_alloc | apply pw_below_drewN | apply below_drew1 | refine below_set ?_ (IsS54.ge HI188.out) | refine below_set ?_ GE185.out | refine below_set ?_ GE203.out | refine below_set ?_ GE208.out | refine below_set ?_ GE224.out) | exact HB.out)) hb)
                            clear HO_26
                            clear HO_50
                            clear BK185
                            clear BK203
                            clear BK208
                            clear HI188
                            clear BK224
                            clear HB
                            have HO_26 := n0_
                            have HO_50 := n1_
                            have BK185 := n2_
                            have BK203 := n3_
                            have BK208 := n4_
                            have HI188 := n5_
                            have BK224 := n6_
                            have HB := n7_
                            clear n0_ n1_ n2_ n3_ n4_ n5_ n6_ n7_
                            (try clear hb)
                            (try clear hb2)
                            (try clear hk)
                            (try clear hi)
                            refine hK.out _ _ ⟨(blk_cell BK208.out 0).trans rfl, (blk_cell BK208.out 1).trans rfl, (blk_cell BK208.out 2).trans rfl, (blk_cell BK208.out 3).trans rfl, (blk_cell BK208.out 4).trans rfl, (blk_cell BK208.out 5).trans rfl, (blk_cell BK224.out 0).trans rfl, (blk_cell BK224.out 1).trans rfl⟩ (fun hHeld => ?_)
                            clear hK K
                            refine norm_ (a' := ?_) ?_ ?_
                            rotate_left
                            · show Act.put _ (some 90) _ = _
                              simp only [Act.put, List.setIfInBounds_toArray, List.set_cons_zero, List.set_cons_succ, i64_w, i32_w]
                              rfl
                            refine pure_ (i := 17) (N := some 91) (v := ?_) (a' := ?_) #[true, true, true, true, true, true, true, true, true, true, true, true, true, true, true, true, true, true, false] rfl rfl (any_of HT_.out (by kernel_rfl)) (fun _ _ _ h => h) (Or.inl ⟨by rfl, ?_⟩) ?_ ?_
                            rotate_left
                            · intro w'
                              go_simp
                              with_reducible rfl
                            rotate_left
                            · simp only [Act.put, List.setIfInBounds_toArray, List.set_cons_zero, List.set_cons_succ, i64_w, i32_w]
                              rfl
                            refine pure_ (i := 18) (N := some 92) (v := ?_) (a' := ?_) #[true, true, true, true, true, true, true, true, true, true, true, true, true, true, true, true, true, true, true] rfl rfl (any_of HT_.out (by kernel_rfl)) (fun _ _ _ h => h) (Or.inl ⟨by rfl, ?_⟩) ?_ ?_
                            rotate_left
                            · intro w'
                              go_simp
                              with_reducible rfl
                            rotate_left
                            · simp only [Act.put, List.setIfInBounds_toArray, List.set_cons_zero, List.set_cons_succ, i64_w, i32_w]
                              rfl
                            refine done_ (done_of HT_.out (by kernel_rfl)) ?_
                            try go_wp2
                            go_roundg k2
                            case measure => have := HK1.out; have := HK2.out; omega
                            case rel => exact ⟨(wrap64 (x52_2 + 1)), (by first | rfl | (simp; done) | (simp [*]; done)), H', ⟨by have := HK1.out; have := HK2.out; omega⟩, ⟨by (with_reducible repeat (first | apply Kd.R_alloc | apply Kd.R_drewN | apply Kd.R_drew)); exact HO_26.out⟩, ⟨by (with_reducible repeat (first | apply Kd.R_alloc | apply Kd.R_drewN | apply Kd.R_drew)); exact Kd.R_mono HO_50.out (fun _ hk => trivial)⟩, ⟨by (with_reducible repeat (first | refine blk_drewN ?_ _ | refine blk_drew ?_ | refine blk_alloc ?_ _)); exact BK185.out⟩, ⟨by (with_reducible repeat (first | refine blk_drewN ?_ _ | refine blk_drew ?_ | refine blk_alloc ?_ _)); exact BK203.out⟩, ⟨by (with_reducible repeat (first | refine blk_drewN ?_ _ | refine blk_drew ?_ | refine blk_alloc ?_ _)); exact BK208.out⟩, ⟨by repeat (first | (with_reducible first | exact HI188.out | apply IsS54.alloc | apply IsS54.drewN | apply IsS54.drew | apply IsS54.set_1 | refine IsS54.far ?_ NB188_185.out _ | refine IsS54.far ?_ NB188_203.out _ | refine IsS54.far ?_ NB188_208.out _ | refine IsS54.far ?_ NB188_224.out _) | exact HI188.out)⟩, ⟨by repeat (first | (with_reducible first | exact HB.out | apply below_alloc | apply pw_below_drewN | apply below_drew1 | refine below_set ?_ (IsS54.ge HI188.out) | refine below_set ?_ GE185.out | refine below_set ?_ GE203.out | refine below_set ?_ GE208.out | refine below_set ?_ GE224.out) | exact HB.out)⟩⟩
                          · rw [if_neg c50] at H
                            have c50b0 : (t229 == t230) = false := beq_eq_false_iff_ne.mpr c50
                            have c50b1 : (t229 != t230) = true := bne_iff_ne.mpr c50
                            obtain rfl := Option.some.inj H
                            have p223 : 0 ≤ (x52_2 : Int) := of_decide_eq_true (by first | (with_reducible assumption) | assumption)
                            have q223 : x52_2 < (y220.length : Int) := of_decide_eq_true (by first | (with_reducible assumption) | assumption)
                            obtain ⟨ad223, e223, hx223_0, hx223_1⟩ := at_T38 (Kd.R_reads' HO_50.out).2.2 x52_2 p223 q223
                            cases e223
                            replace p223 := eq_true p223
                            replace q223 := eq_true q223
                            try go_wp2_with (first | ((with_reducible refine gate_dst (N := 14) rfl ?_); refine box_event ?hg (N := 14) ?hd (cs := #[.int .i64 0, .int .i64 0]) (t := 38) ?hr ?_; (case hd => rfl); (case hg => rfl); (case hr => first | (go_simp; done) | (go_simp; rfl)); intro gb224 hg w68 hbox hb; have n0_ := Aside0.mk (Kd.R_below (by (with_reducible repeat (first | apply Kd.R_alloc | apply Kd.R_drewN | apply Kd.R_drew)); exact HO_26.out) hb); have n1_ := Aside0.mk (Kd.R_below (Kd.R_elderB (by (with_reducible repeat (first | apply Kd.R_alloc | apply Kd.R_drewN | apply Kd.R_drew)); exact HO_50.out) gb224 (Nat.le_of_eq hg.symm)) hb); have n2_ := Aside0.mk (blk_below (g := gb185) (o := .cells #[.int .i64 a1_0, .int .i64 a1_1, .int .i64 a1_2, .int .i64 a1_3, .int .i64 a1_4, .int .i64 a1_5] 24 (0, 0)) (by (with_reducible repeat (first | refine blk_drewN ?_ _ | refine blk_drew ?_ | refine blk_alloc ?_ _)); exact BK185.out) hb); have n3_ := Aside0.mk (blk_below (g := gb203) (o := .cells #[.int .i64 t194, .int .i64 t195, .int .i64 t196, .int .i64 t197, .int .i64 t198, .int .i64 t199] 24 (0, 0)) (by (with_reducible repeat (first | refine blk_drewN ?_ _ | refine blk_drew ?_ | refine blk_alloc ?_ _)); exact BK203.out) hb); have n4_ := Aside0.mk (blk_below (g := gb208) (o := .cells #[.int .i64 ((rd_T24 y204 x28_1).f0), .int .i64 ((rd_T24 y204 x28_1).f1), .int .i64 ((rd_T24 y204 x28_1).f2), .int .i64 ((rd_T24 y204 x28_1).f3), .int .i64 ((rd_T24 y204 x28_1).f4), .int .i64 ((rd_T24 y204 x28_1).f5)] 24 (0, 0)) (by (with_reducible repeat (first | refine blk_drewN ?_ _ | refine blk_drew ?_ | refine blk_alloc ?_ _)); exact BK208.out) hb); have n5_ := Aside0.mk (IsS54.below (by repeat (first | (with_reducible first | exact HI188.out | apply IsS54.alloc | apply IsS54.drewN | apply IsS54.drew | apply IsS54.set_1 | refine IsS54.far ?_ NB188_185.out _ | refine IsS54.far ?_ NB188_203.out _ | refine IsS54.far ?_ NB188_208.out _) | exact HI188.out)) hb); have n6_ := Aside0.mk (below_step (by repeat (first | (with_reducible first | exact HB.out | apply below_alloc | apply pw_below_drewN | apply below_drew1 | refine below_set ?_ (IsS54.ge HI188.out) | refine below_set ?_ GE185.out | refine below_set ?_ GE203.out | refine below_set ?_ GE208.out) | exact HB.out)) hb); have n7_ := Aside0.mk (hbox); have n8_ := Aside0.mk ((by rw [hg]; exact (below_size (by repeat (first | (with_reducible first | exact HB.out | apply below_alloc | apply pw_below_drewN | apply below_drew1 | refine below_set ?_ (IsS54.ge HI188.out) | refine below_set ?_ GE185.out | refine below_set ?_ GE203.out | refine below_set ?_ GE208.out) | exact HB.out))) : w.heap.size ≤ gb224)); have n9_ := Aside0.mk ((by rw [hg]; exact (below_size (by repeat (first | (with_reducible first | exact HB.out | apply below_alloc | apply pw_below_drewN | apply below_drew1 | refine below_set ?_ (IsS54.ge HI188.out) | refine below_set ?_ GE185.out | refine below_set ?_ GE203.out | refine below_set ?_ GE208.out) | exact HB.out))) : w.heap.size ≤ gb224)); have n10_ := Aside0.mk ((by rw [hg]; exact Nat.ne_of_lt (blk_lt (g := gb185) (o := .cells #[.int .i64 a1_0, .int .i64 a1_1, .int .i64 a1_2, .int .i64 a1_3, .int .i64 a1_4, .int .i64 a1_5] 24 (0, 0)) (by (with_reducible repeat (first | refine blk_drewN ?_ _ | refine blk_drew ?_ | refine blk_alloc ?_ _)); exact BK185.out)) : gb185 ≠ gb224)); have n11_ := Aside0.mk ((by rw [hg]; exact Nat.ne_of_gt (blk_lt (g := gb185) (o := .cells #[.int .i64 a1_0, .int .i64 a1_1, .int .i64 a1_2, .int .i64 a1_3, .int .i64 a1_4, .int .i64 a1_5] 24 (0, 0)) (by (with_reducible repeat (first | refine blk_drewN ?_ _ | refine blk_drew ?_ | refine blk_alloc ?_ _)); exact BK185.out)) : gb224 ≠ gb185)); have n12_ := Aside0.mk ((by rw [hg]; exact Nat.ne_of_lt (blk_lt (g := gb203) (o := .cells #[.int .i64 t194, .int .i64 t195, .int .i64 t196, .int .i64 t197, .int .i64 t198, .int .i64 t199] 24 (0, 0)) (by (with_reducible repeat (first | refine blk_drewN ?_ _ | refine blk_drew ?_ | refine blk_alloc ?_ _)); exact BK203.out)) : gb203 ≠ gb224)); have n13_ := Aside0.mk ((by rw [hg]; exact Nat.ne_of_gt (blk_lt (g := gb203) (o := .cells #[.int .i64 t194, .int .i64 t195, .int .i64 t196, .int .i64 t197, .int .i64 t198, .int .i64 t199] 24 (0, 0)) (by (with_reducible repeat (first | refine blk_drewN ?_ _ | refine blk_drew ?_ | refine blk_alloc ?_ _)); exact BK203.out)) : gb224 ≠ gb203)); have n14_ := Aside0.mk ((by rw [hg]; exact Nat.ne_of_lt (blk_lt (g := gb208) (o := .cells #[.int .i64 ((rd_T24 y204 x28_1).f0), .int .i64 ((rd_T24 y204 x28_1).f1), .int .i64 ((rd_T24 y204 x28_1).f2), .int .i64 ((rd_T24 y204 x28_1).f3), .int .i64 ((rd_T24 y204 x28_1).f4), .int .i64 ((rd_T24 y204 x28_1).f5)] 24 (0, 0)) (by (with_reducible repeat (first | refine blk_drewN ?_ _ | refine blk_drew ?_ | refine blk_alloc ?_ _)); exact BK208.out)) : gb208 ≠ gb224)); have n15_ := Aside0.mk ((by rw [hg]; exact Nat.ne_of_gt (blk_lt (g := gb208) (o := .cells #[.int .i64 ((rd_T24 y204 x28_1).f0), .int .i64 ((rd_T24 y204 x28_1).f1), .int .i64 ((rd_T24 y204 x28_1).f2), .int .i64 ((rd_T24 y204 x28_1).f3), .int .i64 ((rd_T24 y204 x28_1).f4), .int .i64 ((rd_T24 y204 x28_1).f5)] 24 (0, 0)) (by (with_reducible repeat (first | refine blk_drewN ?_ _ | refine blk_drew ?_ | refine blk_alloc ?_ _)); exact BK208.out)) : gb224 ≠ gb208)); have n16_ := Aside0.mk ((by rw [hg]; exact Nat.ne_of_lt (IsS54.lt (show IsS54 w _ g188 t186 t219 from by repeat (first | (with_reducible first | exact HI188.out | apply IsS54.alloc | apply IsS54.drewN | apply IsS54.drew | apply IsS54.set_1 | refine IsS54.far ?_ NB188_185.out _ | refine IsS54.far ?_ NB188_203.out _ | refine IsS54.far ?_ NB188_208.out _) | exact HI188.out))) : g188 ≠ gb224)); have n17_ := Aside0.mk ((by rw [hg]; exact Nat.ne_of_gt (IsS54.lt (show IsS54 w _ g188 t186 t219 from by repeat (first | (with_reducible first | exact HI188.out | apply IsS54.alloc | apply IsS54.drewN | apply IsS54.drew | apply IsS54.set_1 | refine IsS54.far ?_ NB188_185.out _ | refine IsS54.far ?_ NB188_203.out _ | refine IsS54.far ?_ NB188_208.out _) | exact HI188.out))) : gb224 ≠ g188)); clear HO_26; clear HO_50; clear BK185; clear BK203; clear BK208; clear HI188; clear HB; have HO_26 := n0_; have HO_50 := n1_; have BK185 := n2_; have BK203 := n3_; have BK208 := n4_; have HI188 := n5_; have HB := n6_; have BK224 := n7_; have GW224 := n8_; have GE224 := n9_; have NB185_224 := n10_; have NB224_185 := n11_; have NB203_224 := n12_; have NB224_203 := n13_; have NB208_224 := n14_; have NB224_208 := n15_; have NB188_224 := n16_; have NB224_188 := n17_; clear n0_ n1_ n2_ n3_ n4_ n5_ n6_ n7_ n8_ n9_ n10_ n11_ n12_ n13_ n14_ n15_ n16_ n17_; clear hb hbox hg; have hnb69 := NB224_185.out; have hnc69 := NB185_224.out; have hnb70 := NB224_203.out; have hnc70 := NB203_224.out; have hnb71 := NB224_208.out; have hnc71 := NB208_224.out; have hnb72 := NB224_188.out; have hnc72 := NB188_224.out; have hcz73_0 : w68.cell? ⟨gb224, 0, none⟩ = some (.int .i64 0) := (blk_cell BK224.out 0).trans rfl; have hcz73_1 : w68.cell? ⟨gb224, 1, none⟩ = some (.int .i64 0) := (blk_cell BK224.out 1).trans rfl; have hfz73_0 := blk_frozen BK224.out 0; have hfz73_1 := blk_frozen BK224.out 1; have hnb74 := NB208_185.out; have hnc74 := NB185_208.out; have hnb75 := NB208_203.out; have hnc75 := NB203_208.out; have hnb76 := NB208_188.out; have hnc76 := NB188_208.out; have hcz77_0 : w68.cell? ⟨gb208, 0, none⟩ = some (.int .i64 ((rd_T24 y204 x28_1).f0)) := (blk_cell BK208.out 0).trans rfl; have hcz77_1 : w68.cell? ⟨gb208, 1, none⟩ = some (.int .i64 ((rd_T24 y204 x28_1).f1)) := (blk_cell BK208.out 1).trans rfl; have hcz77_2 : w68.cell? ⟨gb208, 2, none⟩ = some (.int .i64 ((rd_T24 y204 x28_1).f2)) := (blk_cell BK208.out 2).trans rfl; have hcz77_3 : w68.cell? ⟨gb208, 3, none⟩ = some (.int .i64 ((rd_T24 y204 x28_1).f3)) := (blk_cell BK208.out 3).trans rfl; have hcz77_4 : w68.cell? ⟨gb208, 4, none⟩ = some (.int .i64 ((rd_T24 y204 x28_1).f4)) := (blk_cell BK208.out 4).trans rfl; have hcz77_5 : w68.cell? ⟨gb208, 5, none⟩ = some (.int .i64 ((rd_T24 y204 x28_1).f5)) := (blk_cell BK208.out 5).trans rfl; have hfz77_0 := blk_frozen BK208.out 0; have hfz77_1 := blk_frozen BK208.out 1; have hfz77_2 := blk_frozen BK208.out 2; have hfz77_3 := blk_frozen BK208.out 3; have hfz77_4 := blk_frozen BK208.out 4; have hfz77_5 := blk_frozen BK208.out 5) | ((with_reducible refine gate_callee (f := 11) rfl ?_); refine goesL_ (some 62) rfl rfl Try.func11 (by kernel_rfl) rfl #[.agg #[.int .i64 ((rd_T24 y204 x28_1).f0), .int .i64 ((rd_T24 y204 x28_1).f1), .int .i64 ((rd_T24 y204 x28_1).f2), .int .i64 ((rd_T24 y204 x28_1).f3), .int .i64 ((rd_T24 y204 x28_1).f4), .int .i64 ((rd_T24 y204 x28_1).f5)], .int .i64 ((rd_T38 y220 x52_2).f0), .int .i64 ((rd_T38 y220 x52_2).f1)] rfl (by (try simp only [List.map_toArray, List.map_cons, List.map_nil]); first | done | rfl | (simp only [List.length_drop, List.length_take]; rfl)) ?_; (with_reducible refine (space_Look.calls k2 ((rd_T24 y204 x28_1).f0) ((rd_T24 y204 x28_1).f1) ((rd_T24 y204 x28_1).f2) ((rd_T24 y204 x28_1).f3) ((rd_T24 y204 x28_1).f4) ((rd_T24 y204 x28_1).f5) ((rd_T38 y220 x52_2).f0) ((rd_T38 y220 x52_2).f1) t225 t226 _ A44.out).mono ?_); rintro e w78 ⟨rfl, hb⟩; refine ⟨_, rfl, ?_⟩; have n0_ := Aside0.mk (Kd.R_below (by (with_reducible repeat (first | apply Kd.R_alloc | apply Kd.R_drewN | apply Kd.R_drew)); exact (Kd.R_mono (Kd.R_far (p := ⟨gb224, 1, none⟩) (Kd.R_far (p := ⟨gb224, 0, none⟩) (Kd.R_types HO_26.out BK224.out (by decide)) (fun _ hk => hk.2) (.int .i64 ((rd_T38 y220 x52_2).f0))) (fun _ hk => hk.2) (.int .i64 ((rd_T38 y220 x52_2).f1))) (fun _ h_ => h_.1))) hb); have n1_ := Aside0.mk (Kd.R_below (by (with_reducible repeat (first | apply Kd.R_alloc | apply Kd.R_drewN | apply Kd.R_drew)); exact (Kd.R_mono (Kd.R_far (p := ⟨gb224, 1, none⟩) (Kd.R_far (p := ⟨gb224, 0, none⟩) (Kd.R_mono HO_50.out (fun k_ hk => (⟨hk, hk.2⟩ : _ ∧ k_ ≠ gb224))) (fun _ hk => hk.2) (.int .i64 ((rd_T38 y220 x52_2).f0))) (fun _ hk => hk.2) (.int .i64 ((rd_T38 y220 x52_2).f1))) (fun _ h_ => h_.1))) hb); have n2_ := Aside0.mk (blk_below (g := gb185) (o := .cells #[.int .i64 a1_0, .int .i64 a1_1, .int .i64 a1_2, .int .i64 a1_3, .int .i64 a1_4, .int .i64 a1_5] 24 (0, 0)) (by (with_reducible repeat (first | refine blk_drewN ?_ _ | refine blk_drew ?_ | refine blk_alloc ?_ _)); refine blk_far ?_ NB185_224.out _; (with_reducible repeat (first | refine blk_drewN ?_ _ | refine blk_drew ?_ | refine blk_alloc ?_ _)); refine blk_far ?_ NB185_224.out _; (with_reducible repeat (first | refine blk_drewN ?_ _ | refine blk_drew ?_ | refine blk_alloc ?_ _)); exact BK185.out) hb); have n3_ := Aside0.mk (blk_below (g := gb203) (o := .cells #[.int .i64 t194, .int .i64 t195, .int .i64 t196, .int .i64 t197, .int .i64 t198, .int .i64 t199] 24 (0, 0)) (by (with_reducible repeat (first | refine blk_drewN ?_ _ | refine blk_drew ?_ | refine blk_alloc ?_ _)); refine blk_far ?_ NB203_224.out _; (with_reducible repeat (first | refine blk_drewN ?_ _ | refine blk_drew ?_ | refine blk_alloc ?_ _)); refine blk_far ?_ NB203_224.out _; (with_reducible repeat (first | refine blk_drewN ?_ _ | refine blk_drew ?_ | refine blk_alloc ?_ _)); exact BK203.out) hb); have n4_ := Aside0.mk (blk_below (g := gb208) (o := .cells #[.int .i64 ((rd_T24 y204 x28_1).f0), .int .i64 ((rd_T24 y204 x28_1).f1), .int .i64 ((rd_T24 y204 x28_1).f2), .int .i64 ((rd_T24 y204 x28_1).f3), .int .i64 ((rd_T24 y204 x28_1).f4), .int .i64 ((rd_T24 y204 x28_1).f5)] 24 (0, 0)) (by (with_reducible repeat (first | refine blk_drewN ?_ _ | refine blk_drew ?_ | refine blk_alloc ?_ _)); refine blk_far ?_ NB208_224.out _; (with_reducible repeat (first | refine blk_drewN ?_ _ | refine blk_drew ?_ | refine blk_alloc ?_ _)); refine blk_far ?_ NB208_224.out _; (with_reducible repeat (first | refine blk_drewN ?_ _ | refine blk_drew ?_ | refine blk_alloc ?_ _)); exact BK208.out) hb); have n5_ := Aside0.mk (IsS54.below (show IsS54 w ((w68.setCell ⟨gb224, 0, none⟩ (.int .i64 ((rd_T38 y220 x52_2).f0))).setCell ⟨gb224, 1, none⟩ (.int .i64 ((rd_T38 y220 x52_2).f1))) g188 t186 t219 from by repeat (first | (with_reducible first | exact HI188.out | apply IsS54.alloc | apply IsS54.drewN | apply IsS54.drew | apply IsS54.set_1 | refine IsS54.far ?_ NB188_185.out _ | refine IsS54.far ?_ NB188_203.out _ | refine IsS54.far ?_ NB188_208.out _ | refine IsS54.far ?_ NB188_224.out _) | exact HI188.out)) hb); have n6_ := Aside0.mk (blk_below (g := gb224) (o := .cells #[.int .i64 ((rd_T38 y220 x52_2).f0), .int .i64 ((rd_T38 y220 x52_2).f1)] 38 (0, 0)) (by (with_reducible repeat (first | refine blk_drewN ?_ _ | refine blk_drew ?_ | refine blk_alloc ?_ _)); refine blk_put (cs := #[.int .i64 ((rd_T38 y220 x52_2).f0), .int .i64 0]) ?_ 1 _ rfl; (with_reducible repeat (first | refine blk_drewN ?_ _ | refine blk_drew ?_ | refine blk_alloc ?_ _)); refine blk_put (cs := #[.int .i64 0, .int .i64 0]) ?_ 0 _ rfl; (with_reducible repeat (first | refine blk_drewN ?_ _ | refine blk_drew ?_ | refine blk_alloc ?_ _)); exact BK224.out) hb); have n7_ := Aside0.mk (below_step (by repeat (first | (with_reducible first | exact HB.out | apply below_alloc | apply pw_below_drewN | apply below_drew1 | refine below_set ?_ (IsS54.ge HI188.out) | refine below_set ?_ GE185.out | refine below_set ?_ GE203.out | refine below_set ?_ GE208.out | refine below_set ?_ GE224.out) | exact HB.out)) hb); clear HO_26; clear HO_50; clear BK185; clear BK203; clear BK208; clear HI188; clear BK224; clear HB; have HO_26 := n0_; have HO_50 := n1_; have BK185 := n2_; have BK203 := n3_; have BK208 := n4_; have HI188 := n5_; have BK224 := n6_; have HB := n7_; clear n0_ n1_ n2_ n3_ n4_ n5_ n6_ n7_; (try clear hb); (try clear hb2); (try clear hk); (try clear hi); have hcz79_0 : w78.cell? ⟨gb208, 0, none⟩ = some (.int .i64 ((rd_T24 y204 x28_1).f0)) := (blk_cell BK208.out 0).trans rfl; have hcz79_1 : w78.cell? ⟨gb208, 1, none⟩ = some (.int .i64 ((rd_T24 y204 x28_1).f1)) := (blk_cell BK208.out 1).trans rfl; have hcz79_2 : w78.cell? ⟨gb208, 2, none⟩ = some (.int .i64 ((rd_T24 y204 x28_1).f2)) := (blk_cell BK208.out 2).trans rfl; have hcz79_3 : w78.cell? ⟨gb208, 3, none⟩ = some (.int .i64 ((rd_T24 y204 x28_1).f3)) := (blk_cell BK208.out 3).trans rfl; have hcz79_4 : w78.cell? ⟨gb208, 4, none⟩ = some (.int .i64 ((rd_T24 y204 x28_1).f4)) := (blk_cell BK208.out 4).trans rfl; have hcz79_5 : w78.cell? ⟨gb208, 5, none⟩ = some (.int .i64 ((rd_T24 y204 x28_1).f5)) := (blk_cell BK208.out 5).trans rfl; have hfz79_0 := blk_frozen BK208.out 0; have hfz79_1 := blk_frozen BK208.out 1; have hfz79_2 := blk_frozen BK208.out 2; have hfz79_3 := blk_frozen BK208.out 3; have hfz79_4 := blk_frozen BK208.out 4; have hfz79_5 := blk_frozen BK208.out 5; have hcz80_0 : w78.cell? ⟨gb224, 0, none⟩ = some (.int .i64 ((rd_T38 y220 x52_2).f0)) := (blk_cell BK224.out 0).trans rfl; have hcz80_1 : w78.cell? ⟨gb224, 1, none⟩ = some (.int .i64 ((rd_T38 y220 x52_2).f1)) := (blk_cell BK224.out 1).trans rfl; have hfz80_0 := blk_frozen BK224.out 0; have hfz80_1 := blk_frozen BK224.out 1) | ((with_reducible refine gate_callee (f := 12) rfl ?_); refine goesL_ (some 71) rfl rfl Try.func12 (by kernel_rfl) rfl #[.agg #[.int .i64 ((rd_T24 y204 x28_1).f0), .int .i64 ((rd_T24 y204 x28_1).f1), .int .i64 ((rd_T24 y204 x28_1).f2), .int .i64 ((rd_T24 y204 x28_1).f3), .int .i64 ((rd_T24 y204 x28_1).f4), .int .i64 ((rd_T24 y204 x28_1).f5)], .int .i64 ((rd_T38 y220 x52_2).f0), .int .i64 ((rd_T38 y220 x52_2).f1)] rfl (by (try simp only [List.map_toArray, List.map_cons, List.map_nil]); first | done | rfl | (simp only [List.length_drop, List.length_take]; rfl)) ?_; (with_reducible refine (kauditref26_Look.calls k2 ((rd_T24 y204 x28_1).f0) ((rd_T24 y204 x28_1).f1) ((rd_T24 y204 x28_1).f2) ((rd_T24 y204 x28_1).f3) ((rd_T24 y204 x28_1).f4) ((rd_T24 y204 x28_1).f5) ((rd_T38 y220 x52_2).f0) ((rd_T38 y220 x52_2).f1) t227 t228 _ A45.out).mono ?_); rintro e w81 ⟨rfl, hb⟩; refine ⟨_, rfl, ?_⟩; have n0_ := Aside0.mk (Kd.R_below (by (with_reducible repeat (first | apply Kd.R_alloc | apply Kd.R_drewN | apply Kd.R_drew)); exact HO_26.out) hb); have n1_ := Aside0.mk (Kd.R_below (by (with_reducible repeat (first | apply Kd.R_alloc | apply Kd.R_drewN | apply Kd.R_drew)); exact HO_50.out) hb); have n2_ := Aside0.mk (blk_below (g := gb185) (o := .cells #[.int .i64 a1_0, .int .i64 a1_1, .int .i64 a1_2, .int .i64 a1_3, .int .i64 a1_4, .int .i64 a1_5] 24 (0, 0)) (by (with_reducible repeat (first | refine blk_drewN ?_ _ | refine blk_drew ?_ | refine blk_alloc ?_ _)); exact BK185.out) hb); have n3_ := Aside0.mk (blk_below (g := gb203) (o := .cells #[.int .i64 t194, .int .i64 t195, .int .i64 t196, .int .i64 t197, .int .i64 t198, .int .i64 t199] 24 (0, 0)) (by (with_reducible repeat (first | refine blk_drewN ?_ _ | refine blk_drew ?_ | refine blk_alloc ?_ _)); exact BK203.out) hb); have n4_ := Aside0.mk (blk_below (g := gb208) (o := .cells #[.int .i64 ((rd_T24 y204 x28_1).f0), .int .i64 ((rd_T24 y204 x28_1).f1), .int .i64 ((rd_T24 y204 x28_1).f2), .int .i64 ((rd_T24 y204 x28_1).f3), .int .i64 ((rd_T24 y204 x28_1).f4), .int .i64 ((rd_T24 y204 x28_1).f5)] 24 (0, 0)) (by (with_reducible repeat (first | refine blk_drewN ?_ _ | refine blk_drew ?_ | refine blk_alloc ?_ _)); exact BK208.out) hb); have n5_ := Aside0.mk (IsS54.below (by repeat (first | (with_reducible first | exact HI188.out | apply IsS54.alloc | apply IsS54.drewN | apply IsS54.drew | apply IsS54.set_1 | refine IsS54.far ?_ NB188_185.out _ | refine IsS54.far ?_ NB188_203.out _ | refine IsS54.far ?_ NB188_208.out _ | refine IsS54.far ?_ NB188_224.out _) | exact HI188.out)) hb); have n6_ := Aside0.mk (blk_below (g := gb224) (o := .cells #[.int .i64 ((rd_T38 y220 x52_2).f0), .int .i64 ((rd_T38 y220 x52_2).f1)] 38 (0, 0)) (by (with_reducible repeat (first | refine blk_drewN ?_ _ | refine blk_drew ?_ | refine blk_alloc ?_ _)); exact BK224.out) hb); have n7_ := Aside0.mk (below_step (by repeat (first | (with_reducible first | exact HB.out | apply below_alloc | apply pw_below_drewN | apply below_drew1 | refine below_set ?_ (IsS54.ge HI188.out) | refine below_set ?_ GE185.out | refine below_set ?_ GE203.out | refine below_set ?_ GE208.out | refine below_set ?_ GE224.out) | exact HB.out)) hb); clear HO_26; clear HO_50; clear BK185; clear BK203; clear BK208; clear HI188; clear BK224; clear HB; have HO_26 := n0_; have HO_50 := n1_; have BK185 := n2_; have BK203 := n3_; have BK208 := n4_; have HI188 := n5_; have BK224 := n6_; have HB := n7_; clear n0_ n1_ n2_ n3_ n4_ n5_ n6_ n7_; (try clear hb); (try clear hb2); (try clear hk); (try clear hi)))
                            have n0_ := Aside0.mk (Kd.R_drew HO_26.out)
                            have n1_ := Aside0.mk (Kd.R_drew HO_50.out)
                            have n2_ := Aside0.mk (blk_drew BK185.out)
                            have n3_ := Aside0.mk (blk_drew BK203.out)
                            have n4_ := Aside0.mk (blk_drew BK208.out)
                            have n5_ := Aside0.mk (blk_drew BK224.out)
                            have n6_ := Aside0.mk (IsS54.drew HI188.out)
                            have n7_ := Aside0.mk (below_drew1 HB.out)
                            clear HO_26
                            clear HO_50
                            clear BK185
                            clear BK203
                            clear BK208
                            clear BK224
                            clear HI188
                            clear HB
                            have HO_26 := n0_
                            have HO_50 := n1_
                            have BK185 := n2_
                            have BK203 := n3_
                            have BK208 := n4_
                            have BK224 := n5_
                            have HI188 := n6_
                            have HB := n7_
                            clear n0_ n1_ n2_ n3_ n4_ n5_ n6_ n7_
                            refine start_ (n := 19) (S := fun w' => w'.cell? ⟨gb208, 0, none⟩ = some (.int .i64 ((rd_T24 y204 x28_1).f0)) ∧ w'.cell? ⟨gb208, 1, none⟩ = some (.int .i64 ((rd_T24 y204 x28_1).f1)) ∧ w'.cell? ⟨gb208, 2, none⟩ = some (.int .i64 ((rd_T24 y204 x28_1).f2)) ∧ w'.cell? ⟨gb208, 3, none⟩ = some (.int .i64 ((rd_T24 y204 x28_1).f3)) ∧ w'.cell? ⟨gb208, 4, none⟩ = some (.int .i64 ((rd_T24 y204 x28_1).f4)) ∧ w'.cell? ⟨gb208, 5, none⟩ = some (.int .i64 ((rd_T24 y204 x28_1).f5)) ∧ w'.cell? ⟨gb224, 0, none⟩ = some (.int .i64 ((rd_T38 y220 x52_2).f0)) ∧ w'.cell? ⟨gb224, 1, none⟩ = some (.int .i64 ((rd_T38 y220 x52_2).f1))) (ds := []) #[false, false, false, false, false, false, false, false, false, false, false, false, false, false, false, false, false, false, false] (by kernel_rfl) rfl rfl ⟨(blk_cell BK208.out 0).trans rfl, (blk_cell BK208.out 1).trans rfl, (blk_cell BK208.out 2).trans rfl, (blk_cell BK208.out 3).trans rfl, (blk_cell BK208.out 4).trans rfl, (blk_cell BK208.out 5).trans rfl, (blk_cell BK224.out 0).trans rfl, (blk_cell BK224.out 1).trans rfl⟩ (fun hHeld => ?_); refine with_tabW looks.tab11 looks.bits11 (fun HT_ HW_ => ?_)
                            generalize w81.drew = w82 at HO_26 HO_50 BK185 BK203 BK208 BK224 HI188 HB hHeld ⊢
                            refine pure_ (i := 0) (N := some 74) (v := ?_) (a' := ?_) #[true, false, false, false, false, false, false, false, false, false, false, false, false, false, false, false, false, false, false] rfl rfl (any_of HT_.out (by kernel_rfl)) (fun _ _ _ h => h) (Or.inl ⟨by rfl, ?_⟩) ?_ ?_
                            rotate_left
                            · intro w'
                              go_simp
                              with_reducible rfl
                            rotate_left
                            · simp only [Act.put, List.setIfInBounds_toArray, List.set_cons_zero, List.set_cons_succ, i64_w, i32_w]
                              rfl
                            refine pure_ (i := 1) (N := some 75) (v := ?_) (a' := ?_) #[true, true, false, false, false, false, false, false, false, false, false, false, false, false, false, false, false, false, false] rfl rfl (any_of HT_.out (by kernel_rfl)) (fun _ _ _ h => h) (Or.inl ⟨by rfl, ?_⟩) ?_ ?_
                            rotate_left
                            · intro w'
                              go_simp
                              with_reducible rfl
                            rotate_left
                            · simp only [Act.put, List.setIfInBounds_toArray, List.set_cons_zero, List.set_cons_succ, i64_w, i32_w]
                              rfl
                            refine pure_ (i := 2) (N := some 76) (v := ?_) (a' := ?_) #[true, true, true, false, false, false, false, false, false, false, false, false, false, false, false, false, false, false, false] rfl rfl (any_of HT_.out (by kernel_rfl)) (fun _ _ _ h => h) (Or.inl ⟨by rfl, ?_⟩) ?_ ?_
                            rotate_left
                            · intro w'
                              go_simp
                              with_reducible rfl
                            rotate_left
                            · simp only [Act.put, List.setIfInBounds_toArray, List.set_cons_zero, List.set_cons_succ, i64_w, i32_w]
                              rfl
                            refine pure_ (i := 3) (N := some 77) (v := ?_) (a' := ?_) #[true, true, true, true, false, false, false, false, false, false, false, false, false, false, false, false, false, false, false] rfl rfl (any_of HT_.out (by kernel_rfl)) (fun _ _ _ h => h) (Or.inl ⟨by rfl, ?_⟩) ?_ ?_
                            rotate_left
                            · intro w'
                              go_simp
                              with_reducible rfl
                            rotate_left
                            · simp only [Act.put, List.setIfInBounds_toArray, List.set_cons_zero, List.set_cons_succ, i64_w, i32_w]
                              rfl
                            refine pure_ (i := 4) (N := some 78) (v := ?_) (a' := ?_) #[true, true, true, true, true, false, false, false, false, false, false, false, false, false, false, false, false, false, false] rfl rfl (any_of HT_.out (by kernel_rfl)) (fun _ _ _ h => h) (Or.inl ⟨by rfl, ?_⟩) ?_ ?_
                            rotate_left
                            · intro w'
                              go_simp
                              with_reducible rfl
                            rotate_left
                            · simp only [Act.put, List.setIfInBounds_toArray, List.set_cons_zero, List.set_cons_succ, i64_w, i32_w]
                              rfl
                            refine pure_ (i := 5) (N := some 79) (v := ?_) (a' := ?_) #[true, true, true, true, true, true, false, false, false, false, false, false, false, false, false, false, false, false, false] rfl rfl (any_of HT_.out (by kernel_rfl)) (fun _ _ _ h => h) (Or.inl ⟨by rfl, ?_⟩) ?_ ?_
                            rotate_left
                            · intro w'
                              go_simp
                              with_reducible rfl
                            rotate_left
                            · simp only [Act.put, List.setIfInBounds_toArray, List.set_cons_zero, List.set_cons_succ, i64_w, i32_w]
                              rfl
                            refine pure_ (i := 6) (N := some 80) (v := ?_) (a' := ?_) #[true, true, true, true, true, true, true, false, false, false, false, false, false, false, false, false, false, false, false] rfl rfl (any_of HT_.out (by kernel_rfl)) (fun _ _ _ h => h) (Or.inl ⟨by rfl, ?_⟩) ?_ ?_
                            rotate_left
                            · intro w'
                              go_simp
                              with_reducible rfl
                            rotate_left
                            · simp only [Act.put, List.setIfInBounds_toArray, List.set_cons_zero, List.set_cons_succ, i64_w, i32_w]
                              rfl
                            refine pure_ (i := 7) (N := some 81) (v := ?_) (a' := ?_) #[true, true, true, true, true, true, true, true, false, false, false, false, false, false, false, false, false, false, false] rfl rfl (any_of HT_.out (by kernel_rfl)) (fun _ _ _ h => h) (Or.inl ⟨by rfl, ?_⟩) ?_ ?_
                            rotate_left
                            · intro w'
                              go_simp
                              with_reducible rfl
                            rotate_left
                            · simp only [Act.put, List.setIfInBounds_toArray, List.set_cons_zero, List.set_cons_succ, i64_w, i32_w]
                              rfl
                            refine pure_ (i := 8) (N := some 82) (v := ?_) (a' := ?_) #[true, true, true, true, true, true, true, true, true, false, false, false, false, false, false, false, false, false, false] rfl rfl (any_of HT_.out (by kernel_rfl)) (fun _ _ _ h => h) (Or.inl ⟨by rfl, ?_⟩) ?_ ?_
                            rotate_left
                            · intro w'
                              go_simp
                              with_reducible rfl
                            rotate_left
                            · simp only [Act.put, List.setIfInBounds_toArray, List.set_cons_zero, List.set_cons_succ, i64_w, i32_w]
                              rfl
                            refine pure_ (i := 10) (N := some 84) (v := ?_) (a' := ?_) #[true, true, true, true, true, true, true, true, true, false, true, false, false, false, false, false, false, false, false] rfl rfl (any_of HT_.out (by kernel_rfl)) (fun _ _ _ h => h) (Or.inl ⟨by rfl, ?_⟩) ?_ ?_
                            rotate_left
                            · intro w'
                              go_simp
                              with_reducible rfl
                            rotate_left
                            · simp only [Act.put, List.setIfInBounds_toArray, List.set_cons_zero, List.set_cons_succ, i64_w, i32_w]
                              rfl
                            refine pure_ (i := 14) (N := some 88) (v := ?_) (a' := ?_) #[true, true, true, true, true, true, true, true, true, false, true, false, false, false, true, false, false, false, false] rfl rfl (any_of HT_.out (by kernel_rfl)) (fun _ _ _ h => h) (Or.inl ⟨by rfl, ?_⟩) ?_ ?_
                            rotate_left
                            · intro w'
                              go_simp
                              with_reducible rfl
                            rotate_left
                            · simp only [Act.put, List.setIfInBounds_toArray, List.set_cons_zero, List.set_cons_succ, i64_w, i32_w]
                              rfl
                            refine take_ (i := 9) (N := some 83) (v := ?_) (a' := ?_) #[true, true, true, true, true, true, true, true, true, true, true, false, false, false, true, false, false, false, false] rfl rfl (take_ofW HT_.out HW_.out (by kernel_rfl)) (fun _ _ _ h => h) (Or.inl ⟨by rfl, ?_⟩) hHeld ?_ ?_
                            rotate_left
                            · rintro w' ⟨s0, s1, s2, s3, s4, s5, s6, s7⟩
                              go_simp
                              with_reducible rfl
                            rotate_left
                            · simp only [Act.put, List.setIfInBounds_toArray, List.set_cons_zero, List.set_cons_succ, i64_w, i32_w]
                              rfl
                            refine take_ (i := 11) (N := some 85) (v := ?_) (a' := ?_) #[true, true, true, true, true, true, true, true, true, true, true, true, false, false, true, false, false, false, false] rfl rfl (take_ofW HT_.out HW_.out (by kernel_rfl)) (fun _ _ _ h => h) (Or.inl ⟨by rfl, ?_⟩) hHeld ?_ ?_
                            rotate_left
                            · rintro w' ⟨s0, s1, s2, s3, s4, s5, s6, s7⟩
                              go_simp
                              with_reducible rfl
                            rotate_left
                            · simp only [Act.put, List.setIfInBounds_toArray, List.set_cons_zero, List.set_cons_succ, i64_w, i32_w]
                              rfl
                            refine take_ (i := 13) (N := some 87) (v := ?_) (a' := ?_) #[true, true, true, true, true, true, true, true, true, true, true, true, false, true, true, false, false, false, false] rfl rfl (take_ofW HT_.out HW_.out (by kernel_rfl)) (fun _ _ _ h => h) (Or.inl ⟨by rfl, ?_⟩) hHeld ?_ ?_
                            rotate_left
                            · rintro w' ⟨s0, s1, s2, s3, s4, s5, s6, s7⟩
                              go_simp
                              with_reducible rfl
                            rotate_left
                            · simp only [Act.put, List.setIfInBounds_toArray, List.set_cons_zero, List.set_cons_succ, i64_w, i32_w]
                              rfl
                            refine take_ (i := 15) (N := some 89) (v := ?_) (a' := ?_) #[true, true, true, true, true, true, true, true, true, true, true, true, false, true, true, true, false, false, false] rfl rfl (take_ofW HT_.out HW_.out (by kernel_rfl)) (fun _ _ _ h => h) (Or.inl ⟨by rfl, ?_⟩) hHeld ?_ ?_
                            rotate_left
                            · rintro w' ⟨s0, s1, s2, s3, s4, s5, s6, s7⟩
                              go_simp
                              with_reducible rfl
                            rotate_left
                            · simp only [Act.put, List.setIfInBounds_toArray, List.set_cons_zero, List.set_cons_succ, i64_w, i32_w]
                              rfl
                            refine one_ (i := 12) (N := some 86) #[true, true, true, true, true, true, true, true, true, true, true, true, true, true, true, true, false, false, false] rfl rfl (one_of HT_.out (by kernel_rfl)) (by decide) (fun K hK => ?_)
                            refine goes_ Try.func13 (by kernel_rfl) rfl #[.agg #[.int .i64 ((rd_T24 y204 x28_1).f0), .int .i64 ((rd_T24 y204 x28_1).f1), .int .i64 ((rd_T24 y204 x28_1).f2), .int .i64 ((rd_T24 y204 x28_1).f3), .int .i64 ((rd_T24 y204 x28_1).f4), .int .i64 ((rd_T24 y204 x28_1).f5)], .int .i64 ((rd_T38 y220 x52_2).f1)] (by rfl) rfl rfl (by (try simp only [List.map_toArray, List.map_cons, List.map_nil]); first | done | rfl | (simp only [List.length_drop, List.length_take]; rfl)) ?_
                            with_reducible refine (space_Level.calls ((rd_T24 y204 x28_1).f0) ((rd_T24 y204 x28_1).f1) ((rd_T24 y204 x28_1).f2) ((rd_T24 y204 x28_1).f3) ((rd_T24 y204 x28_1).f4) ((rd_T24 y204 x28_1).f5) ((rd_T38 y220 x52_2).f1) t229 _ A48.out).mono ?_
                            rintro e w83 ⟨rfl, hb⟩
                            refine ⟨_, rfl, ?_⟩
                            have n0_ := Aside0.mk (Kd.R_below (by (with_reducible repeat (first | apply Kd.R_alloc | apply Kd.R_drewN | apply Kd.R_drew)); exact HO_26.out) hb)
                            have n1_ := Aside0.mk (Kd.R_below (by (with_reducible repeat (first | apply Kd.R_alloc | apply Kd.R_drewN | apply Kd.R_drew)); exact HO_50.out) hb)
                            have n2_ := Aside0.mk (blk_below (g := gb185) (o := .cells #[.int .i64 a1_0, .int .i64 a1_1, .int .i64 a1_2, .int .i64 a1_3, .int .i64 a1_4, .int .i64 a1_5] 24 (0, 0)) (by (with_reducible repeat (first | refine blk_drewN ?_ _ | refine blk_drew ?_ | refine blk_alloc ?_ _)); exact BK185.out) hb)
                            have n3_ := Aside0.mk (blk_below (g := gb203) (o := .cells #[.int .i64 t194, .int .i64 t195, .int .i64 t196, .int .i64 t197, .int .i64 t198, .int .i64 t199] 24 (0, 0)) (by (with_reducible repeat (first | refine blk_drewN ?_ _ | refine blk_drew ?_ | refine blk_alloc ?_ _)); exact BK203.out) hb)
                            have n4_ := Aside0.mk (blk_below (g := gb208) (o := .cells #[.int .i64 ((rd_T24 y204 x28_1).f0), .int .i64 ((rd_T24 y204 x28_1).f1), .int .i64 ((rd_T24 y204 x28_1).f2), .int .i64 ((rd_T24 y204 x28_1).f3), .int .i64 ((rd_T24 y204 x28_1).f4), .int .i64 ((rd_T24 y204 x28_1).f5)] 24 (0, 0)) (by (with_reducible repeat (first | refine blk_drewN ?_ _ | refine blk_drew ?_ | refine blk_alloc ?_ _)); exact BK208.out) hb)
                            have n5_ := Aside0.mk (IsS54.below (by repeat (first | (with_reducible first | exact HI188.out | apply IsS54.alloc | apply IsS54.drewN | apply IsS54.drew | apply IsS54.set_1 | refine IsS54.far ?_ NB188_185.out _ | refine IsS54.far ?_ NB188_203.out _ | refine IsS54.far ?_ NB188_208.out _ | refine IsS54.far ?_ NB188_224.out _) | exact HI188.out)) hb)
                            have n6_ := Aside0.mk (blk_below (g := gb224) (o := .cells #[.int .i64 ((rd_T38 y220 x52_2).f0), .int .i64 ((rd_T38 y220 x52_2).f1)] 38 (0, 0)) (by (with_reducible repeat (first | refine blk_drewN ?_ _ | refine blk_drew ?_ | refine blk_alloc ?_ _)); exact BK224.out) hb)
                            have n7_ := Aside0.mk (below_step (by repeat (first | (with_reducible first | exact HB.out | apply below_alloc | apply pw_below_drewN | apply below_drew1 | refine below_set ?_ (IsS54.ge HI188.out) | refine below_set ?_ GE185.out | refine below_set ?_ GE203.out | refine below_set ?_ GE208.out | refine below_set ?_ GE224.out) | exact HB.out)) hb)
                            clear HO_26
                            clear HO_50
                            clear BK185
                            clear BK203
                            clear BK208
                            clear HI188
                            clear BK224
                            clear HB
                            have HO_26 := n0_
                            have HO_50 := n1_
                            have BK185 := n2_
                            have BK203 := n3_
                            have BK208 := n4_
                            have HI188 := n5_
                            have BK224 := n6_
                            have HB := n7_
                            clear n0_ n1_ n2_ n3_ n4_ n5_ n6_ n7_
                            (try clear hb)
                            (try clear hb2)
                            (try clear hk)
                            (try clear hi)
                            refine hK.out _ _ ⟨(blk_cell BK208.out 0).trans rfl, (blk_cell BK208.out 1).trans rfl, (blk_cell BK208.out 2).trans rfl, (blk_cell BK208.out 3).trans rfl, (blk_cell BK208.out 4).trans rfl, (blk_cell BK208.out 5).trans rfl, (blk_cell BK224.out 0).trans rfl, (blk_cell BK224.out 1).trans rfl⟩ (fun hHeld => ?_)
                            clear hK K
                            refine norm_ (a' := ?_) ?_ ?_
                            rotate_left
                            · show Act.put _ (some 86) _ = _
                              simp only [Act.put, List.setIfInBounds_toArray, List.set_cons_zero, List.set_cons_succ, i64_w, i32_w]
                              rfl
                            refine one_ (i := 16) (N := some 90) #[true, true, true, true, true, true, true, true, true, true, true, true, true, true, true, true, true, false, false] rfl rfl (one_of HT_.out (by kernel_rfl)) (by decide) (fun K hK => ?_)
                            refine goes_ Try.func14 (by kernel_rfl) rfl #[.agg #[.int .i64 ((rd_T24 y204 x28_1).f0), .int .i64 ((rd_T24 y204 x28_1).f1), .int .i64 ((rd_T24 y204 x28_1).f2), .int .i64 ((rd_T24 y204 x28_1).f3), .int .i64 ((rd_T24 y204 x28_1).f4), .int .i64 ((rd_T24 y204 x28_1).f5)], .int .i64 ((rd_T38 y220 x52_2).f1)] (by rfl) rfl rfl (by (try simp only [List.map_toArray, List.map_cons, List.map_nil]); first | done | rfl | (simp only [List.length_drop, List.length_take]; rfl)) ?_
                            with_reducible refine (kauditref26_Level.calls k2 ((rd_T24 y204 x28_1).f0) ((rd_T24 y204 x28_1).f1) ((rd_T24 y204 x28_1).f2) ((rd_T24 y204 x28_1).f3) ((rd_T24 y204 x28_1).f4) ((rd_T24 y204 x28_1).f5) ((rd_T38 y220 x52_2).f1) t230 _ A49.out).mono ?_
                            rintro e w84 ⟨rfl, hb⟩
                            refine ⟨_, rfl, ?_⟩
                            have n0_ := Aside0.mk (Kd.R_below (by (with_reducible repeat (first | apply Kd.R_alloc | apply Kd.R_drewN | apply Kd.R_drew)); exact HO_26.out) hb)
                            have n1_ := Aside0.mk (Kd.R_below (by (with_reducible repeat (first | apply Kd.R_alloc | apply Kd.R_drewN | apply Kd.R_drew)); exact HO_50.out) hb)
                            have n2_ := Aside0.mk (blk_below (g := gb185) (o := .cells #[.int .i64 a1_0, .int .i64 a1_1, .int .i64 a1_2, .int .i64 a1_3, .int .i64 a1_4, .int .i64 a1_5] 24 (0, 0)) (by (with_reducible repeat (first | refine blk_drewN ?_ _ | refine blk_drew ?_ | refine blk_alloc ?_ _)); exact BK185.out) hb)
                            have n3_ := Aside0.mk (blk_below (g := gb203) (o := .cells #[.int .i64 t194, .int .i64 t195, .int .i64 t196, .int .i64 t197, .int .i64 t198, .int .i64 t199] 24 (0, 0)) (by (with_reducible repeat (first | refine blk_drewN ?_ _ | refine blk_drew ?_ | refine blk_alloc ?_ _)); exact BK203.out) hb)
                            have n4_ := Aside0.mk (blk_below (g := gb208) (o := .cells #[.int .i64 ((rd_T24 y204 x28_1).f0), .int .i64 ((rd_T24 y204 x28_1).f1), .int .i64 ((rd_T24 y204 x28_1).f2), .int .i64 ((rd_T24 y204 x28_1).f3), .int .i64 ((rd_T24 y204 x28_1).f4), .int .i64 ((rd_T24 y204 x28_1).f5)] 24 (0, 0)) (by (with_reducible repeat (first | refine blk_drewN ?_ _ | refine blk_drew ?_ | refine blk_alloc ?_ _)); exact BK208.out) hb)
                            have n5_ := Aside0.mk (IsS54.below (by repeat (first | (with_reducible first | exact HI188.out | apply IsS54.alloc | apply IsS54.drewN | apply IsS54.drew | apply IsS54.set_1 | refine IsS54.far ?_ NB188_185.out _ | refine IsS54.far ?_ NB188_203.out _ | refine IsS54.far ?_ NB188_208.out _ | refine IsS54.far ?_ NB188_224.out _) | exact HI188.out)) hb)
                            have n6_ := Aside0.mk (blk_below (g := gb224) (o := .cells #[.int .i64 ((rd_T38 y220 x52_2).f0), .int .i64 ((rd_T38 y220 x52_2).f1)] 38 (0, 0)) (by (with_reducible repeat (first | refine blk_drewN ?_ _ | refine blk_drew ?_ | refine blk_alloc ?_ _)); exact BK224.out) hb)
                            have n7_ := Aside0.mk (below_step (by repeat (first | (with_reducible first | exact HB.out | apply below_alloc | apply pw_below_drewN | apply below_drew1 | refine below_set ?_ (IsS54.ge HI188.out) | refine below_set ?_ GE185.out | refine below_set ?_ GE203.out | refine below_set ?_ GE208.out | refine below_set ?_ GE224.out) | exact HB.out)) hb)
                            clear HO_26
                            clear HO_50
                            clear BK185
                            clear BK203
                            clear BK208
                            clear HI188
                            clear BK224
                            clear HB
                            have HO_26 := n0_
                            have HO_50 := n1_
                            have BK185 := n2_
                            have BK203 := n3_
                            have BK208 := n4_
                            have HI188 := n5_
                            have BK224 := n6_
                            have HB := n7_
                            clear n0_ n1_ n2_ n3_ n4_ n5_ n6_ n7_
                            (try clear hb)
                            (try clear hb2)
                            (try clear hk)
                            (try clear hi)
                            refine hK.out _ _ ⟨(blk_cell BK208.out 0).trans rfl, (blk_cell BK208.out 1).trans rfl, (blk_cell BK208.out 2).trans rfl, (blk_cell BK208.out 3).trans rfl, (blk_cell BK208.out 4).trans rfl, (blk_cell BK208.out 5).trans rfl, (blk_cell BK224.out 0).trans rfl, (blk_cell BK224.out 1).trans rfl⟩ (fun hHeld => ?_)
                            clear hK K
                            refine norm_ (a' := ?_) ?_ ?_
                            rotate_left
                            · show Act.put _ (some 90) _ = _
                              simp only [Act.put, List.setIfInBounds_toArray, List.set_cons_zero, List.set_cons_succ, i64_w, i32_w]
                              rfl
                            refine pure_ (i := 17) (N := some 91) (v := ?_) (a' := ?_) #[true, true, true, true, true, true, true, true, true, true, true, true, true, true, true, true, true, true, false] rfl rfl (any_of HT_.out (by kernel_rfl)) (fun _ _ _ h => h) (Or.inl ⟨by rfl, ?_⟩) ?_ ?_
                            rotate_left
                            · intro w'
                              go_simp
                              with_reducible rfl
                            rotate_left
                            · simp only [Act.put, List.setIfInBounds_toArray, List.set_cons_zero, List.set_cons_succ, i64_w, i32_w]
                              rfl
                            refine pure_ (i := 18) (N := some 92) (v := ?_) (a' := ?_) #[true, true, true, true, true, true, true, true, true, true, true, true, true, true, true, true, true, true, true] rfl rfl (any_of HT_.out (by kernel_rfl)) (fun _ _ _ h => h) (Or.inl ⟨by rfl, ?_⟩) ?_ ?_
                            rotate_left
                            · intro w'
                              go_simp
                              with_reducible rfl
                            rotate_left
                            · simp only [Act.put, List.setIfInBounds_toArray, List.set_cons_zero, List.set_cons_succ, i64_w, i32_w]
                              rfl
                            refine done_ (done_of HT_.out (by kernel_rfl)) ?_
                            try go_wp2
                            go_ret
                            exact ⟨by first | rfl | (simp [errW_none, errW_some] <;> rfl) | (simp [*, errW_none, errW_some] <;> rfl), by repeat (first | (with_reducible first | exact HB.out | apply below_alloc | apply pw_below_drewN | apply below_drew1 | refine below_set ?_ (IsS54.ge HI188.out) | refine below_set ?_ GE185.out | refine below_set ?_ GE203.out | refine below_set ?_ GE208.out | refine below_set ?_ GE224.out) | exact HB.out)⟩
                        · rw [if_neg c47] at H
                          have c47b0 : (t226 == t228) = false := beq_eq_false_iff_ne.mpr c47
                          have c47b1 : (t226 != t228) = true := bne_iff_ne.mpr c47
                          obtain rfl := Option.some.inj H
                          have p223 : 0 ≤ (x52_2 : Int) := of_decide_eq_true (by first | (with_reducible assumption) | assumption)
                          have q223 : x52_2 < (y220.length : Int) := of_decide_eq_true (by first | (with_reducible assumption) | assumption)
                          obtain ⟨ad223, e223, hx223_0, hx223_1⟩ := at_T38 (Kd.R_reads' HO_50.out).2.2 x52_2 p223 q223
                          cases e223
                          replace p223 := eq_true p223
                          replace q223 := eq_true q223
                          try go_wp2_with (first | ((with_reducible refine gate_dst (N := 14) rfl ?_); refine box_event ?hg (N := 14) ?hd (cs := #[.int .i64 0, .int .i64 0]) (t := 38) ?hr ?_; (case hd => rfl); (case hg => rfl); (case hr => first | (go_simp; done) | (go_simp; rfl)); intro gb224 hg w85 hbox hb; have n0_ := Aside0.mk (Kd.R_below (by (with_reducible repeat (first | apply Kd.R_alloc | apply Kd.R_drewN | apply Kd.R_drew)); exact HO_26.out) hb); have n1_ := Aside0.mk (Kd.R_below (Kd.R_elderB (by (with_reducible repeat (first | apply Kd.R_alloc | apply Kd.R_drewN | apply Kd.R_drew)); exact HO_50.out) gb224 (Nat.le_of_eq hg.symm)) hb); have n2_ := Aside0.mk (blk_below (g := gb185) (o := .cells #[.int .i64 a1_0, .int .i64 a1_1, .int .i64 a1_2, .int .i64 a1_3, .int .i64 a1_4, .int .i64 a1_5] 24 (0, 0)) (by (with_reducible repeat (first | refine blk_drewN ?_ _ | refine blk_drew ?_ | refine blk_alloc ?_ _)); exact BK185.out) hb); have n3_ := Aside0.mk (blk_below (g := gb203) (o := .cells #[.int .i64 t194, .int .i64 t195, .int .i64 t196, .int .i64 t197, .int .i64 t198, .int .i64 t199] 24 (0, 0)) (by (with_reducible repeat (first | refine blk_drewN ?_ _ | refine blk_drew ?_ | refine blk_alloc ?_ _)); exact BK203.out) hb); have n4_ := Aside0.mk (blk_below (g := gb208) (o := .cells #[.int .i64 ((rd_T24 y204 x28_1).f0), .int .i64 ((rd_T24 y204 x28_1).f1), .int .i64 ((rd_T24 y204 x28_1).f2), .int .i64 ((rd_T24 y204 x28_1).f3), .int .i64 ((rd_T24 y204 x28_1).f4), .int .i64 ((rd_T24 y204 x28_1).f5)] 24 (0, 0)) (by (with_reducible repeat (first | refine blk_drewN ?_ _ | refine blk_drew ?_ | refine blk_alloc ?_ _)); exact BK208.out) hb); have n5_ := Aside0.mk (IsS54.below (by repeat (first | (with_reducible first | exact HI188.out | apply IsS54.alloc | apply IsS54.drewN | apply IsS54.drew | apply IsS54.set_1 | refine IsS54.far ?_ NB188_185.out _ | refine IsS54.far ?_ NB188_203.out _ | refine IsS54.far ?_ NB188_208.out _) | exact HI188.out)) hb); have n6_ := Aside0.mk (below_step (by repeat (first | (with_reducible first | exact HB.out | apply below_alloc | apply pw_below_drewN | apply below_drew1 | refine below_set ?_ (IsS54.ge HI188.out) | refine below_set ?_ GE185.out | refine below_set ?_ GE203.out | refine below_set ?_ GE208.out) | exact HB.out)) hb); have n7_ := Aside0.mk (hbox); have n8_ := Aside0.mk ((by rw [hg]; exact (below_size (by repeat (first | (with_reducible first | exact HB.out | apply below_alloc | apply pw_below_drewN | apply below_drew1 | refine below_set ?_ (IsS54.ge HI188.out) | refine below_set ?_ GE185.out | refine below_set ?_ GE203.out | refine below_set ?_ GE208.out) | exact HB.out))) : w.heap.size ≤ gb224)); have n9_ := Aside0.mk ((by rw [hg]; exact (below_size (by repeat (first | (with_reducible first | exact HB.out | apply below_alloc | apply pw_below_drewN | apply below_drew1 | refine below_set ?_ (IsS54.ge HI188.out) | refine below_set ?_ GE185.out | refine below_set ?_ GE203.out | refine below_set ?_ GE208.out) | exact HB.out))) : w.heap.size ≤ gb224)); have n10_ := Aside0.mk ((by rw [hg]; exact Nat.ne_of_lt (blk_lt (g := gb185) (o := .cells #[.int .i64 a1_0, .int .i64 a1_1, .int .i64 a1_2, .int .i64 a1_3, .int .i64 a1_4, .int .i64 a1_5] 24 (0, 0)) (by (with_reducible repeat (first | refine blk_drewN ?_ _ | refine blk_drew ?_ | refine blk_alloc ?_ _)); exact BK185.out)) : gb185 ≠ gb224)); have n11_ := Aside0.mk ((by rw [hg]; exact Nat.ne_of_gt (blk_lt (g := gb185) (o := .cells #[.int .i64 a1_0, .int .i64 a1_1, .int .i64 a1_2, .int .i64 a1_3, .int .i64 a1_4, .int .i64 a1_5] 24 (0, 0)) (by (with_reducible repeat (first | refine blk_drewN ?_ _ | refine blk_drew ?_ | refine blk_alloc ?_ _)); exact BK185.out)) : gb224 ≠ gb185)); have n12_ := Aside0.mk ((by rw [hg]; exact Nat.ne_of_lt (blk_lt (g := gb203) (o := .cells #[.int .i64 t194, .int .i64 t195, .int .i64 t196, .int .i64 t197, .int .i64 t198, .int .i64 t199] 24 (0, 0)) (by (with_reducible repeat (first | refine blk_drewN ?_ _ | refine blk_drew ?_ | refine blk_alloc ?_ _)); exact BK203.out)) : gb203 ≠ gb224)); have n13_ := Aside0.mk ((by rw [hg]; exact Nat.ne_of_gt (blk_lt (g := gb203) (o := .cells #[.int .i64 t194, .int .i64 t195, .int .i64 t196, .int .i64 t197, .int .i64 t198, .int .i64 t199] 24 (0, 0)) (by (with_reducible repeat (first | refine blk_drewN ?_ _ | refine blk_drew ?_ | refine blk_alloc ?_ _)); exact BK203.out)) : gb224 ≠ gb203)); have n14_ := Aside0.mk ((by rw [hg]; exact Nat.ne_of_lt (blk_lt (g := gb208) (o := .cells #[.int .i64 ((rd_T24 y204 x28_1).f0), .int .i64 ((rd_T24 y204 x28_1).f1), .int .i64 ((rd_T24 y204 x28_1).f2), .int .i64 ((rd_T24 y204 x28_1).f3), .int .i64 ((rd_T24 y204 x28_1).f4), .int .i64 ((rd_T24 y204 x28_1).f5)] 24 (0, 0)) (by (with_reducible repeat (first | refine blk_drewN ?_ _ | refine blk_drew ?_ | refine blk_alloc ?_ _)); exact BK208.out)) : gb208 ≠ gb224)); have n15_ := Aside0.mk ((by rw [hg]; exact Nat.ne_of_gt (blk_lt (g := gb208) (o := .cells #[.int .i64 ((rd_T24 y204 x28_1).f0), .int .i64 ((rd_T24 y204 x28_1).f1), .int .i64 ((rd_T24 y204 x28_1).f2), .int .i64 ((rd_T24 y204 x28_1).f3), .int .i64 ((rd_T24 y204 x28_1).f4), .int .i64 ((rd_T24 y204 x28_1).f5)] 24 (0, 0)) (by (with_reducible repeat (first | refine blk_drewN ?_ _ | refine blk_drew ?_ | refine blk_alloc ?_ _)); exact BK208.out)) : gb224 ≠ gb208)); have n16_ := Aside0.mk ((by rw [hg]; exact Nat.ne_of_lt (IsS54.lt (show IsS54 w _ g188 t186 t219 from by repeat (first | (with_reducible first | exact HI188.out | apply IsS54.alloc | apply IsS54.drewN | apply IsS54.drew | apply IsS54.set_1 | refine IsS54.far ?_ NB188_185.out _ | refine IsS54.far ?_ NB188_203.out _ | refine IsS54.far ?_ NB188_208.out _) | exact HI188.out))) : g188 ≠ gb224)); have n17_ := Aside0.mk ((by rw [hg]; exact Nat.ne_of_gt (IsS54.lt (show IsS54 w _ g188 t186 t219 from by repeat (first | (with_reducible first | exact HI188.out | apply IsS54.alloc | apply IsS54.drewN | apply IsS54.drew | apply IsS54.set_1 | refine IsS54.far ?_ NB188_185.out _ | refine IsS54.far ?_ NB188_203.out _ | refine IsS54.far ?_ NB188_208.out _) | exact HI188.out))) : gb224 ≠ g188)); clear HO_26; clear HO_50; clear BK185; clear BK203; clear BK208; clear HI188; clear HB; have HO_26 := n0_; have HO_50 := n1_; have BK185 := n2_; have BK203 := n3_; have BK208 := n4_; have HI188 := n5_; have HB := n6_; have BK224 := n7_; have GW224 := n8_; have GE224 := n9_; have NB185_224 := n10_; have NB224_185 := n11_; have NB203_224 := n12_; have NB224_203 := n13_; have NB208_224 := n14_; have NB224_208 := n15_; have NB188_224 := n16_; have NB224_188 := n17_; clear n0_ n1_ n2_ n3_ n4_ n5_ n6_ n7_ n8_ n9_ n10_ n11_ n12_ n13_ n14_ n15_ n16_ n17_; clear hb hbox hg; have hnb86 := NB224_185.out; have hnc86 := NB185_224.out; have hnb87 := NB224_203.out; have hnc87 := NB203_224.out; have hnb88 := NB224_208.out; have hnc88 := NB208_224.out; have hnb89 := NB224_188.out; have hnc89 := NB188_224.out; have hcz90_0 : w85.cell? ⟨gb224, 0, none⟩ = some (.int .i64 0) := (blk_cell BK224.out 0).trans rfl; have hcz90_1 : w85.cell? ⟨gb224, 1, none⟩ = some (.int .i64 0) := (blk_cell BK224.out 1).trans rfl; have hfz90_0 := blk_frozen BK224.out 0; have hfz90_1 := blk_frozen BK224.out 1; have hnb91 := NB208_185.out; have hnc91 := NB185_208.out; have hnb92 := NB208_203.out; have hnc92 := NB203_208.out; have hnb93 := NB208_188.out; have hnc93 := NB188_208.out; have hcz94_0 : w85.cell? ⟨gb208, 0, none⟩ = some (.int .i64 ((rd_T24 y204 x28_1).f0)) := (blk_cell BK208.out 0).trans rfl; have hcz94_1 : w85.cell? ⟨gb208, 1, none⟩ = some (.int .i64 ((rd_T24 y204 x28_1).f1)) := (blk_cell BK208.out 1).trans rfl; have hcz94_2 : w85.cell? ⟨gb208, 2, none⟩ = some (.int .i64 ((rd_T24 y204 x28_1).f2)) := (blk_cell BK208.out 2).trans rfl; have hcz94_3 : w85.cell? ⟨gb208, 3, none⟩ = some (.int .i64 ((rd_T24 y204 x28_1).f3)) := (blk_cell BK208.out 3).trans rfl; have hcz94_4 : w85.cell? ⟨gb208, 4, none⟩ = some (.int .i64 ((rd_T24 y204 x28_1).f4)) := (blk_cell BK208.out 4).trans rfl; have hcz94_5 : w85.cell? ⟨gb208, 5, none⟩ = some (.int .i64 ((rd_T24 y204 x28_1).f5)) := (blk_cell BK208.out 5).trans rfl; have hfz94_0 := blk_frozen BK208.out 0; have hfz94_1 := blk_frozen BK208.out 1; have hfz94_2 := blk_frozen BK208.out 2; have hfz94_3 := blk_frozen BK208.out 3; have hfz94_4 := blk_frozen BK208.out 4; have hfz94_5 := blk_frozen BK208.out 5) | ((with_reducible refine gate_callee (f := 11) rfl ?_); refine goesL_ (some 62) rfl rfl Try.func11 (by kernel_rfl) rfl #[.agg #[.int .i64 ((rd_T24 y204 x28_1).f0), .int .i64 ((rd_T24 y204 x28_1).f1), .int .i64 ((rd_T24 y204 x28_1).f2), .int .i64 ((rd_T24 y204 x28_1).f3), .int .i64 ((rd_T24 y204 x28_1).f4), .int .i64 ((rd_T24 y204 x28_1).f5)], .int .i64 ((rd_T38 y220 x52_2).f0), .int .i64 ((rd_T38 y220 x52_2).f1)] rfl (by (try simp only [List.map_toArray, List.map_cons, List.map_nil]); first | done | rfl | (simp only [List.length_drop, List.length_take]; rfl)) ?_; (with_reducible refine (space_Look.calls k2 ((rd_T24 y204 x28_1).f0) ((rd_T24 y204 x28_1).f1) ((rd_T24 y204 x28_1).f2) ((rd_T24 y204 x28_1).f3) ((rd_T24 y204 x28_1).f4) ((rd_T24 y204 x28_1).f5) ((rd_T38 y220 x52_2).f0) ((rd_T38 y220 x52_2).f1) t225 t226 _ A44.out).mono ?_); rintro e w95 ⟨rfl, hb⟩; refine ⟨_, rfl, ?_⟩; have n0_ := Aside0.mk (Kd.R_below (by (with_reducible repeat (first | apply Kd.R_alloc | apply Kd.R_drewN | apply Kd.R_drew)); exact (Kd.R_mono (Kd.R_far (p := ⟨gb224, 1, none⟩) (Kd.R_far (p := ⟨gb224, 0, none⟩) (Kd.R_types HO_26.out BK224.out (by decide)) (fun _ hk => hk.2) (.int .i64 ((rd_T38 y220 x52_2).f0))) (fun _ hk => hk.2) (.int .i64 ((rd_T38 y220 x52_2).f1))) (fun _ h_ => h_.1))) hb); have n1_ := Aside0.mk (Kd.R_below (by (with_reducible repeat (first | apply Kd.R_alloc | apply Kd.R_drewN | apply Kd.R_drew)); exact (Kd.R_mono (Kd.R_far (p := ⟨gb224, 1, none⟩) (Kd.R_far (p := ⟨gb224, 0, none⟩) (Kd.R_mono HO_50.out (fun k_ hk => (⟨hk, hk.2⟩ : _ ∧ k_ ≠ gb224))) (fun _ hk => hk.2) (.int .i64 ((rd_T38 y220 x52_2).f0))) (fun _ hk => hk.2) (.int .i64 ((rd_T38 y220 x52_2).f1))) (fun _ h_ => h_.1))) hb); have n2_ := Aside0.mk (blk_below (g := gb185) (o := .cells #[.int .i64 a1_0, .int .i64 a1_1, .int .i64 a1_2, .int .i64 a1_3, .int .i64 a1_4, .int .i64 a1_5] 24 (0, 0)) (by (with_reducible repeat (first | refine blk_drewN ?_ _ | refine blk_drew ?_ | refine blk_alloc ?_ _)); refine blk_far ?_ NB185_224.out _; (with_reducible repeat (first | refine blk_drewN ?_ _ | refine blk_drew ?_ | refine blk_alloc ?_ _)); refine blk_far ?_ NB185_224.out _; (with_reducible repeat (first | refine blk_drewN ?_ _ | refine blk_drew ?_ | refine blk_alloc ?_ _)); exact BK185.out) hb); have n3_ := Aside0.mk (blk_below (g := gb203) (o := .cells #[.int .i64 t194, .int .i64 t195, .int .i64 t196, .int .i64 t197, .int .i64 t198, .int .i64 t199] 24 (0, 0)) (by (with_reducible repeat (first | refine blk_drewN ?_ _ | refine blk_drew ?_ | refine blk_alloc ?_ _)); refine blk_far ?_ NB203_224.out _; (with_reducible repeat (first | refine blk_drewN ?_ _ | refine blk_drew ?_ | refine blk_alloc ?_ _)); refine blk_far ?_ NB203_224.out _; (with_reducible repeat (first | refine blk_drewN ?_ _ | refine blk_drew ?_ | refine blk_alloc ?_ _)); exact BK203.out) hb); have n4_ := Aside0.mk (blk_below (g := gb208) (o := .cells #[.int .i64 ((rd_T24 y204 x28_1).f0), .int .i64 ((rd_T24 y204 x28_1).f1), .int .i64 ((rd_T24 y204 x28_1).f2), .int .i64 ((rd_T24 y204 x28_1).f3), .int .i64 ((rd_T24 y204 x28_1).f4), .int .i64 ((rd_T24 y204 x28_1).f5)] 24 (0, 0)) (by (with_reducible repeat (first | refine blk_drewN ?_ _ | refine blk_drew ?_ | refine blk_alloc ?_ _)); refine blk_far ?_ NB208_224.out _; (with_reducible repeat (first | refine blk_drewN ?_ _ | refine blk_drew ?_ | refine blk_alloc ?_ _)); refine blk_far ?_ NB208_224.out _; (with_reducible repeat (first | refine blk_drewN ?_ _ | refine blk_drew ?_ | refine blk_alloc ?_ _)); exact BK208.out) hb); have n5_ := Aside0.mk (IsS54.below (show IsS54 w ((w85.setCell ⟨gb224, 0, none⟩ (.int .i64 ((rd_T38 y220 x52_2).f0))).setCell ⟨gb224, 1, none⟩ (.int .i64 ((rd_T38 y220 x52_2).f1))) g188 t186 t219 from by repeat (first | (with_reducible first | exact HI188.out | apply IsS54.alloc | apply IsS54.drewN | apply IsS54.drew | apply IsS54.set_1 | refine IsS54.far ?_ NB188_185.out _ | refine IsS54.far ?_ NB188_203.out _ | refine IsS54.far ?_ NB188_208.out _ | refine IsS54.far ?_ NB188_224.out _) | exact HI188.out)) hb); have n6_ := Aside0.mk (blk_below (g := gb224) (o := .cells #[.int .i64 ((rd_T38 y220 x52_2).f0), .int .i64 ((rd_T38 y220 x52_2).f1)] 38 (0, 0)) (by (with_reducible repeat (first | refine blk_drewN ?_ _ | refine blk_drew ?_ | refine blk_alloc ?_ _)); refine blk_put (cs := #[.int .i64 ((rd_T38 y220 x52_2).f0), .int .i64 0]) ?_ 1 _ rfl; (with_reducible repeat (first | refine blk_drewN ?_ _ | refine blk_drew ?_ | refine blk_alloc ?_ _)); refine blk_put (cs := #[.int .i64 0, .int .i64 0]) ?_ 0 _ rfl; (with_reducible repeat (first | refine blk_drewN ?_ _ | refine blk_drew ?_ | refine blk_alloc ?_ _)); exact BK224.out) hb); have n7_ := Aside0.mk (below_step (by repeat (first | (with_reducible first | exact HB.out | apply below_alloc | apply pw_below_drewN | apply below_drew1 | refine below_set ?_ (IsS54.ge HI188.out) | refine below_set ?_ GE185.out | refine below_set ?_ GE203.out | refine below_set ?_ GE208.out | refine below_set ?_ GE224.out) | exact HB.out)) hb); clear HO_26; clear HO_50; clear BK185; clear BK203; clear BK208; clear HI188; clear BK224; clear HB; have HO_26 := n0_; have HO_50 := n1_; have BK185 := n2_; have BK203 := n3_; have BK208 := n4_; have HI188 := n5_; have BK224 := n6_; have HB := n7_; clear n0_ n1_ n2_ n3_ n4_ n5_ n6_ n7_; (try clear hb); (try clear hb2); (try clear hk); (try clear hi); have hcz96_0 : w95.cell? ⟨gb208, 0, none⟩ = some (.int .i64 ((rd_T24 y204 x28_1).f0)) := (blk_cell BK208.out 0).trans rfl; have hcz96_1 : w95.cell? ⟨gb208, 1, none⟩ = some (.int .i64 ((rd_T24 y204 x28_1).f1)) := (blk_cell BK208.out 1).trans rfl; have hcz96_2 : w95.cell? ⟨gb208, 2, none⟩ = some (.int .i64 ((rd_T24 y204 x28_1).f2)) := (blk_cell BK208.out 2).trans rfl; have hcz96_3 : w95.cell? ⟨gb208, 3, none⟩ = some (.int .i64 ((rd_T24 y204 x28_1).f3)) := (blk_cell BK208.out 3).trans rfl; have hcz96_4 : w95.cell? ⟨gb208, 4, none⟩ = some (.int .i64 ((rd_T24 y204 x28_1).f4)) := (blk_cell BK208.out 4).trans rfl; have hcz96_5 : w95.cell? ⟨gb208, 5, none⟩ = some (.int .i64 ((rd_T24 y204 x28_1).f5)) := (blk_cell BK208.out 5).trans rfl; have hfz96_0 := blk_frozen BK208.out 0; have hfz96_1 := blk_frozen BK208.out 1; have hfz96_2 := blk_frozen BK208.out 2; have hfz96_3 := blk_frozen BK208.out 3; have hfz96_4 := blk_frozen BK208.out 4; have hfz96_5 := blk_frozen BK208.out 5; have hcz97_0 : w95.cell? ⟨gb224, 0, none⟩ = some (.int .i64 ((rd_T38 y220 x52_2).f0)) := (blk_cell BK224.out 0).trans rfl; have hcz97_1 : w95.cell? ⟨gb224, 1, none⟩ = some (.int .i64 ((rd_T38 y220 x52_2).f1)) := (blk_cell BK224.out 1).trans rfl; have hfz97_0 := blk_frozen BK224.out 0; have hfz97_1 := blk_frozen BK224.out 1) | ((with_reducible refine gate_callee (f := 12) rfl ?_); refine goesL_ (some 71) rfl rfl Try.func12 (by kernel_rfl) rfl #[.agg #[.int .i64 ((rd_T24 y204 x28_1).f0), .int .i64 ((rd_T24 y204 x28_1).f1), .int .i64 ((rd_T24 y204 x28_1).f2), .int .i64 ((rd_T24 y204 x28_1).f3), .int .i64 ((rd_T24 y204 x28_1).f4), .int .i64 ((rd_T24 y204 x28_1).f5)], .int .i64 ((rd_T38 y220 x52_2).f0), .int .i64 ((rd_T38 y220 x52_2).f1)] rfl (by (try simp only [List.map_toArray, List.map_cons, List.map_nil]); first | done | rfl | (simp only [List.length_drop, List.length_take]; rfl)) ?_; (with_reducible refine (kauditref26_Look.calls k2 ((rd_T24 y204 x28_1).f0) ((rd_T24 y204 x28_1).f1) ((rd_T24 y204 x28_1).f2) ((rd_T24 y204 x28_1).f3) ((rd_T24 y204 x28_1).f4) ((rd_T24 y204 x28_1).f5) ((rd_T38 y220 x52_2).f0) ((rd_T38 y220 x52_2).f1) t227 t228 _ A45.out).mono ?_); rintro e w98 ⟨rfl, hb⟩; refine ⟨_, rfl, ?_⟩; have n0_ := Aside0.mk (Kd.R_below (by (with_reducible repeat (first | apply Kd.R_alloc | apply Kd.R_drewN | apply Kd.R_drew)); exact HO_26.out) hb); have n1_ := Aside0.mk (Kd.R_below (by (with_reducible repeat (first | apply Kd.R_alloc | apply Kd.R_drewN | apply Kd.R_drew)); exact HO_50.out) hb); have n2_ := Aside0.mk (blk_below (g := gb185) (o := .cells #[.int .i64 a1_0, .int .i64 a1_1, .int .i64 a1_2, .int .i64 a1_3, .int .i64 a1_4, .int .i64 a1_5] 24 (0, 0)) (by (with_reducible repeat (first | refine blk_drewN ?_ _ | refine blk_drew ?_ | refine blk_alloc ?_ _)); exact BK185.out) hb); have n3_ := Aside0.mk (blk_below (g := gb203) (o := .cells #[.int .i64 t194, .int .i64 t195, .int .i64 t196, .int .i64 t197, .int .i64 t198, .int .i64 t199] 24 (0, 0)) (by (with_reducible repeat (first | refine blk_drewN ?_ _ | refine blk_drew ?_ | refine blk_alloc ?_ _)); exact BK203.out) hb); have n4_ := Aside0.mk (blk_below (g := gb208) (o := .cells #[.int .i64 ((rd_T24 y204 x28_1).f0), .int .i64 ((rd_T24 y204 x28_1).f1), .int .i64 ((rd_T24 y204 x28_1).f2), .int .i64 ((rd_T24 y204 x28_1).f3), .int .i64 ((rd_T24 y204 x28_1).f4), .int .i64 ((rd_T24 y204 x28_1).f5)] 24 (0, 0)) (by (with_reducible repeat (first | refine blk_drewN ?_ _ | refine blk_drew ?_ | refine blk_alloc ?_ _)); exact BK208.out) hb); have n5_ := Aside0.mk (IsS54.below (by repeat (first | (with_reducible first | exact HI188.out | apply IsS54.alloc | apply IsS54.drewN | apply IsS54.drew | apply IsS54.set_1 | refine IsS54.far ?_ NB188_185.out _ | refine IsS54.far ?_ NB188_203.out _ | refine IsS54.far ?_ NB188_208.out _ | refine IsS54.far ?_ NB188_224.out _) | exact HI188.out)) hb); have n6_ := Aside0.mk (blk_below (g := gb224) (o := .cells #[.int .i64 ((rd_T38 y220 x52_2).f0), .int .i64 ((rd_T38 y220 x52_2).f1)] 38 (0, 0)) (by (with_reducible repeat (first | refine blk_drewN ?_ _ | refine blk_drew ?_ | refine blk_alloc ?_ _)); exact BK224.out) hb); have n7_ := Aside0.mk (below_step (by repeat (first | (with_reducible first | exact HB.out | apply below_alloc | apply pw_below_drewN | apply below_drew1 | refine below_set ?_ (IsS54.ge HI188.out) | refine below_set ?_ GE185.out | refine below_set ?_ GE203.out | refine below_set ?_ GE208.out | refine below_set ?_ GE224.out) | exact HB.out)) hb); clear HO_26; clear HO_50; clear BK185; clear BK203; clear BK208; clear HI188; clear BK224; clear HB; have HO_26 := n0_; have HO_50 := n1_; have BK185 := n2_; have BK203 := n3_; have BK208 := n4_; have HI188 := n5_; have BK224 := n6_; have HB := n7_; clear n0_ n1_ n2_ n3_ n4_ n5_ n6_ n7_; (try clear hb); (try clear hb2); (try clear hk); (try clear hi)))
                          have n0_ := Aside0.mk (Kd.R_drew HO_26.out)
                          have n1_ := Aside0.mk (Kd.R_drew HO_50.out)
                          have n2_ := Aside0.mk (blk_drew BK185.out)
                          have n3_ := Aside0.mk (blk_drew BK203.out)
                          have n4_ := Aside0.mk (blk_drew BK208.out)
                          have n5_ := Aside0.mk (blk_drew BK224.out)
                          have n6_ := Aside0.mk (IsS54.drew HI188.out)
                          have n7_ := Aside0.mk (below_drew1 HB.out)
                          clear HO_26
                          clear HO_50
                          clear BK185
                          clear BK203
                          clear BK208
                          clear BK224
                          clear HI188
                          clear HB
                          have HO_26 := n0_
                          have HO_50 := n1_
                          have BK185 := n2_
                          have BK203 := n3_
                          have BK208 := n4_
                          have BK224 := n5_
                          have HI188 := n6_
                          have HB := n7_
                          clear n0_ n1_ n2_ n3_ n4_ n5_ n6_ n7_
                          refine start_ (n := 19) (S := fun w' => True) (ds := []) #[false, false, false, false, false, false, false, false, false, false, false, false, false, false, false, false, false, false, false] (by kernel_rfl) rfl rfl trivial (fun hHeld => ?_); refine with_tabW looks.tab11 looks.bits11 (fun HT_ HW_ => ?_)
                          generalize w98.drew = w99 at HO_26 HO_50 BK185 BK203 BK208 BK224 HI188 HB hHeld ⊢
                          refine pure_ (i := 0) (N := some 74) (v := ?_) (a' := ?_) #[true, false, false, false, false, false, false, false, false, false, false, false, false, false, false, false, false, false, false] rfl rfl (any_of HT_.out (by kernel_rfl)) (fun _ _ _ h => h) (Or.inl ⟨by rfl, ?_⟩) ?_ ?_
                          rotate_left
                          · intro w'
                            go_simp
                            with_reducible rfl
                          rotate_left
                          · simp only [Act.put, List.setIfInBounds_toArray, List.set_cons_zero, List.set_cons_succ, i64_w, i32_w]
                            rfl
                          refine pure_ (i := 1) (N := some 75) (v := ?_) (a' := ?_) #[true, true, false, false, false, false, false, false, false, false, false, false, false, false, false, false, false, false, false] rfl rfl (any_of HT_.out (by kernel_rfl)) (fun _ _ _ h => h) (Or.inl ⟨by rfl, ?_⟩) ?_ ?_
                          rotate_left
                          · intro w'
                            go_simp
                            with_reducible rfl
                          rotate_left
                          · simp only [Act.put, List.setIfInBounds_toArray, List.set_cons_zero, List.set_cons_succ, i64_w, i32_w]
                            rfl
                          refine pure_ (i := 2) (N := some 76) (v := ?_) (a' := ?_) #[true, true, true, false, false, false, false, false, false, false, false, false, false, false, false, false, false, false, false] rfl rfl (any_of HT_.out (by kernel_rfl)) (fun _ _ _ h => h) (Or.inl ⟨by rfl, ?_⟩) ?_ ?_
                          rotate_left
                          · intro w'
                            go_simp
                            with_reducible rfl
                          rotate_left
                          · simp only [Act.put, List.setIfInBounds_toArray, List.set_cons_zero, List.set_cons_succ, i64_w, i32_w]
                            rfl
                          refine pure_ (i := 3) (N := some 77) (v := ?_) (a' := ?_) #[true, true, true, true, false, false, false, false, false, false, false, false, false, false, false, false, false, false, false] rfl rfl (any_of HT_.out (by kernel_rfl)) (fun _ _ _ h => h) (Or.inl ⟨by rfl, ?_⟩) ?_ ?_
                          rotate_left
                          · intro w'
                            go_simp
                            with_reducible rfl
                          rotate_left
                          · simp only [Act.put, List.setIfInBounds_toArray, List.set_cons_zero, List.set_cons_succ, i64_w, i32_w]
                            rfl
                          refine pure_ (i := 4) (N := some 78) (v := ?_) (a' := ?_) #[true, true, true, true, true, false, false, false, false, false, false, false, false, false, false, false, false, false, false] rfl rfl (any_of HT_.out (by kernel_rfl)) (fun _ _ _ h => h) (Or.inl ⟨by rfl, ?_⟩) ?_ ?_
                          rotate_left
                          · intro w'
                            go_simp
                            with_reducible rfl
                          rotate_left
                          · simp only [Act.put, List.setIfInBounds_toArray, List.set_cons_zero, List.set_cons_succ, i64_w, i32_w]
                            rfl
                          refine pure_ (i := 5) (N := some 79) (v := ?_) (a' := ?_) #[true, true, true, true, true, true, false, false, false, false, false, false, false, false, false, false, false, false, false] rfl rfl (any_of HT_.out (by kernel_rfl)) (fun _ _ _ h => h) (Or.inl ⟨by rfl, ?_⟩) ?_ ?_
                          rotate_left
                          · intro w'
                            go_simp
                            with_reducible rfl
                          rotate_left
                          · simp only [Act.put, List.setIfInBounds_toArray, List.set_cons_zero, List.set_cons_succ, i64_w, i32_w]
                            rfl
                          refine pure_ (i := 6) (N := some 80) (v := ?_) (a' := ?_) #[true, true, true, true, true, true, true, false, false, false, false, false, false, false, false, false, false, false, false] rfl rfl (any_of HT_.out (by kernel_rfl)) (fun _ _ _ h => h) (Or.inl ⟨by rfl, ?_⟩) ?_ ?_
                          rotate_left
                          · intro w'
                            go_simp
                            with_reducible rfl
                          rotate_left
                          · simp only [Act.put, List.setIfInBounds_toArray, List.set_cons_zero, List.set_cons_succ, i64_w, i32_w]
                            rfl
                          refine pure_ (i := 7) (N := some 81) (v := ?_) (a' := ?_) #[true, true, true, true, true, true, true, true, false, false, false, false, false, false, false, false, false, false, false] rfl rfl (any_of HT_.out (by kernel_rfl)) (fun _ _ _ h => h) (Or.inl ⟨by rfl, ?_⟩) ?_ ?_
                          rotate_left
                          · intro w'
                            go_simp
                            with_reducible rfl
                          rotate_left
                          · simp only [Act.put, List.setIfInBounds_toArray, List.set_cons_zero, List.set_cons_succ, i64_w, i32_w]
                            rfl
                          refine pure_ (i := 8) (N := some 82) (v := ?_) (a' := ?_) #[true, true, true, true, true, true, true, true, true, false, false, false, false, false, false, false, false, false, false] rfl rfl (any_of HT_.out (by kernel_rfl)) (fun _ _ _ h => h) (Or.inl ⟨by rfl, ?_⟩) ?_ ?_
                          rotate_left
                          · intro w'
                            go_simp
                            with_reducible rfl
                          rotate_left
                          · simp only [Act.put, List.setIfInBounds_toArray, List.set_cons_zero, List.set_cons_succ, i64_w, i32_w]
                            rfl
                          refine pure_ (i := 9) (N := some 83) (v := undef) (a' := ?_) #[true, true, true, true, true, true, true, true, true, true, false, false, false, false, false, false, false, false, false] rfl rfl (any_of HT_.out (by kernel_rfl)) (fun _ _ _ h => h) (Or.inr ⟨by rfl, rfl⟩) ?_ ?_
                          rotate_left
                          · simp only [Act.put, List.setIfInBounds_toArray, List.set_cons_zero, List.set_cons_succ, i64_w, i32_w]
                            rfl
                          refine pure_ (i := 10) (N := some 84) (v := undef) (a' := ?_) #[true, true, true, true, true, true, true, true, true, true, true, false, false, false, false, false, false, false, false] rfl rfl (any_of HT_.out (by kernel_rfl)) (fun _ _ _ h => h) (Or.inr ⟨by rfl, rfl⟩) ?_ ?_
                          rotate_left
                          · simp only [Act.put, List.setIfInBounds_toArray, List.set_cons_zero, List.set_cons_succ, i64_w, i32_w]
                            rfl
                          refine pure_ (i := 11) (N := some 85) (v := undef) (a' := ?_) #[true, true, true, true, true, true, true, true, true, true, true, true, false, false, false, false, false, false, false] rfl rfl (any_of HT_.out (by kernel_rfl)) (fun _ _ _ h => h) (Or.inr ⟨by rfl, rfl⟩) ?_ ?_
                          rotate_left
                          · simp only [Act.put, List.setIfInBounds_toArray, List.set_cons_zero, List.set_cons_succ, i64_w, i32_w]
                            rfl
                          refine pure_ (i := 12) (N := some 86) (v := undef) (a' := ?_) #[true, true, true, true, true, true, true, true, true, true, true, true, true, false, false, false, false, false, false] rfl rfl (any_of HT_.out (by kernel_rfl)) (fun _ _ _ h => h) (Or.inr ⟨by rfl, rfl⟩) ?_ ?_
                          rotate_left
                          · simp only [Act.put, List.setIfInBounds_toArray, List.set_cons_zero, List.set_cons_succ, i64_w, i32_w]
                            rfl
                          refine pure_ (i := 13) (N := some 87) (v := undef) (a' := ?_) #[true, true, true, true, true, true, true, true, true, true, true, true, true, true, false, false, false, false, false] rfl rfl (any_of HT_.out (by kernel_rfl)) (fun _ _ _ h => h) (Or.inr ⟨by rfl, rfl⟩) ?_ ?_
                          rotate_left
                          · simp only [Act.put, List.setIfInBounds_toArray, List.set_cons_zero, List.set_cons_succ, i64_w, i32_w]
                            rfl
                          refine pure_ (i := 14) (N := some 88) (v := undef) (a' := ?_) #[true, true, true, true, true, true, true, true, true, true, true, true, true, true, true, false, false, false, false] rfl rfl (any_of HT_.out (by kernel_rfl)) (fun _ _ _ h => h) (Or.inr ⟨by rfl, rfl⟩) ?_ ?_
                          rotate_left
                          · simp only [Act.put, List.setIfInBounds_toArray, List.set_cons_zero, List.set_cons_succ, i64_w, i32_w]
                            rfl
                          refine pure_ (i := 15) (N := some 89) (v := undef) (a' := ?_) #[true, true, true, true, true, true, true, true, true, true, true, true, true, true, true, true, false, false, false] rfl rfl (any_of HT_.out (by kernel_rfl)) (fun _ _ _ h => h) (Or.inr ⟨by rfl, rfl⟩) ?_ ?_
                          rotate_left
                          · simp only [Act.put, List.setIfInBounds_toArray, List.set_cons_zero, List.set_cons_succ, i64_w, i32_w]
                            rfl
                          refine pure_ (i := 16) (N := some 90) (v := undef) (a' := ?_) #[true, true, true, true, true, true, true, true, true, true, true, true, true, true, true, true, true, false, false] rfl rfl (any_of HT_.out (by kernel_rfl)) (fun _ _ _ h => h) (Or.inr ⟨by rfl, rfl⟩) ?_ ?_
                          rotate_left
                          · simp only [Act.put, List.setIfInBounds_toArray, List.set_cons_zero, List.set_cons_succ, i64_w, i32_w]
                            rfl
                          refine pure_ (i := 17) (N := some 91) (v := undef) (a' := ?_) #[true, true, true, true, true, true, true, true, true, true, true, true, true, true, true, true, true, true, false] rfl rfl (any_of HT_.out (by kernel_rfl)) (fun _ _ _ h => h) (Or.inr ⟨by rfl, rfl⟩) ?_ ?_
                          rotate_left
                          · simp only [Act.put, List.setIfInBounds_toArray, List.set_cons_zero, List.set_cons_succ, i64_w, i32_w]
                            rfl
                          refine pure_ (i := 18) (N := some 92) (v := ?_) (a' := ?_) #[true, true, true, true, true, true, true, true, true, true, true, true, true, true, true, true, true, true, true] rfl rfl (any_of HT_.out (by kernel_rfl)) (fun _ _ _ h => h) (Or.inl ⟨by rfl, ?_⟩) ?_ ?_
                          rotate_left
                          · intro w'
                            go_simp
                            with_reducible rfl
                          rotate_left
                          · simp only [Act.put, List.setIfInBounds_toArray, List.set_cons_zero, List.set_cons_succ, i64_w, i32_w]
                            rfl
                          refine done_ (done_of HT_.out (by kernel_rfl)) ?_
                          try go_wp2
                          go_ret
                          exact ⟨by first | rfl | (simp [errW_none, errW_some] <;> rfl) | (simp [*, errW_none, errW_some] <;> rfl), by repeat (first | (with_reducible first | exact HB.out | apply below_alloc | apply pw_below_drewN | apply below_drew1 | refine below_set ?_ (IsS54.ge HI188.out) | refine below_set ?_ GE185.out | refine below_set ?_ GE203.out | refine below_set ?_ GE208.out | refine below_set ?_ GE224.out) | exact HB.out)⟩
                      · rw [if_neg c46] at H
                        have c46b0 : (t225 == t227) = false := beq_eq_false_iff_ne.mpr c46
                        have c46b1 : (t225 != t227) = true := bne_iff_ne.mpr c46
                        obtain rfl := Option.some.inj H
                        have p223 : 0 ≤ (x52_2 : Int) := of_decide_eq_true (by first | (with_reducible assumption) | assumption)
                        have q223 : x52_2 < (y220.length : Int) := of_decide_eq_true (by first | (with_reducible assumption) | assumption)
                        obtain ⟨ad223, e223, hx223_0, hx223_1⟩ := at_T38 (Kd.R_reads' HO_50.out).2.2 x52_2 p223 q223
                        cases e223
                        replace p223 := eq_true p223
                        replace q223 := eq_true q223
                        try go_wp2_with (first | ((with_reducible refine gate_dst (N := 14) rfl ?_); refine box_event ?hg (N := 14) ?hd (cs := #[.int .i64 0, .int .i64 0]) (t := 38) ?hr ?_; (case hd => rfl); (case hg => rfl); (case hr => first | (go_simp; done) | (go_simp; rfl)); intro gb224 hg w100 hbox hb; have n0_ := Aside0.mk (Kd.R_below (by (with_reducible repeat (first | apply Kd.R_alloc | apply Kd.R_drewN | apply Kd.R_drew)); exact HO_26.out) hb); have n1_ := Aside0.mk (Kd.R_below (Kd.R_elderB (by (with_reducible repeat (first | apply Kd.R_alloc | apply Kd.R_drewN | apply Kd.R_drew)); exact HO_50.out) gb224 (Nat.le_of_eq hg.symm)) hb); have n2_ := Aside0.mk (blk_below (g := gb185) (o := .cells #[.int .i64 a1_0, .int .i64 a1_1, .int .i64 a1_2, .int .i64 a1_3, .int .i64 a1_4, .int .i64 a1_5] 24 (0, 0)) (by (with_reducible repeat (first | refine blk_drewN ?_ _ | refine blk_drew ?_ | refine blk_alloc ?_ _)); exact BK185.out) hb); have n3_ := Aside0.mk (blk_below (g := gb203) (o := .cells #[.int .i64 t194, .int .i64 t195, .int .i64 t196, .int .i64 t197, .int .i64 t198, .int .i64 t199] 24 (0, 0)) (by (with_reducible repeat (first | refine blk_drewN ?_ _ | refine blk_drew ?_ | refine blk_alloc ?_ _)); exact BK203.out) hb); have n4_ := Aside0.mk (blk_below (g := gb208) (o := .cells #[.int .i64 ((rd_T24 y204 x28_1).f0), .int .i64 ((rd_T24 y204 x28_1).f1), .int .i64 ((rd_T24 y204 x28_1).f2), .int .i64 ((rd_T24 y204 x28_1).f3), .int .i64 ((rd_T24 y204 x28_1).f4), .int .i64 ((rd_T24 y204 x28_1).f5)] 24 (0, 0)) (by (with_reducible repeat (first | refine blk_drewN ?_ _ | refine blk_drew ?_ | refine blk_alloc ?_ _)); exact BK208.out) hb); have n5_ := Aside0.mk (IsS54.below (by repeat (first | (with_reducible first | exact HI188.out | apply IsS54.alloc | apply IsS54.drewN | apply IsS54.drew | apply IsS54.set_1 | refine IsS54.far ?_ NB188_185.out _ | refine IsS54.far ?_ NB188_203.out _ | refine IsS54.far ?_ NB188_208.out _) | exact HI188.out)) hb); have n6_ := Aside0.mk (below_step (by repeat (first | (with_reducible first | exact HB.out | apply below_alloc | apply pw_below_drewN | apply below_drew1 | refine below_set ?_ (IsS54.ge HI188.out) | refine below_set ?_ GE185.out | refine below_set ?_ GE203.out | refine below_set ?_ GE208.out) | exact HB.out)) hb); have n7_ := Aside0.mk (hbox); have n8_ := Aside0.mk ((by rw [hg]; exact (below_size (by repeat (first | (with_reducible first | exact HB.out | apply below_alloc | apply pw_below_drewN | apply below_drew1 | refine below_set ?_ (IsS54.ge HI188.out) | refine below_set ?_ GE185.out | refine below_set ?_ GE203.out | refine below_set ?_ GE208.out) | exact HB.out))) : w.heap.size ≤ gb224)); have n9_ := Aside0.mk ((by rw [hg]; exact (below_size (by repeat (first | (with_reducible first | exact HB.out | apply below_alloc | apply pw_below_drewN | apply below_drew1 | refine below_set ?_ (IsS54.ge HI188.out) | refine below_set ?_ GE185.out | refine below_set ?_ GE203.out | refine below_set ?_ GE208.out) | exact HB.out))) : w.heap.size ≤ gb224)); have n10_ := Aside0.mk ((by rw [hg]; exact Nat.ne_of_lt (blk_lt (g := gb185) (o := .cells #[.int .i64 a1_0, .int .i64 a1_1, .int .i64 a1_2, .int .i64 a1_3, .int .i64 a1_4, .int .i64 a1_5] 24 (0, 0)) (by (with_reducible repeat (first | refine blk_drewN ?_ _ | refine blk_drew ?_ | refine blk_alloc ?_ _)); exact BK185.out)) : gb185 ≠ gb224)); have n11_ := Aside0.mk ((by rw [hg]; exact Nat.ne_of_gt (blk_lt (g := gb185) (o := .cells #[.int .i64 a1_0, .int .i64 a1_1, .int .i64 a1_2, .int .i64 a1_3, .int .i64 a1_4, .int .i64 a1_5] 24 (0, 0)) (by (with_reducible repeat (first | refine blk_drewN ?_ _ | refine blk_drew ?_ | refine blk_alloc ?_ _)); exact BK185.out)) : gb224 ≠ gb185)); have n12_ := Aside0.mk ((by rw [hg]; exact Nat.ne_of_lt (blk_lt (g := gb203) (o := .cells #[.int .i64 t194, .int .i64 t195, .int .i64 t196, .int .i64 t197, .int .i64 t198, .int .i64 t199] 24 (0, 0)) (by (with_reducible repeat (first | refine blk_drewN ?_ _ | refine blk_drew ?_ | refine blk_alloc ?_ _)); exact BK203.out)) : gb203 ≠ gb224)); have n13_ := Aside0.mk ((by rw [hg]; exact Nat.ne_of_gt (blk_lt (g := gb203) (o := .cells #[.int .i64 t194, .int .i64 t195, .int .i64 t196, .int .i64 t197, .int .i64 t198, .int .i64 t199] 24 (0, 0)) (by (with_reducible repeat (first | refine blk_drewN ?_ _ | refine blk_drew ?_ | refine blk_alloc ?_ _)); exact BK203.out)) : gb224 ≠ gb203)); have n14_ := Aside0.mk ((by rw [hg]; exact Nat.ne_of_lt (blk_lt (g := gb208) (o := .cells #[.int .i64 ((rd_T24 y204 x28_1).f0), .int .i64 ((rd_T24 y204 x28_1).f1), .int .i64 ((rd_T24 y204 x28_1).f2), .int .i64 ((rd_T24 y204 x28_1).f3), .int .i64 ((rd_T24 y204 x28_1).f4), .int .i64 ((rd_T24 y204 x28_1).f5)] 24 (0, 0)) (by (with_reducible repeat (first | refine blk_drewN ?_ _ | refine blk_drew ?_ | refine blk_alloc ?_ _)); exact BK208.out)) : gb208 ≠ gb224)); have n15_ := Aside0.mk ((by rw [hg]; exact Nat.ne_of_gt (blk_lt (g := gb208) (o := .cells #[.int .i64 ((rd_T24 y204 x28_1).f0), .int .i64 ((rd_T24 y204 x28_1).f1), .int .i64 ((rd_T24 y204 x28_1).f2), .int .i64 ((rd_T24 y204 x28_1).f3), .int .i64 ((rd_T24 y204 x28_1).f4), .int .i64 ((rd_T24 y204 x28_1).f5)] 24 (0, 0)) (by (with_reducible repeat (first | refine blk_drewN ?_ _ | refine blk_drew ?_ | refine blk_alloc ?_ _)); exact BK208.out)) : gb224 ≠ gb208)); have n16_ := Aside0.mk ((by rw [hg]; exact Nat.ne_of_lt (IsS54.lt (show IsS54 w _ g188 t186 t219 from by repeat (first | (with_reducible first | exact HI188.out | apply IsS54.alloc | apply IsS54.drewN | apply IsS54.drew | apply IsS54.set_1 | refine IsS54.far ?_ NB188_185.out _ | refine IsS54.far ?_ NB188_203.out _ | refine IsS54.far ?_ NB188_208.out _) | exact HI188.out))) : g188 ≠ gb224)); have n17_ := Aside0.mk ((by rw [hg]; exact Nat.ne_of_gt (IsS54.lt (show IsS54 w _ g188 t186 t219 from by repeat (first | (with_reducible first | exact HI188.out | apply IsS54.alloc | apply IsS54.drewN | apply IsS54.drew | apply IsS54.set_1 | refine IsS54.far ?_ NB188_185.out _ | refine IsS54.far ?_ NB188_203.out _ | refine IsS54.far ?_ NB188_208.out _) | exact HI188.out))) : gb224 ≠ g188)); clear HO_26; clear HO_50; clear BK185; clear BK203; clear BK208; clear HI188; clear HB; have HO_26 := n0_; have HO_50 := n1_; have BK185 := n2_; have BK203 := n3_; have BK208 := n4_; have HI188 := n5_; have HB := n6_; have BK224 := n7_; have GW224 := n8_; have GE224 := n9_; have NB185_224 := n10_; have NB224_185 := n11_; have NB203_224 := n12_; have NB224_203 := n13_; have NB208_224 := n14_; have NB224_208 := n15_; have NB188_224 := n16_; have NB224_188 := n17_; clear n0_ n1_ n2_ n3_ n4_ n5_ n6_ n7_ n8_ n9_ n10_ n11_ n12_ n13_ n14_ n15_ n16_ n17_; clear hb hbox hg; have hnb101 := NB224_185.out; have hnc101 := NB185_224.out; have hnb102 := NB224_203.out; have hnc102 := NB203_224.out; have hnb103 := NB224_208.out; have hnc103 := NB208_224.out; have hnb104 := NB224_188.out; have hnc104 := NB188_224.out; have hcz105_0 : w100.cell? ⟨gb224, 0, none⟩ = some (.int .i64 0) := (blk_cell BK224.out 0).trans rfl; have hcz105_1 : w100.cell? ⟨gb224, 1, none⟩ = some (.int .i64 0) := (blk_cell BK224.out 1).trans rfl; have hfz105_0 := blk_frozen BK224.out 0; have hfz105_1 := blk_frozen BK224.out 1; have hnb106 := NB208_185.out; have hnc106 := NB185_208.out; have hnb107 := NB208_203.out; have hnc107 := NB203_208.out; have hnb108 := NB208_188.out; have hnc108 := NB188_208.out; have hcz109_0 : w100.cell? ⟨gb208, 0, none⟩ = some (.int .i64 ((rd_T24 y204 x28_1).f0)) := (blk_cell BK208.out 0).trans rfl; have hcz109_1 : w100.cell? ⟨gb208, 1, none⟩ = some (.int .i64 ((rd_T24 y204 x28_1).f1)) := (blk_cell BK208.out 1).trans rfl; have hcz109_2 : w100.cell? ⟨gb208, 2, none⟩ = some (.int .i64 ((rd_T24 y204 x28_1).f2)) := (blk_cell BK208.out 2).trans rfl; have hcz109_3 : w100.cell? ⟨gb208, 3, none⟩ = some (.int .i64 ((rd_T24 y204 x28_1).f3)) := (blk_cell BK208.out 3).trans rfl; have hcz109_4 : w100.cell? ⟨gb208, 4, none⟩ = some (.int .i64 ((rd_T24 y204 x28_1).f4)) := (blk_cell BK208.out 4).trans rfl; have hcz109_5 : w100.cell? ⟨gb208, 5, none⟩ = some (.int .i64 ((rd_T24 y204 x28_1).f5)) := (blk_cell BK208.out 5).trans rfl; have hfz109_0 := blk_frozen BK208.out 0; have hfz109_1 := blk_frozen BK208.out 1; have hfz109_2 := blk_frozen BK208.out 2; have hfz109_3 := blk_frozen BK208.out 3; have hfz109_4 := blk_frozen BK208.out 4; have hfz109_5 := blk_frozen BK208.out 5) | ((with_reducible refine gate_callee (f := 11) rfl ?_); refine goesL_ (some 62) rfl rfl Try.func11 (by kernel_rfl) rfl #[.agg #[.int .i64 ((rd_T24 y204 x28_1).f0), .int .i64 ((rd_T24 y204 x28_1).f1), .int .i64 ((rd_T24 y204 x28_1).f2), .int .i64 ((rd_T24 y204 x28_1).f3), .int .i64 ((rd_T24 y204 x28_1).f4), .int .i64 ((rd_T24 y204 x28_1).f5)], .int .i64 ((rd_T38 y220 x52_2).f0), .int .i64 ((rd_T38 y220 x52_2).f1)] rfl (by (try simp only [List.map_toArray, List.map_cons, List.map_nil]); first | done | rfl | (simp only [List.length_drop, List.length_take]; rfl)) ?_; (with_reducible refine (space_Look.calls k2 ((rd_T24 y204 x28_1).f0) ((rd_T24 y204 x28_1).f1) ((rd_T24 y204 x28_1).f2) ((rd_T24 y204 x28_1).f3) ((rd_T24 y204 x28_1).f4) ((rd_T24 y204 x28_1).f5) ((rd_T38 y220 x52_2).f0) ((rd_T38 y220 x52_2).f1) t225 t226 _ A44.out).mono ?_); rintro e w110 ⟨rfl, hb⟩; refine ⟨_, rfl, ?_⟩; have n0_ := Aside0.mk (Kd.R_below (by (with_reducible repeat (first | apply Kd.R_alloc | apply Kd.R_drewN | apply Kd.R_drew)); exact (Kd.R_mono (Kd.R_far (p := ⟨gb224, 1, none⟩) (Kd.R_far (p := ⟨gb224, 0, none⟩) (Kd.R_types HO_26.out BK224.out (by decide)) (fun _ hk => hk.2) (.int .i64 ((rd_T38 y220 x52_2).f0))) (fun _ hk => hk.2) (.int .i64 ((rd_T38 y220 x52_2).f1))) (fun _ h_ => h_.1))) hb); have n1_ := Aside0.mk (Kd.R_below (by (with_reducible repeat (first | apply Kd.R_alloc | apply Kd.R_drewN | apply Kd.R_drew)); exact (Kd.R_mono (Kd.R_far (p := ⟨gb224, 1, none⟩) (Kd.R_far (p := ⟨gb224, 0, none⟩) (Kd.R_mono HO_50.out (fun k_ hk => (⟨hk, hk.2⟩ : _ ∧ k_ ≠ gb224))) (fun _ hk => hk.2) (.int .i64 ((rd_T38 y220 x52_2).f0))) (fun _ hk => hk.2) (.int .i64 ((rd_T38 y220 x52_2).f1))) (fun _ h_ => h_.1))) hb); have n2_ := Aside0.mk (blk_below (g := gb185) (o := .cells #[.int .i64 a1_0, .int .i64 a1_1, .int .i64 a1_2, .int .i64 a1_3, .int .i64 a1_4, .int .i64 a1_5] 24 (0, 0)) (by (with_reducible repeat (first | refine blk_drewN ?_ _ | refine blk_drew ?_ | refine blk_alloc ?_ _)); refine blk_far ?_ NB185_224.out _; (with_reducible repeat (first | refine blk_drewN ?_ _ | refine blk_drew ?_ | refine blk_alloc ?_ _)); refine blk_far ?_ NB185_224.out _; (with_reducible repeat (first | refine blk_drewN ?_ _ | refine blk_drew ?_ | refine blk_alloc ?_ _)); exact BK185.out) hb); have n3_ := Aside0.mk (blk_below (g := gb203) (o := .cells #[.int .i64 t194, .int .i64 t195, .int .i64 t196, .int .i64 t197, .int .i64 t198, .int .i64 t199] 24 (0, 0)) (by (with_reducible repeat (first | refine blk_drewN ?_ _ | refine blk_drew ?_ | refine blk_alloc ?_ _)); refine blk_far ?_ NB203_224.out _; (with_reducible repeat (first | refine blk_drewN ?_ _ | refine blk_drew ?_ | refine blk_alloc ?_ _)); refine blk_far ?_ NB203_224.out _; (with_reducible repeat (first | refine blk_drewN ?_ _ | refine blk_drew ?_ | refine blk_alloc ?_ _)); exact BK203.out) hb); have n4_ := Aside0.mk (blk_below (g := gb208) (o := .cells #[.int .i64 ((rd_T24 y204 x28_1).f0), .int .i64 ((rd_T24 y204 x28_1).f1), .int .i64 ((rd_T24 y204 x28_1).f2), .int .i64 ((rd_T24 y204 x28_1).f3), .int .i64 ((rd_T24 y204 x28_1).f4), .int .i64 ((rd_T24 y204 x28_1).f5)] 24 (0, 0)) (by (with_reducible repeat (first | refine blk_drewN ?_ _ | refine blk_drew ?_ | refine blk_alloc ?_ _)); refine blk_far ?_ NB208_224.out _; (with_reducible repeat (first | refine blk_drewN ?_ _ | refine blk_drew ?_ | refine blk_alloc ?_ _)); refine blk_far ?_ NB208_224.out _; (with_reducible repeat (first | refine blk_drewN ?_ _ | refine blk_drew ?_ | refine blk_alloc ?_ _)); exact BK208.out) hb); have n5_ := Aside0.mk (IsS54.below (show IsS54 w ((w100.setCell ⟨gb224, 0, none⟩ (.int .i64 ((rd_T38 y220 x52_2).f0))).setCell ⟨gb224, 1, none⟩ (.int .i64 ((rd_T38 y220 x52_2).f1))) g188 t186 t219 from by repeat (first | (with_reducible first | exact HI188.out | apply IsS54.alloc | apply IsS54.drewN | apply IsS54.drew | apply IsS54.set_1 | refine IsS54.far ?_ NB188_185.out _ | refine IsS54.far ?_ NB188_203.out _ | refine IsS54.far ?_ NB188_208.out _ | refine IsS54.far ?_ NB188_224.out _) | exact HI188.out)) hb); have n6_ := Aside0.mk (blk_below (g := gb224) (o := .cells #[.int .i64 ((rd_T38 y220 x52_2).f0), .int .i64 ((rd_T38 y220 x52_2).f1)] 38 (0, 0)) (by (with_reducible repeat (first | refine blk_drewN ?_ _ | refine blk_drew ?_ | refine blk_alloc ?_ _)); refine blk_put (cs := #[.int .i64 ((rd_T38 y220 x52_2).f0), .int .i64 0]) ?_ 1 _ rfl; (with_reducible repeat (first | refine blk_drewN ?_ _ | refine blk_drew ?_ | refine blk_alloc ?_ _)); refine blk_put (cs := #[.int .i64 0, .int .i64 0]) ?_ 0 _ rfl; (with_reducible repeat (first | refine blk_drewN ?_ _ | refine blk_drew ?_ | refine blk_alloc ?_ _)); exact BK224.out) hb); have n7_ := Aside0.mk (below_step (by repeat (first | (with_reducible first | exact HB.out | apply below_alloc | apply pw_below_drewN | apply below_drew1 | refine below_set ?_ (IsS54.ge HI188.out) | refine below_set ?_ GE185.out | refine below_set ?_ GE203.out | refine below_set ?_ GE208.out | refine below_set ?_ GE224.out) | exact HB.out)) hb); clear HO_26; clear HO_50; clear BK185; clear BK203; clear BK208; clear HI188; clear BK224; clear HB; have HO_26 := n0_; have HO_50 := n1_; have BK185 := n2_; have BK203 := n3_; have BK208 := n4_; have HI188 := n5_; have BK224 := n6_; have HB := n7_; clear n0_ n1_ n2_ n3_ n4_ n5_ n6_ n7_; (try clear hb); (try clear hb2); (try clear hk); (try clear hi); have hcz111_0 : w110.cell? ⟨gb208, 0, none⟩ = some (.int .i64 ((rd_T24 y204 x28_1).f0)) := (blk_cell BK208.out 0).trans rfl; have hcz111_1 : w110.cell? ⟨gb208, 1, none⟩ = some (.int .i64 ((rd_T24 y204 x28_1).f1)) := (blk_cell BK208.out 1).trans rfl; have hcz111_2 : w110.cell? ⟨gb208, 2, none⟩ = some (.int .i64 ((rd_T24 y204 x28_1).f2)) := (blk_cell BK208.out 2).trans rfl; have hcz111_3 : w110.cell? ⟨gb208, 3, none⟩ = some (.int .i64 ((rd_T24 y204 x28_1).f3)) := (blk_cell BK208.out 3).trans rfl; have hcz111_4 : w110.cell? ⟨gb208, 4, none⟩ = some (.int .i64 ((rd_T24 y204 x28_1).f4)) := (blk_cell BK208.out 4).trans rfl; have hcz111_5 : w110.cell? ⟨gb208, 5, none⟩ = some (.int .i64 ((rd_T24 y204 x28_1).f5)) := (blk_cell BK208.out 5).trans rfl; have hfz111_0 := blk_frozen BK208.out 0; have hfz111_1 := blk_frozen BK208.out 1; have hfz111_2 := blk_frozen BK208.out 2; have hfz111_3 := blk_frozen BK208.out 3; have hfz111_4 := blk_frozen BK208.out 4; have hfz111_5 := blk_frozen BK208.out 5; have hcz112_0 : w110.cell? ⟨gb224, 0, none⟩ = some (.int .i64 ((rd_T38 y220 x52_2).f0)) := (blk_cell BK224.out 0).trans rfl; have hcz112_1 : w110.cell? ⟨gb224, 1, none⟩ = some (.int .i64 ((rd_T38 y220 x52_2).f1)) := (blk_cell BK224.out 1).trans rfl; have hfz112_0 := blk_frozen BK224.out 0; have hfz112_1 := blk_frozen BK224.out 1) | ((with_reducible refine gate_callee (f := 12) rfl ?_); refine goesL_ (some 71) rfl rfl Try.func12 (by kernel_rfl) rfl #[.agg #[.int .i64 ((rd_T24 y204 x28_1).f0), .int .i64 ((rd_T24 y204 x28_1).f1), .int .i64 ((rd_T24 y204 x28_1).f2), .int .i64 ((rd_T24 y204 x28_1).f3), .int .i64 ((rd_T24 y204 x28_1).f4), .int .i64 ((rd_T24 y204 x28_1).f5)], .int .i64 ((rd_T38 y220 x52_2).f0), .int .i64 ((rd_T38 y220 x52_2).f1)] rfl (by (try simp only [List.map_toArray, List.map_cons, List.map_nil]); first | done | rfl | (simp only [List.length_drop, List.length_take]; rfl)) ?_; (with_reducible refine (kauditref26_Look.calls k2 ((rd_T24 y204 x28_1).f0) ((rd_T24 y204 x28_1).f1) ((rd_T24 y204 x28_1).f2) ((rd_T24 y204 x28_1).f3) ((rd_T24 y204 x28_1).f4) ((rd_T24 y204 x28_1).f5) ((rd_T38 y220 x52_2).f0) ((rd_T38 y220 x52_2).f1) t227 t228 _ A45.out).mono ?_); rintro e w113 ⟨rfl, hb⟩; refine ⟨_, rfl, ?_⟩; have n0_ := Aside0.mk (Kd.R_below (by (with_reducible repeat (first | apply Kd.R_alloc | apply Kd.R_drewN | apply Kd.R_drew)); exact HO_26.out) hb); have n1_ := Aside0.mk (Kd.R_below (by (with_reducible repeat (first | apply Kd.R_alloc | apply Kd.R_drewN | apply Kd.R_drew)); exact HO_50.out) hb); have n2_ := Aside0.mk (blk_below (g := gb185) (o := .cells #[.int .i64 a1_0, .int .i64 a1_1, .int .i64 a1_2, .int .i64 a1_3, .int .i64 a1_4, .int .i64 a1_5] 24 (0, 0)) (by (with_reducible repeat (first | refine blk_drewN ?_ _ | refine blk_drew ?_ | refine blk_alloc ?_ _)); exact BK185.out) hb); have n3_ := Aside0.mk (blk_below (g := gb203) (o := .cells #[.int .i64 t194, .int .i64 t195, .int .i64 t196, .int .i64 t197, .int .i64 t198, .int .i64 t199] 24 (0, 0)) (by (with_reducible repeat (first | refine blk_drewN ?_ _ | refine blk_drew ?_ | refine blk_alloc ?_ _)); exact BK203.out) hb); have n4_ := Aside0.mk (blk_below (g := gb208) (o := .cells #[.int .i64 ((rd_T24 y204 x28_1).f0), .int .i64 ((rd_T24 y204 x28_1).f1), .int .i64 ((rd_T24 y204 x28_1).f2), .int .i64 ((rd_T24 y204 x28_1).f3), .int .i64 ((rd_T24 y204 x28_1).f4), .int .i64 ((rd_T24 y204 x28_1).f5)] 24 (0, 0)) (by (with_reducible repeat (first | refine blk_drewN ?_ _ | refine blk_drew ?_ | refine blk_alloc ?_ _)); exact BK208.out) hb); have n5_ := Aside0.mk (IsS54.below (by repeat (first | (with_reducible first | exact HI188.out | apply IsS54.alloc | apply IsS54.drewN | apply IsS54.drew | apply IsS54.set_1 | refine IsS54.far ?_ NB188_185.out _ | refine IsS54.far ?_ NB188_203.out _ | refine IsS54.far ?_ NB188_208.out _ | refine IsS54.far ?_ NB188_224.out _) | exact HI188.out)) hb); have n6_ := Aside0.mk (blk_below (g := gb224) (o := .cells #[.int .i64 ((rd_T38 y220 x52_2).f0), .int .i64 ((rd_T38 y220 x52_2).f1)] 38 (0, 0)) (by (with_reducible repeat (first | refine blk_drewN ?_ _ | refine blk_drew ?_ | refine blk_alloc ?_ _)); exact BK224.out) hb); have n7_ := Aside0.mk (below_step (by repeat (first | (with_reducible first | exact HB.out | apply below_alloc | apply pw_below_drewN | apply below_drew1 | refine below_set ?_ (IsS54.ge HI188.out) | refine below_set ?_ GE185.out | refine below_set ?_ GE203.out | refine below_set ?_ GE208.out | refine below_set ?_ GE224.out) | exact HB.out)) hb); clear HO_26; clear HO_50; clear BK185; clear BK203; clear BK208; clear HI188; clear BK224; clear HB; have HO_26 := n0_; have HO_50 := n1_; have BK185 := n2_; have BK203 := n3_; have BK208 := n4_; have HI188 := n5_; have BK224 := n6_; have HB := n7_; clear n0_ n1_ n2_ n3_ n4_ n5_ n6_ n7_; (try clear hb); (try clear hb2); (try clear hk); (try clear hi)))
                        have n0_ := Aside0.mk (Kd.R_drew HO_26.out)
                        have n1_ := Aside0.mk (Kd.R_drew HO_50.out)
                        have n2_ := Aside0.mk (blk_drew BK185.out)
                        have n3_ := Aside0.mk (blk_drew BK203.out)
                        have n4_ := Aside0.mk (blk_drew BK208.out)
                        have n5_ := Aside0.mk (blk_drew BK224.out)
                        have n6_ := Aside0.mk (IsS54.drew HI188.out)
                        have n7_ := Aside0.mk (below_drew1 HB.out)
                        clear HO_26
                        clear HO_50
                        clear BK185
                        clear BK203
                        clear BK208
                        clear BK224
                        clear HI188
                        clear HB
                        have HO_26 := n0_
                        have HO_50 := n1_
                        have BK185 := n2_
                        have BK203 := n3_
                        have BK208 := n4_
                        have BK224 := n5_
                        have HI188 := n6_
                        have HB := n7_
                        clear n0_ n1_ n2_ n3_ n4_ n5_ n6_ n7_
                        refine start_ (n := 19) (S := fun w' => True) (ds := []) #[false, false, false, false, false, false, false, false, false, false, false, false, false, false, false, false, false, false, false] (by kernel_rfl) rfl rfl trivial (fun hHeld => ?_); refine with_tabW looks.tab11 looks.bits11 (fun HT_ HW_ => ?_)
                        generalize w113.drew = w114 at HO_26 HO_50 BK185 BK203 BK208 BK224 HI188 HB hHeld ⊢
                        refine pure_ (i := 0) (N := some 74) (v := ?_) (a' := ?_) #[true, false, false, false, false, false, false, false, false, false, false, false, false, false, false, false, false, false, false] rfl rfl (any_of HT_.out (by kernel_rfl)) (fun _ _ _ h => h) (Or.inl ⟨by rfl, ?_⟩) ?_ ?_
                        rotate_left
                        · intro w'
                          go_simp
                          with_reducible rfl
                        rotate_left
                        · simp only [Act.put, List.setIfInBounds_toArray, List.set_cons_zero, List.set_cons_succ, i64_w, i32_w]
                          rfl
                        refine pure_ (i := 1) (N := some 75) (v := ?_) (a' := ?_) #[true, true, false, false, false, false, false, false, false, false, false, false, false, false, false, false, false, false, false] rfl rfl (any_of HT_.out (by kernel_rfl)) (fun _ _ _ h => h) (Or.inl ⟨by rfl, ?_⟩) ?_ ?_
                        rotate_left
                        · intro w'
                          go_simp
                          with_reducible rfl
                        rotate_left
                        · simp only [Act.put, List.setIfInBounds_toArray, List.set_cons_zero, List.set_cons_succ, i64_w, i32_w]
                          rfl
                        refine pure_ (i := 2) (N := some 76) (v := ?_) (a' := ?_) #[true, true, true, false, false, false, false, false, false, false, false, false, false, false, false, false, false, false, false] rfl rfl (any_of HT_.out (by kernel_rfl)) (fun _ _ _ h => h) (Or.inl ⟨by rfl, ?_⟩) ?_ ?_
                        rotate_left
                        · intro w'
                          go_simp
                          with_reducible rfl
                        rotate_left
                        · simp only [Act.put, List.setIfInBounds_toArray, List.set_cons_zero, List.set_cons_succ, i64_w, i32_w]
                          rfl
                        refine pure_ (i := 3) (N := some 77) (v := ?_) (a' := ?_) #[true, true, true, true, false, false, false, false, false, false, false, false, false, false, false, false, false, false, false] rfl rfl (any_of HT_.out (by kernel_rfl)) (fun _ _ _ h => h) (Or.inl ⟨by rfl, ?_⟩) ?_ ?_
                        rotate_left
                        · intro w'
                          go_simp
                          with_reducible rfl
                        rotate_left
                        · simp only [Act.put, List.setIfInBounds_toArray, List.set_cons_zero, List.set_cons_succ, i64_w, i32_w]
                          rfl
                        refine pure_ (i := 4) (N := some 78) (v := undef) (a' := ?_) #[true, true, true, true, true, false, false, false, false, false, false, false, false, false, false, false, false, false, false] rfl rfl (any_of HT_.out (by kernel_rfl)) (fun _ _ _ h => h) (Or.inr ⟨by rfl, rfl⟩) ?_ ?_
                        rotate_left
                        · simp only [Act.put, List.setIfInBounds_toArray, List.set_cons_zero, List.set_cons_succ, i64_w, i32_w]
                          rfl
                        refine pure_ (i := 5) (N := some 79) (v := undef) (a' := ?_) #[true, true, true, true, true, true, false, false, false, false, false, false, false, false, false, false, false, false, false] rfl rfl (any_of HT_.out (by kernel_rfl)) (fun _ _ _ h => h) (Or.inr ⟨by rfl, rfl⟩) ?_ ?_
                        rotate_left
                        · simp only [Act.put, List.setIfInBounds_toArray, List.set_cons_zero, List.set_cons_succ, i64_w, i32_w]
                          rfl
                        refine pure_ (i := 6) (N := some 80) (v := undef) (a' := ?_) #[true, true, true, true, true, true, true, false, false, false, false, false, false, false, false, false, false, false, false] rfl rfl (any_of HT_.out (by kernel_rfl)) (fun _ _ _ h => h) (Or.inr ⟨by rfl, rfl⟩) ?_ ?_
                        rotate_left
                        · simp only [Act.put, List.setIfInBounds_toArray, List.set_cons_zero, List.set_cons_succ, i64_w, i32_w]
                          rfl
                        refine pure_ (i := 7) (N := some 81) (v := ?_) (a' := ?_) #[true, true, true, true, true, true, true, true, false, false, false, false, false, false, false, false, false, false, false] rfl rfl (any_of HT_.out (by kernel_rfl)) (fun _ _ _ h => h) (Or.inl ⟨by rfl, ?_⟩) ?_ ?_
                        rotate_left
                        · intro w'
                          go_simp
                          with_reducible rfl
                        rotate_left
                        · simp only [Act.put, List.setIfInBounds_toArray, List.set_cons_zero, List.set_cons_succ, i64_w, i32_w]
                          rfl
                        refine pure_ (i := 8) (N := some 82) (v := ?_) (a' := ?_) #[true, true, true, true, true, true, true, true, true, false, false, false, false, false, false, false, false, false, false] rfl rfl (any_of HT_.out (by kernel_rfl)) (fun _ _ _ h => h) (Or.inl ⟨by rfl, ?_⟩) ?_ ?_
                        rotate_left
                        · intro w'
                          go_simp
                          with_reducible rfl
                        rotate_left
                        · simp only [Act.put, List.setIfInBounds_toArray, List.set_cons_zero, List.set_cons_succ, i64_w, i32_w]
                          rfl
                        refine pure_ (i := 9) (N := some 83) (v := undef) (a' := ?_) #[true, true, true, true, true, true, true, true, true, true, false, false, false, false, false, false, false, false, false] rfl rfl (any_of HT_.out (by kernel_rfl)) (fun _ _ _ h => h) (Or.inr ⟨by rfl, rfl⟩) ?_ ?_
                        rotate_left
                        · simp only [Act.put, List.setIfInBounds_toArray, List.set_cons_zero, List.set_cons_succ, i64_w, i32_w]
                          rfl
                        refine pure_ (i := 10) (N := some 84) (v := undef) (a' := ?_) #[true, true, true, true, true, true, true, true, true, true, true, false, false, false, false, false, false, false, false] rfl rfl (any_of HT_.out (by kernel_rfl)) (fun _ _ _ h => h) (Or.inr ⟨by rfl, rfl⟩) ?_ ?_
                        rotate_left
                        · simp only [Act.put, List.setIfInBounds_toArray, List.set_cons_zero, List.set_cons_succ, i64_w, i32_w]
                          rfl
                        refine pure_ (i := 11) (N := some 85) (v := undef) (a' := ?_) #[true, true, true, true, true, true, true, true, true, true, true, true, false, false, false, false, false, false, false] rfl rfl (any_of HT_.out (by kernel_rfl)) (fun _ _ _ h => h) (Or.inr ⟨by rfl, rfl⟩) ?_ ?_
                        rotate_left
                        · simp only [Act.put, List.setIfInBounds_toArray, List.set_cons_zero, List.set_cons_succ, i64_w, i32_w]
                          rfl
                        refine pure_ (i := 12) (N := some 86) (v := undef) (a' := ?_) #[true, true, true, true, true, true, true, true, true, true, true, true, true, false, false, false, false, false, false] rfl rfl (any_of HT_.out (by kernel_rfl)) (fun _ _ _ h => h) (Or.inr ⟨by rfl, rfl⟩) ?_ ?_
                        rotate_left
                        · simp only [Act.put, List.setIfInBounds_toArray, List.set_cons_zero, List.set_cons_succ, i64_w, i32_w]
                          rfl
                        refine pure_ (i := 13) (N := some 87) (v := undef) (a' := ?_) #[true, true, true, true, true, true, true, true, true, true, true, true, true, true, false, false, false, false, false] rfl rfl (any_of HT_.out (by kernel_rfl)) (fun _ _ _ h => h) (Or.inr ⟨by rfl, rfl⟩) ?_ ?_
                        rotate_left
                        · simp only [Act.put, List.setIfInBounds_toArray, List.set_cons_zero, List.set_cons_succ, i64_w, i32_w]
                          rfl
                        refine pure_ (i := 14) (N := some 88) (v := undef) (a' := ?_) #[true, true, true, true, true, true, true, true, true, true, true, true, true, true, true, false, false, false, false] rfl rfl (any_of HT_.out (by kernel_rfl)) (fun _ _ _ h => h) (Or.inr ⟨by rfl, rfl⟩) ?_ ?_
                        rotate_left
                        · simp only [Act.put, List.setIfInBounds_toArray, List.set_cons_zero, List.set_cons_succ, i64_w, i32_w]
                          rfl
                        refine pure_ (i := 15) (N := some 89) (v := undef) (a' := ?_) #[true, true, true, true, true, true, true, true, true, true, true, true, true, true, true, true, false, false, false] rfl rfl (any_of HT_.out (by kernel_rfl)) (fun _ _ _ h => h) (Or.inr ⟨by rfl, rfl⟩) ?_ ?_
                        rotate_left
                        · simp only [Act.put, List.setIfInBounds_toArray, List.set_cons_zero, List.set_cons_succ, i64_w, i32_w]
                          rfl
                        refine pure_ (i := 16) (N := some 90) (v := undef) (a' := ?_) #[true, true, true, true, true, true, true, true, true, true, true, true, true, true, true, true, true, false, false] rfl rfl (any_of HT_.out (by kernel_rfl)) (fun _ _ _ h => h) (Or.inr ⟨by rfl, rfl⟩) ?_ ?_
                        rotate_left
                        · simp only [Act.put, List.setIfInBounds_toArray, List.set_cons_zero, List.set_cons_succ, i64_w, i32_w]
                          rfl
                        refine pure_ (i := 17) (N := some 91) (v := undef) (a' := ?_) #[true, true, true, true, true, true, true, true, true, true, true, true, true, true, true, true, true, true, false] rfl rfl (any_of HT_.out (by kernel_rfl)) (fun _ _ _ h => h) (Or.inr ⟨by rfl, rfl⟩) ?_ ?_
                        rotate_left
                        · simp only [Act.put, List.setIfInBounds_toArray, List.set_cons_zero, List.set_cons_succ, i64_w, i32_w]
                          rfl
                        refine pure_ (i := 18) (N := some 92) (v := ?_) (a' := ?_) #[true, true, true, true, true, true, true, true, true, true, true, true, true, true, true, true, true, true, true] rfl rfl (any_of HT_.out (by kernel_rfl)) (fun _ _ _ h => h) (Or.inl ⟨by rfl, ?_⟩) ?_ ?_
                        rotate_left
                        · intro w'
                          go_simp
                          with_reducible rfl
                        rotate_left
                        · simp only [Act.put, List.setIfInBounds_toArray, List.set_cons_zero, List.set_cons_succ, i64_w, i32_w]
                          rfl
                        refine done_ (done_of HT_.out (by kernel_rfl)) ?_
                        try go_wp2
                        go_ret
                        exact ⟨by first | rfl | (simp [errW_none, errW_some] <;> rfl) | (simp [*, errW_none, errW_some] <;> rfl), by repeat (first | (with_reducible first | exact HB.out | apply below_alloc | apply pw_below_drewN | apply below_drew1 | refine below_set ?_ (IsS54.ge HI188.out) | refine below_set ?_ GE185.out | refine below_set ?_ GE203.out | refine below_set ?_ GE208.out | refine below_set ?_ GE224.out) | exact HB.out)⟩
                    · rw [if_neg c43] at H
                      exact absurd H (by simp)
                  · rw [if_neg c42] at H
                    exact absurd H (by simp)
                · rw [if_neg c41] at H
                  have c41b0 : decide (x52_2 < (y220.length : Int)) = false := decide_eq_false c41
                  clear c41
                  have H' := Aside0.mk H
                  clear H
                  go_wp2
                  go_roundg k2
                  case measure => have := HK1.out; have := HK2.out; omega
                  case rel => exact ⟨(wrap64 (x28_1 + 1)), (t219), (by first | rfl | (simp; done) | (simp [*]; done)), H', ⟨by have := HK1.out; have := HK2.out; omega⟩, ⟨by (with_reducible repeat (first | apply Kd.R_alloc | apply Kd.R_drewN | apply Kd.R_drew)); exact Kd.R_mono HO_26.out (fun _ hk => ⟨hk.1, hk.2.1⟩)⟩, ⟨by (with_reducible repeat (first | refine blk_drewN ?_ _ | refine blk_drew ?_ | refine blk_alloc ?_ _)); exact BK185.out⟩, ⟨by (with_reducible repeat (first | refine blk_drewN ?_ _ | refine blk_drew ?_ | refine blk_alloc ?_ _)); exact BK203.out⟩, ⟨by repeat (first | (with_reducible first | exact HI188.out | apply IsS54.alloc | apply IsS54.drewN | apply IsS54.drew | apply IsS54.set_1 | refine IsS54.far ?_ NB188_185.out _ | refine IsS54.far ?_ NB188_203.out _ | refine IsS54.far ?_ NB188_208.out _) | exact HI188.out)⟩, ⟨by repeat (first | (with_reducible first | exact HB.out | apply below_alloc | apply pw_below_drewN | apply below_drew1 | refine below_set ?_ (IsS54.ge HI188.out) | refine below_set ?_ GE185.out | refine below_set ?_ GE203.out | refine below_set ?_ GE208.out) | exact HB.out)⟩⟩
          · rw [if_neg c21] at H
            exact absurd H (by simp)
        · rw [if_neg c20] at H
          exact absurd H (by simp)
      · rw [if_neg c19] at H
        have c19b0 : decide (x28_1 < (y204.length : Int)) = false := decide_eq_false c19
        clear c19
        replace H := Option.bind_eq_some_iff.mp H
        obtain ⟨t231, A1150, H⟩ := H
        replace H : ((kauditref26_SpaceValid.f k1 a1_0 a1_1 a1_2 a1_3 a1_4 a1_5).bind fun t232 => (if (t231 == t232) = true then ((space_Valid.f t194 t195 t196 t197 t198 t199).bind fun t233 => (if t233 = true then ((kauditlaw27_begun.f k1).bind fun t234 => (some t234)) else (some false))) else (some false))) = some r := H
        have A115 := Aside0.mk A1150
        clear A1150
        replace H := Option.bind_eq_some_iff.mp H
        obtain ⟨t232, A1160, H⟩ := H
        replace H : (if (t231 == t232) = true then ((space_Valid.f t194 t195 t196 t197 t198 t199).bind fun t233 => (if t233 = true then ((kauditlaw27_begun.f k1).bind fun t234 => (some t234)) else (some false))) else (some false)) = some r := H
        have A116 := Aside0.mk A1160
        clear A1160
        by_cases c117 : (t231 == t232) = true
        · rw [if_pos c117] at H
          have c117b0 : (t231 == t232) = true := c117
          (try (have c117b1 : decide (t231 = t232) = true := by simpa using c117))
          (try (have c117b2 : (t231 == t232) = true := by simpa using c117))
          clear c117
          replace H := Option.bind_eq_some_iff.mp H
          obtain ⟨t233, A1180, H⟩ := H
          replace H : (if t233 = true then ((kauditlaw27_begun.f k1).bind fun t234 => (some t234)) else (some false)) = some r := H
          have A118 := Aside0.mk A1180
          clear A1180
          by_cases c119 : t233 = true
          · subst c119
            have H1 : ((kauditlaw27_begun.f k1).bind fun t234 => (some t234)) = some r := by rw [if_pos rfl] at H; exact H
            clear H
            have H := H1
            clear H1
            replace H := Option.bind_eq_some_iff.mp H
            obtain ⟨t234, A1200, H⟩ := H
            replace H : (some t234) = some r := H
            have A120 := Aside0.mk A1200
            clear A1200
            obtain rfl := Option.some.inj H
            try go_wp2
            have n0_ := Aside0.mk (Kd.R_drew HO_26.out)
            have n1_ := Aside0.mk (blk_drew BK185.out)
            have n2_ := Aside0.mk (blk_drew BK203.out)
            have n3_ := Aside0.mk (IsS54.drew HI188.out)
            have n4_ := Aside0.mk (below_drew1 HB.out)
            clear HO_26
            clear BK185
            clear BK203
            clear HI188
            clear HB
            have HO_26 := n0_
            have BK185 := n1_
            have BK203 := n2_
            have HI188 := n3_
            have HB := n4_
            clear n0_ n1_ n2_ n3_ n4_
            refine start_ (n := 13) (S := fun w' => w'.cell? ⟨gb185, 0, none⟩ = some (.int .i64 a1_0) ∧ w'.cell? ⟨gb185, 1, none⟩ = some (.int .i64 a1_1) ∧ w'.cell? ⟨gb185, 2, none⟩ = some (.int .i64 a1_2) ∧ w'.cell? ⟨gb185, 3, none⟩ = some (.int .i64 a1_3) ∧ w'.cell? ⟨gb185, 4, none⟩ = some (.int .i64 a1_4) ∧ w'.cell? ⟨gb185, 5, none⟩ = some (.int .i64 a1_5) ∧ w'.cell? ⟨gb203, 0, none⟩ = some (.int .i64 t194) ∧ w'.cell? ⟨gb203, 1, none⟩ = some (.int .i64 t195) ∧ w'.cell? ⟨gb203, 2, none⟩ = some (.int .i64 t196) ∧ w'.cell? ⟨gb203, 3, none⟩ = some (.int .i64 t197) ∧ w'.cell? ⟨gb203, 4, none⟩ = some (.int .i64 t198) ∧ w'.cell? ⟨gb203, 5, none⟩ = some (.int .i64 t199)) (ds := []) #[false, false, false, false, false, false, false, false, false, false, false, false, false] (by kernel_rfl) rfl rfl ⟨(blk_cell BK185.out 0).trans rfl, (blk_cell BK185.out 1).trans rfl, (blk_cell BK185.out 2).trans rfl, (blk_cell BK185.out 3).trans rfl, (blk_cell BK185.out 4).trans rfl, (blk_cell BK185.out 5).trans rfl, (blk_cell BK203.out 0).trans rfl, (blk_cell BK203.out 1).trans rfl, (blk_cell BK203.out 2).trans rfl, (blk_cell BK203.out 3).trans rfl, (blk_cell BK203.out 4).trans rfl, (blk_cell BK203.out 5).trans rfl⟩ (fun hHeld => ?_); refine with_tabW looks.tab15 looks.bits15 (fun HT_ HW_ => ?_)
            generalize wr.drew = w121 at HO_26 BK185 BK203 HI188 HB hHeld ⊢
            refine take_ (i := 0) (N := some 95) (v := ?_) (a' := ?_) #[true, false, false, false, false, false, false, false, false, false, false, false, false] rfl rfl (take_ofW HT_.out HW_.out (by kernel_rfl)) (fun _ _ _ h => h) (Or.inl ⟨by rfl, ?_⟩) hHeld ?_ ?_
            rotate_left
            · rintro w' ⟨s0, s1, s2, s3, s4, s5, s6, s7, s8, s9, s10, s11⟩
              go_simp
              with_reducible rfl
            rotate_left
            · simp only [Act.put, List.setIfInBounds_toArray, List.set_cons_zero, List.set_cons_succ, i64_w, i32_w]
              rfl
            refine take_ (i := 2) (N := some 97) (v := ?_) (a' := ?_) #[true, false, true, false, false, false, false, false, false, false, false, false, false] rfl rfl (take_ofW HT_.out HW_.out (by kernel_rfl)) (fun _ _ _ h => h) (Or.inl ⟨by rfl, ?_⟩) hHeld ?_ ?_
            rotate_left
            · rintro w' ⟨s0, s1, s2, s3, s4, s5, s6, s7, s8, s9, s10, s11⟩
              go_simp
              with_reducible rfl
            rotate_left
            · simp only [Act.put, List.setIfInBounds_toArray, List.set_cons_zero, List.set_cons_succ, i64_w, i32_w]
              rfl
            refine one_ (i := 1) (N := some 96) #[true, true, true, false, false, false, false, false, false, false, false, false, false] rfl rfl (one_of HT_.out (by kernel_rfl)) (by decide) (fun K hK => ?_)
            refine goes_ Try.func15 (by kernel_rfl) rfl #[.agg #[.int .i64 a1_0, .int .i64 a1_1, .int .i64 a1_2, .int .i64 a1_3, .int .i64 a1_4, .int .i64 a1_5]] (by rfl) rfl rfl (by (try simp only [List.map_toArray, List.map_cons, List.map_nil]); first | done | rfl | (simp only [List.length_drop, List.length_take]; rfl)) ?_
            with_reducible refine (space_Valid.calls a1_0 a1_1 a1_2 a1_3 a1_4 a1_5 t231 _ A115.out).mono ?_
            rintro e w122 ⟨rfl, hb⟩
            refine ⟨_, rfl, ?_⟩
            have n0_ := Aside0.mk (Kd.R_below (by (with_reducible repeat (first | apply Kd.R_alloc | apply Kd.R_drewN | apply Kd.R_drew)); exact HO_26.out) hb)
            have n1_ := Aside0.mk (blk_below (g := gb185) (o := .cells #[.int .i64 a1_0, .int .i64 a1_1, .int .i64 a1_2, .int .i64 a1_3, .int .i64 a1_4, .int .i64 a1_5] 24 (0, 0)) (by (with_reducible repeat (first | refine blk_drewN ?_ _ | refine blk_drew ?_ | refine blk_alloc ?_ _)); exact BK185.out) hb)
            have n2_ := Aside0.mk (blk_below (g := gb203) (o := .cells #[.int .i64 t194, .int .i64 t195, .int .i64 t196, .int .i64 t197, .int .i64 t198, .int .i64 t199] 24 (0, 0)) (by (with_reducible repeat (first | refine blk_drewN ?_ _ | refine blk_drew ?_ | refine blk_alloc ?_ _)); exact BK203.out) hb)
            have n3_ := Aside0.mk (IsS54.below (by repeat (first | (with_reducible first | exact HI188.out | apply IsS54.alloc | apply IsS54.drewN | apply IsS54.drew | apply IsS54.set_1 | refine IsS54.far ?_ NB188_185.out _ | refine IsS54.far ?_ NB188_203.out _) | exact HI188.out)) hb)
            have n4_ := Aside0.mk (below_step (by repeat (first | (with_reducible first | exact HB.out | apply below_alloc | apply pw_below_drewN | apply below_drew1 | refine below_set ?_ (IsS54.ge HI188.out) | refine below_set ?_ GE185.out | refine below_set ?_ GE203.out) | exact HB.out)) hb)
            clear HO_26
            clear BK185
            clear BK203
            clear HI188
            clear HB
            have HO_26 := n0_
            have BK185 := n1_
            have BK203 := n2_
            have HI188 := n3_
            have HB := n4_
            clear n0_ n1_ n2_ n3_ n4_
            (try clear hb)
            (try clear hb2)
            (try clear hk)
            (try clear hi)
            refine hK.out _ _ ⟨(blk_cell BK185.out 0).trans rfl, (blk_cell BK185.out 1).trans rfl, (blk_cell BK185.out 2).trans rfl, (blk_cell BK185.out 3).trans rfl, (blk_cell BK185.out 4).trans rfl, (blk_cell BK185.out 5).trans rfl, (blk_cell BK203.out 0).trans rfl, (blk_cell BK203.out 1).trans rfl, (blk_cell BK203.out 2).trans rfl, (blk_cell BK203.out 3).trans rfl, (blk_cell BK203.out 4).trans rfl, (blk_cell BK203.out 5).trans rfl⟩ (fun hHeld => ?_)
            clear hK K
            refine norm_ (a' := ?_) ?_ ?_
            rotate_left
            · show Act.put _ (some 96) _ = _
              simp only [Act.put, List.setIfInBounds_toArray, List.set_cons_zero, List.set_cons_succ, i64_w, i32_w]
              rfl
            refine one_ (i := 3) (N := some 98) #[true, true, true, true, false, false, false, false, false, false, false, false, false] rfl rfl (one_of HT_.out (by kernel_rfl)) (by decide) (fun K hK => ?_)
            refine goes_ Try.func16 (by kernel_rfl) rfl #[.agg #[.int .i64 a1_0, .int .i64 a1_1, .int .i64 a1_2, .int .i64 a1_3, .int .i64 a1_4, .int .i64 a1_5]] (by rfl) rfl rfl (by (try simp only [List.map_toArray, List.map_cons, List.map_nil]); first | done | rfl | (simp only [List.length_drop, List.length_take]; rfl)) ?_
            with_reducible refine (kauditref26_SpaceValid.calls k1 a1_0 a1_1 a1_2 a1_3 a1_4 a1_5 t232 _ A116.out).mono ?_
            rintro e w123 ⟨rfl, hb⟩
            refine ⟨_, rfl, ?_⟩
            have n0_ := Aside0.mk (Kd.R_below (by (with_reducible repeat (first | apply Kd.R_alloc | apply Kd.R_drewN | apply Kd.R_drew)); exact HO_26.out) hb)
            have n1_ := Aside0.mk (blk_below (g := gb185) (o := .cells #[.int .i64 a1_0, .int .i64 a1_1, .int .i64 a1_2, .int .i64 a1_3, .int .i64 a1_4, .int .i64 a1_5] 24 (0, 0)) (by (with_reducible repeat (first | refine blk_drewN ?_ _ | refine blk_drew ?_ | refine blk_alloc ?_ _)); exact BK185.out) hb)
            have n2_ := Aside0.mk (blk_below (g := gb203) (o := .cells #[.int .i64 t194, .int .i64 t195, .int .i64 t196, .int .i64 t197, .int .i64 t198, .int .i64 t199] 24 (0, 0)) (by (with_reducible repeat (first | refine blk_drewN ?_ _ | refine blk_drew ?_ | refine blk_alloc ?_ _)); exact BK203.out) hb)
            have n3_ := Aside0.mk (IsS54.below (by repeat (first | (with_reducible first | exact HI188.out | apply IsS54.alloc | apply IsS54.drewN | apply IsS54.drew | apply IsS54.set_1 | refine IsS54.far ?_ NB188_185.out _ | refine IsS54.far ?_ NB188_203.out _) | exact HI188.out)) hb)
            have n4_ := Aside0.mk (below_step (by repeat (first | (with_reducible first | exact HB.out | apply below_alloc | apply pw_below_drewN | apply below_drew1 | refine below_set ?_ (IsS54.ge HI188.out) | refine below_set ?_ GE185.out | refine below_set ?_ GE203.out) | exact HB.out)) hb)
            clear HO_26
            clear BK185
            clear BK203
            clear HI188
            clear HB
            have HO_26 := n0_
            have BK185 := n1_
            have BK203 := n2_
            have HI188 := n3_
            have HB := n4_
            clear n0_ n1_ n2_ n3_ n4_
            (try clear hb)
            (try clear hb2)
            (try clear hk)
            (try clear hi)
            refine hK.out _ _ ⟨(blk_cell BK185.out 0).trans rfl, (blk_cell BK185.out 1).trans rfl, (blk_cell BK185.out 2).trans rfl, (blk_cell BK185.out 3).trans rfl, (blk_cell BK185.out 4).trans rfl, (blk_cell BK185.out 5).trans rfl, (blk_cell BK203.out 0).trans rfl, (blk_cell BK203.out 1).trans rfl, (blk_cell BK203.out 2).trans rfl, (blk_cell BK203.out 3).trans rfl, (blk_cell BK203.out 4).trans rfl, (blk_cell BK203.out 5).trans rfl⟩ (fun hHeld => ?_)
            clear hK K
            refine norm_ (a' := ?_) ?_ ?_
            rotate_left
            · show Act.put _ (some 98) _ = _
              simp only [Act.put, List.setIfInBounds_toArray, List.set_cons_zero, List.set_cons_succ, i64_w, i32_w]
              rfl
            refine pure_ (i := 4) (N := some 99) (v := ?_) (a' := ?_) #[true, true, true, true, true, false, false, false, false, false, false, false, false] rfl rfl (any_of HT_.out (by kernel_rfl)) (fun _ _ _ h => h) (Or.inl ⟨by rfl, ?_⟩) ?_ ?_
            rotate_left
            · intro w'
              go_simp
              with_reducible rfl
            rotate_left
            · simp only [Act.put, List.setIfInBounds_toArray, List.set_cons_zero, List.set_cons_succ, i64_w, i32_w]
              rfl
            refine pure_ (i := 5) (N := some 100) (v := ?_) (a' := ?_) #[true, true, true, true, true, true, false, false, false, false, false, false, false] rfl rfl (any_of HT_.out (by kernel_rfl)) (fun _ _ _ h => h) (Or.inl ⟨by rfl, ?_⟩) ?_ ?_
            rotate_left
            · intro w'
              go_simp
              with_reducible rfl
            rotate_left
            · simp only [Act.put, List.setIfInBounds_toArray, List.set_cons_zero, List.set_cons_succ, i64_w, i32_w]
              rfl
            refine take_ (i := 6) (N := some 101) (v := ?_) (a' := ?_) #[true, true, true, true, true, true, true, false, false, false, false, false, false] rfl rfl (take_ofW HT_.out HW_.out (by kernel_rfl)) (fun _ _ _ h => h) (Or.inl ⟨by rfl, ?_⟩) hHeld ?_ ?_
            rotate_left
            · rintro w' ⟨s0, s1, s2, s3, s4, s5, s6, s7, s8, s9, s10, s11⟩
              go_simp
              with_reducible rfl
            rotate_left
            · simp only [Act.put, List.setIfInBounds_toArray, List.set_cons_zero, List.set_cons_succ, i64_w, i32_w]
              rfl
            refine one_ (i := 7) (N := some 102) #[true, true, true, true, true, true, true, true, false, false, false, false, false] rfl rfl (one_of HT_.out (by kernel_rfl)) (by decide) (fun K hK => ?_)
            refine goes_ Try.func15 (by kernel_rfl) rfl #[.agg #[.int .i64 t194, .int .i64 t195, .int .i64 t196, .int .i64 t197, .int .i64 t198, .int .i64 t199]] (by rfl) rfl rfl (by (try simp only [List.map_toArray, List.map_cons, List.map_nil]); first | done | rfl | (simp only [List.length_drop, List.length_take]; rfl)) ?_
            with_reducible refine (space_Valid.calls t194 t195 t196 t197 t198 t199 true _ A118.out).mono ?_
            rintro e w124 ⟨rfl, hb⟩
            refine ⟨_, rfl, ?_⟩
            have n0_ := Aside0.mk (Kd.R_below (by (with_reducible repeat (first | apply Kd.R_alloc | apply Kd.R_drewN | apply Kd.R_drew)); exact HO_26.out) hb)
            have n1_ := Aside0.mk (blk_below (g := gb185) (o := .cells #[.int .i64 a1_0, .int .i64 a1_1, .int .i64 a1_2, .int .i64 a1_3, .int .i64 a1_4, .int .i64 a1_5] 24 (0, 0)) (by (with_reducible repeat (first | refine blk_drewN ?_ _ | refine blk_drew ?_ | refine blk_alloc ?_ _)); exact BK185.out) hb)
            have n2_ := Aside0.mk (blk_below (g := gb203) (o := .cells #[.int .i64 t194, .int .i64 t195, .int .i64 t196, .int .i64 t197, .int .i64 t198, .int .i64 t199] 24 (0, 0)) (by (with_reducible repeat (first | refine blk_drewN ?_ _ | refine blk_drew ?_ | refine blk_alloc ?_ _)); exact BK203.out) hb)
            have n3_ := Aside0.mk (IsS54.below (by repeat (first | (with_reducible first | exact HI188.out | apply IsS54.alloc | apply IsS54.drewN | apply IsS54.drew | apply IsS54.set_1 | refine IsS54.far ?_ NB188_185.out _ | refine IsS54.far ?_ NB188_203.out _) | exact HI188.out)) hb)
            have n4_ := Aside0.mk (below_step (by repeat (first | (with_reducible first | exact HB.out | apply below_alloc | apply pw_below_drewN | apply below_drew1 | refine below_set ?_ (IsS54.ge HI188.out) | refine below_set ?_ GE185.out | refine below_set ?_ GE203.out) | exact HB.out)) hb)
            clear HO_26
            clear BK185
            clear BK203
            clear HI188
            clear HB
            have HO_26 := n0_
            have BK185 := n1_
            have BK203 := n2_
            have HI188 := n3_
            have HB := n4_
            clear n0_ n1_ n2_ n3_ n4_
            (try clear hb)
            (try clear hb2)
            (try clear hk)
            (try clear hi)
            refine hK.out _ _ ⟨(blk_cell BK185.out 0).trans rfl, (blk_cell BK185.out 1).trans rfl, (blk_cell BK185.out 2).trans rfl, (blk_cell BK185.out 3).trans rfl, (blk_cell BK185.out 4).trans rfl, (blk_cell BK185.out 5).trans rfl, (blk_cell BK203.out 0).trans rfl, (blk_cell BK203.out 1).trans rfl, (blk_cell BK203.out 2).trans rfl, (blk_cell BK203.out 3).trans rfl, (blk_cell BK203.out 4).trans rfl, (blk_cell BK203.out 5).trans rfl⟩ (fun hHeld => ?_)
            clear hK K
            refine norm_ (a' := ?_) ?_ ?_
            rotate_left
            · show Act.put _ (some 102) _ = _
              simp only [Act.put, List.setIfInBounds_toArray, List.set_cons_zero, List.set_cons_succ, i64_w, i32_w]
              rfl
            refine pure_ (i := 8) (N := some 103) (v := ?_) (a' := ?_) #[true, true, true, true, true, true, true, true, true, false, false, false, false] rfl rfl (any_of HT_.out (by kernel_rfl)) (fun _ _ _ h => h) (Or.inl ⟨by rfl, ?_⟩) ?_ ?_
            rotate_left
            · intro w'
              go_simp
              with_reducible rfl
            rotate_left
            · simp only [Act.put, List.setIfInBounds_toArray, List.set_cons_zero, List.set_cons_succ, i64_w, i32_w]
              rfl
            refine pure_ (i := 9) (N := some 104) (v := ?_) (a' := ?_) #[true, true, true, true, true, true, true, true, true, true, false, false, false] rfl rfl (any_of HT_.out (by kernel_rfl)) (fun _ _ _ h => h) (Or.inl ⟨by rfl, ?_⟩) ?_ ?_
            rotate_left
            · intro w'
              go_simp
              with_reducible rfl
            rotate_left
            · simp only [Act.put, List.setIfInBounds_toArray, List.set_cons_zero, List.set_cons_succ, i64_w, i32_w]
              rfl
            refine one_ (i := 10) (N := some 105) #[true, true, true, true, true, true, true, true, true, true, true, false, false] rfl rfl (one_of HT_.out (by kernel_rfl)) (by decide) (fun K hK => ?_)
            refine goes_ Try.func17 (by kernel_rfl) rfl #[] (by rfl) rfl rfl (by (try simp only [List.map_toArray, List.map_cons, List.map_nil]); first | done | rfl | (simp only [List.length_drop, List.length_take]; rfl)) ?_
            with_reducible refine (kauditlaw27_begun.calls k1  t234 _ A120.out).mono ?_
            rintro e w125 ⟨rfl, hb⟩
            refine ⟨_, rfl, ?_⟩
            have n0_ := Aside0.mk (Kd.R_below (by (with_reducible repeat (first | apply Kd.R_alloc | apply Kd.R_drewN | apply Kd.R_drew)); exact HO_26.out) hb)
            have n1_ := Aside0.mk (blk_below (g := gb185) (o := .cells #[.int .i64 a1_0, .int .i64 a1_1, .int .i64 a1_2, .int .i64 a1_3, .int .i64 a1_4, .int .i64 a1_5] 24 (0, 0)) (by (with_reducible repeat (first | refine blk_drewN ?_ _ | refine blk_drew ?_ | refine blk_alloc ?_ _)); exact BK185.out) hb)
            have n2_ := Aside0.mk (blk_below (g := gb203) (o := .cells #[.int .i64 t194, .int .i64 t195, .int .i64 t196, .int .i64 t197, .int .i64 t198, .int .i64 t199] 24 (0, 0)) (by (with_reducible repeat (first | refine blk_drewN ?_ _ | refine blk_drew ?_ | refine blk_alloc ?_ _)); exact BK203.out) hb)
            have n3_ := Aside0.mk (IsS54.below (by repeat (first | (with_reducible first | exact HI188.out | apply IsS54.alloc | apply IsS54.drewN | apply IsS54.drew | apply IsS54.set_1 | refine IsS54.far ?_ NB188_185.out _ | refine IsS54.far ?_ NB188_203.out _) | exact HI188.out)) hb)
            have n4_ := Aside0.mk (below_step (by repeat (first | (with_reducible first | exact HB.out | apply below_alloc | apply pw_below_drewN | apply below_drew1 | refine below_set ?_ (IsS54.ge HI188.out) | refine below_set ?_ GE185.out | refine below_set ?_ GE203.out) | exact HB.out)) hb)
            clear HO_26
            clear BK185
            clear BK203
            clear HI188
            clear HB
            have HO_26 := n0_
            have BK185 := n1_
            have BK203 := n2_
            have HI188 := n3_
            have HB := n4_
            clear n0_ n1_ n2_ n3_ n4_
            (try clear hb)
            (try clear hb2)
            (try clear hk)
            (try clear hi)
            refine hK.out _ _ ⟨(blk_cell BK185.out 0).trans rfl, (blk_cell BK185.out 1).trans rfl, (blk_cell BK185.out 2).trans rfl, (blk_cell BK185.out 3).trans rfl, (blk_cell BK185.out 4).trans rfl, (blk_cell BK185.out 5).trans rfl, (blk_cell BK203.out 0).trans rfl, (blk_cell BK203.out 1).trans rfl, (blk_cell BK203.out 2).trans rfl, (blk_cell BK203.out 3).trans rfl, (blk_cell BK203.out 4).trans rfl, (blk_cell BK203.out 5).trans rfl⟩ (fun hHeld => ?_)
            clear hK K
            refine norm_ (a' := ?_) ?_ ?_
            rotate_left
            · show Act.put _ (some 105) _ = _
              simp only [Act.put, List.setIfInBounds_toArray, List.set_cons_zero, List.set_cons_succ, i64_w, i32_w]
              rfl
            refine pure_ (i := 11) (N := some 106) (v := ?_) (a' := ?_) #[true, true, true, true, true, true, true, true, true, true, true, true, false] rfl rfl (any_of HT_.out (by kernel_rfl)) (fun _ _ _ h => h) (Or.inl ⟨by rfl, ?_⟩) ?_ ?_
            rotate_left
            · intro w'
              go_simp
              with_reducible rfl
            rotate_left
            · simp only [Act.put, List.setIfInBounds_toArray, List.set_cons_zero, List.set_cons_succ, i64_w, i32_w]
              rfl
            refine pure_ (i := 12) (N := some 8) (v := ?_) (a' := ?_) #[true, true, true, true, true, true, true, true, true, true, true, true, true] rfl rfl (any_of HT_.out (by kernel_rfl)) (fun _ _ _ h => h) (Or.inl ⟨by rfl, ?_⟩) ?_ ?_
            rotate_left
            · intro w'
              go_simp
              with_reducible rfl
            rotate_left
            · simp only [Act.put, List.setIfInBounds_toArray, List.set_cons_zero, List.set_cons_succ, i64_w, i32_w]
              rfl
            refine done_ (done_of HT_.out (by kernel_rfl)) ?_
            try go_wp2
            go_ret
            exact ⟨by first | rfl | (simp [errW_none, errW_some] <;> rfl) | (simp [*, errW_none, errW_some] <;> rfl), by repeat (first | (with_reducible first | exact HB.out | apply below_alloc | apply pw_below_drewN | apply below_drew1 | refine below_set ?_ (IsS54.ge HI188.out) | refine below_set ?_ GE185.out | refine below_set ?_ GE203.out) | exact HB.out)⟩
          · replace c119 := Bool.eq_false_iff.mpr c119
            subst c119
            have H1 : (some false) = some r := by rw [if_neg (show ¬ (false = true) by decide)] at H; exact H
            clear H
            have H := H1
            clear H1
            obtain rfl := Option.some.inj H
            try go_wp2
            have n0_ := Aside0.mk (Kd.R_drew HO_26.out)
            have n1_ := Aside0.mk (blk_drew BK185.out)
            have n2_ := Aside0.mk (blk_drew BK203.out)
            have n3_ := Aside0.mk (IsS54.drew HI188.out)
            have n4_ := Aside0.mk (below_drew1 HB.out)
            clear HO_26
            clear BK185
            clear BK203
            clear HI188
            clear HB
            have HO_26 := n0_
            have BK185 := n1_
            have BK203 := n2_
            have HI188 := n3_
            have HB := n4_
            clear n0_ n1_ n2_ n3_ n4_
            refine start_ (n := 13) (S := fun w' => w'.cell? ⟨gb185, 0, none⟩ = some (.int .i64 a1_0) ∧ w'.cell? ⟨gb185, 1, none⟩ = some (.int .i64 a1_1) ∧ w'.cell? ⟨gb185, 2, none⟩ = some (.int .i64 a1_2) ∧ w'.cell? ⟨gb185, 3, none⟩ = some (.int .i64 a1_3) ∧ w'.cell? ⟨gb185, 4, none⟩ = some (.int .i64 a1_4) ∧ w'.cell? ⟨gb185, 5, none⟩ = some (.int .i64 a1_5) ∧ w'.cell? ⟨gb203, 0, none⟩ = some (.int .i64 t194) ∧ w'.cell? ⟨gb203, 1, none⟩ = some (.int .i64 t195) ∧ w'.cell? ⟨gb203, 2, none⟩ = some (.int .i64 t196) ∧ w'.cell? ⟨gb203, 3, none⟩ = some (.int .i64 t197) ∧ w'.cell? ⟨gb203, 4, none⟩ = some (.int .i64 t198) ∧ w'.cell? ⟨gb203, 5, none⟩ = some (.int .i64 t199)) (ds := []) #[false, false, false, false, false, false, false, false, false, false, false, false, false] (by kernel_rfl) rfl rfl ⟨(blk_cell BK185.out 0).trans rfl, (blk_cell BK185.out 1).trans rfl, (blk_cell BK185.out 2).trans rfl, (blk_cell BK185.out 3).trans rfl, (blk_cell BK185.out 4).trans rfl, (blk_cell BK185.out 5).trans rfl, (blk_cell BK203.out 0).trans rfl, (blk_cell BK203.out 1).trans rfl, (blk_cell BK203.out 2).trans rfl, (blk_cell BK203.out 3).trans rfl, (blk_cell BK203.out 4).trans rfl, (blk_cell BK203.out 5).trans rfl⟩ (fun hHeld => ?_); refine with_tabW looks.tab15 looks.bits15 (fun HT_ HW_ => ?_)
            generalize wr.drew = w126 at HO_26 BK185 BK203 HI188 HB hHeld ⊢
            refine take_ (i := 0) (N := some 95) (v := ?_) (a' := ?_) #[true, false, false, false, false, false, false, false, false, false, false, false, false] rfl rfl (take_ofW HT_.out HW_.out (by kernel_rfl)) (fun _ _ _ h => h) (Or.inl ⟨by rfl, ?_⟩) hHeld ?_ ?_
            rotate_left
            · rintro w' ⟨s0, s1, s2, s3, s4, s5, s6, s7, s8, s9, s10, s11⟩
              go_simp
              with_reducible rfl
            rotate_left
            · simp only [Act.put, List.setIfInBounds_toArray, List.set_cons_zero, List.set_cons_succ, i64_w, i32_w]
              rfl
            refine take_ (i := 2) (N := some 97) (v := ?_) (a' := ?_) #[true, false, true, false, false, false, false, false, false, false, false, false, false] rfl rfl (take_ofW HT_.out HW_.out (by kernel_rfl)) (fun _ _ _ h => h) (Or.inl ⟨by rfl, ?_⟩) hHeld ?_ ?_
            rotate_left
            · rintro w' ⟨s0, s1, s2, s3, s4, s5, s6, s7, s8, s9, s10, s11⟩
              go_simp
              with_reducible rfl
            rotate_left
            · simp only [Act.put, List.setIfInBounds_toArray, List.set_cons_zero, List.set_cons_succ, i64_w, i32_w]
              rfl
            refine one_ (i := 1) (N := some 96) #[true, true, true, false, false, false, false, false, false, false, false, false, false] rfl rfl (one_of HT_.out (by kernel_rfl)) (by decide) (fun K hK => ?_)
            refine goes_ Try.func15 (by kernel_rfl) rfl #[.agg #[.int .i64 a1_0, .int .i64 a1_1, .int .i64 a1_2, .int .i64 a1_3, .int .i64 a1_4, .int .i64 a1_5]] (by rfl) rfl rfl (by (try simp only [List.map_toArray, List.map_cons, List.map_nil]); first | done | rfl | (simp only [List.length_drop, List.length_take]; rfl)) ?_
            with_reducible refine (space_Valid.calls a1_0 a1_1 a1_2 a1_3 a1_4 a1_5 t231 _ A115.out).mono ?_
            rintro e w127 ⟨rfl, hb⟩
            refine ⟨_, rfl, ?_⟩
            have n0_ := Aside0.mk (Kd.R_below (by (with_reducible repeat (first | apply Kd.R_alloc | apply Kd.R_drewN | apply Kd.R_drew)); exact HO_26.out) hb)
            have n1_ := Aside0.mk (blk_below (g := gb185) (o := .cells #[.int .i64 a1_0, .int .i64 a1_1, .int .i64 a1_2, .int .i64 a1_3, .int .i64 a1_4, .int .i64 a1_5] 24 (0, 0)) (by (with_reducible repeat (first | refine blk_drewN ?_ _ | refine blk_drew ?_ | refine blk_alloc ?_ _)); exact BK185.out) hb)
            have n2_ := Aside0.mk (blk_below (g := gb203) (o := .cells #[.int .i64 t194, .int .i64 t195, .int .i64 t196, .int .i64 t197, .int .i64 t198, .int .i64 t199] 24 (0, 0)) (by (with_reducible repeat (first | refine blk_drewN ?_ _ | refine blk_drew ?_ | refine blk_alloc ?_ _)); exact BK203.out) hb)
            have n3_ := Aside0.mk (IsS54.below (by repeat (first | (with_reducible first | exact HI188.out | apply IsS54.alloc | apply IsS54.drewN | apply IsS54.drew | apply IsS54.set_1 | refine IsS54.far ?_ NB188_185.out _ | refine IsS54.far ?_ NB188_203.out _) | exact HI188.out)) hb)
            have n4_ := Aside0.mk (below_step (by repeat (first | (with_reducible first | exact HB.out | apply below_alloc | apply pw_below_drewN | apply below_drew1 | refine below_set ?_ (IsS54.ge HI188.out) | refine below_set ?_ GE185.out | refine below_set ?_ GE203.out) | exact HB.out)) hb)
            clear HO_26
            clear BK185
            clear BK203
            clear HI188
            clear HB
            have HO_26 := n0_
            have BK185 := n1_
            have BK203 := n2_
            have HI188 := n3_
            have HB := n4_
            clear n0_ n1_ n2_ n3_ n4_
            (try clear hb)
            (try clear hb2)
            (try clear hk)
            (try clear hi)
            refine hK.out _ _ ⟨(blk_cell BK185.out 0).trans rfl, (blk_cell BK185.out 1).trans rfl, (blk_cell BK185.out 2).trans rfl, (blk_cell BK185.out 3).trans rfl, (blk_cell BK185.out 4).trans rfl, (blk_cell BK185.out 5).trans rfl, (blk_cell BK203.out 0).trans rfl, (blk_cell BK203.out 1).trans rfl, (blk_cell BK203.out 2).trans rfl, (blk_cell BK203.out 3).trans rfl, (blk_cell BK203.out 4).trans rfl, (blk_cell BK203.out 5).trans rfl⟩ (fun hHeld => ?_)
            clear hK K
            refine norm_ (a' := ?_) ?_ ?_
            rotate_left
            · show Act.put _ (some 96) _ = _
              simp only [Act.put, List.setIfInBounds_toArray, List.set_cons_zero, List.set_cons_succ, i64_w, i32_w]
              rfl
            refine one_ (i := 3) (N := some 98) #[true, true, true, true, false, false, false, false, false, false, false, false, false] rfl rfl (one_of HT_.out (by kernel_rfl)) (by decide) (fun K hK => ?_)
            refine goes_ Try.func16 (by kernel_rfl) rfl #[.agg #[.int .i64 a1_0, .int .i64 a1_1, .int .i64 a1_2, .int .i64 a1_3, .int .i64 a1_4, .int .i64 a1_5]] (by rfl) rfl rfl (by (try simp only [List.map_toArray, List.map_cons, List.map_nil]); first | done | rfl | (simp only [List.length_drop, List.length_take]; rfl)) ?_
            with_reducible refine (kauditref26_SpaceValid.calls k1 a1_0 a1_1 a1_2 a1_3 a1_4 a1_5 t232 _ A116.out).mono ?_
            rintro e w128 ⟨rfl, hb⟩
            refine ⟨_, rfl, ?_⟩
            have n0_ := Aside0.mk (Kd.R_below (by (with_reducible repeat (first | apply Kd.R_alloc | apply Kd.R_drewN | apply Kd.R_drew)); exact HO_26.out) hb)
            have n1_ := Aside0.mk (blk_below (g := gb185) (o := .cells #[.int .i64 a1_0, .int .i64 a1_1, .int .i64 a1_2, .int .i64 a1_3, .int .i64 a1_4, .int .i64 a1_5] 24 (0, 0)) (by (with_reducible repeat (first | refine blk_drewN ?_ _ | refine blk_drew ?_ | refine blk_alloc ?_ _)); exact BK185.out) hb)
            have n2_ := Aside0.mk (blk_below (g := gb203) (o := .cells #[.int .i64 t194, .int .i64 t195, .int .i64 t196, .int .i64 t197, .int .i64 t198, .int .i64 t199] 24 (0, 0)) (by (with_reducible repeat (first | refine blk_drewN ?_ _ | refine blk_drew ?_ | refine blk_alloc ?_ _)); exact BK203.out) hb)
            have n3_ := Aside0.mk (IsS54.below (by repeat (first | (with_reducible first | exact HI188.out | apply IsS54.alloc | apply IsS54.drewN | apply IsS54.drew | apply IsS54.set_1 | refine IsS54.far ?_ NB188_185.out _ | refine IsS54.far ?_ NB188_203.out _) | exact HI188.out)) hb)
            have n4_ := Aside0.mk (below_step (by repeat (first | (with_reducible first | exact HB.out | apply below_alloc | apply pw_below_drewN | apply below_drew1 | refine below_set ?_ (IsS54.ge HI188.out) | refine below_set ?_ GE185.out | refine below_set ?_ GE203.out) | exact HB.out)) hb)
            clear HO_26
            clear BK185
            clear BK203
            clear HI188
            clear HB
            have HO_26 := n0_
            have BK185 := n1_
            have BK203 := n2_
            have HI188 := n3_
            have HB := n4_
            clear n0_ n1_ n2_ n3_ n4_
            (try clear hb)
            (try clear hb2)
            (try clear hk)
            (try clear hi)
            refine hK.out _ _ ⟨(blk_cell BK185.out 0).trans rfl, (blk_cell BK185.out 1).trans rfl, (blk_cell BK185.out 2).trans rfl, (blk_cell BK185.out 3).trans rfl, (blk_cell BK185.out 4).trans rfl, (blk_cell BK185.out 5).trans rfl, (blk_cell BK203.out 0).trans rfl, (blk_cell BK203.out 1).trans rfl, (blk_cell BK203.out 2).trans rfl, (blk_cell BK203.out 3).trans rfl, (blk_cell BK203.out 4).trans rfl, (blk_cell BK203.out 5).trans rfl⟩ (fun hHeld => ?_)
            clear hK K
            refine norm_ (a' := ?_) ?_ ?_
            rotate_left
            · show Act.put _ (some 98) _ = _
              simp only [Act.put, List.setIfInBounds_toArray, List.set_cons_zero, List.set_cons_succ, i64_w, i32_w]
              rfl
            refine pure_ (i := 4) (N := some 99) (v := ?_) (a' := ?_) #[true, true, true, true, true, false, false, false, false, false, false, false, false] rfl rfl (any_of HT_.out (by kernel_rfl)) (fun _ _ _ h => h) (Or.inl ⟨by rfl, ?_⟩) ?_ ?_
            rotate_left
            · intro w'
              go_simp
              with_reducible rfl
            rotate_left
            · simp only [Act.put, List.setIfInBounds_toArray, List.set_cons_zero, List.set_cons_succ, i64_w, i32_w]
              rfl
            refine pure_ (i := 5) (N := some 100) (v := ?_) (a' := ?_) #[true, true, true, true, true, true, false, false, false, false, false, false, false] rfl rfl (any_of HT_.out (by kernel_rfl)) (fun _ _ _ h => h) (Or.inl ⟨by rfl, ?_⟩) ?_ ?_
            rotate_left
            · intro w'
              go_simp
              with_reducible rfl
            rotate_left
            · simp only [Act.put, List.setIfInBounds_toArray, List.set_cons_zero, List.set_cons_succ, i64_w, i32_w]
              rfl
            refine take_ (i := 6) (N := some 101) (v := ?_) (a' := ?_) #[true, true, true, true, true, true, true, false, false, false, false, false, false] rfl rfl (take_ofW HT_.out HW_.out (by kernel_rfl)) (fun _ _ _ h => h) (Or.inl ⟨by rfl, ?_⟩) hHeld ?_ ?_
            rotate_left
            · rintro w' ⟨s0, s1, s2, s3, s4, s5, s6, s7, s8, s9, s10, s11⟩
              go_simp
              with_reducible rfl
            rotate_left
            · simp only [Act.put, List.setIfInBounds_toArray, List.set_cons_zero, List.set_cons_succ, i64_w, i32_w]
              rfl
            refine one_ (i := 7) (N := some 102) #[true, true, true, true, true, true, true, true, false, false, false, false, false] rfl rfl (one_of HT_.out (by kernel_rfl)) (by decide) (fun K hK => ?_)
            refine goes_ Try.func15 (by kernel_rfl) rfl #[.agg #[.int .i64 t194, .int .i64 t195, .int .i64 t196, .int .i64 t197, .int .i64 t198, .int .i64 t199]] (by rfl) rfl rfl (by (try simp only [List.map_toArray, List.map_cons, List.map_nil]); first | done | rfl | (simp only [List.length_drop, List.length_take]; rfl)) ?_
            with_reducible refine (space_Valid.calls t194 t195 t196 t197 t198 t199 false _ A118.out).mono ?_
            rintro e w129 ⟨rfl, hb⟩
            refine ⟨_, rfl, ?_⟩
            have n0_ := Aside0.mk (Kd.R_below (by (with_reducible repeat (first | apply Kd.R_alloc | apply Kd.R_drewN | apply Kd.R_drew)); exact HO_26.out) hb)
            have n1_ := Aside0.mk (blk_below (g := gb185) (o := .cells #[.int .i64 a1_0, .int .i64 a1_1, .int .i64 a1_2, .int .i64 a1_3, .int .i64 a1_4, .int .i64 a1_5] 24 (0, 0)) (by (with_reducible repeat (first | refine blk_drewN ?_ _ | refine blk_drew ?_ | refine blk_alloc ?_ _)); exact BK185.out) hb)
            have n2_ := Aside0.mk (blk_below (g := gb203) (o := .cells #[.int .i64 t194, .int .i64 t195, .int .i64 t196, .int .i64 t197, .int .i64 t198, .int .i64 t199] 24 (0, 0)) (by (with_reducible repeat (first | refine blk_drewN ?_ _ | refine blk_drew ?_ | refine blk_alloc ?_ _)); exact BK203.out) hb)
            have n3_ := Aside0.mk (IsS54.below (by repeat (first | (with_reducible first | exact HI188.out | apply IsS54.alloc | apply IsS54.drewN | apply IsS54.drew | apply IsS54.set_1 | refine IsS54.far ?_ NB188_185.out _ | refine IsS54.far ?_ NB188_203.out _) | exact HI188.out)) hb)
            have n4_ := Aside0.mk (below_step (by repeat (first | (with_reducible first | exact HB.out | apply below_alloc | apply pw_below_drewN | apply below_drew1 | refine below_set ?_ (IsS54.ge HI188.out) | refine below_set ?_ GE185.out | refine below_set ?_ GE203.out) | exact HB.out)) hb)
            clear HO_26
            clear BK185
            clear BK203
            clear HI188
            clear HB
            have HO_26 := n0_
            have BK185 := n1_
            have BK203 := n2_
            have HI188 := n3_
            have HB := n4_
            clear n0_ n1_ n2_ n3_ n4_
            (try clear hb)
            (try clear hb2)
            (try clear hk)
            (try clear hi)
            refine hK.out _ _ ⟨(blk_cell BK185.out 0).trans rfl, (blk_cell BK185.out 1).trans rfl, (blk_cell BK185.out 2).trans rfl, (blk_cell BK185.out 3).trans rfl, (blk_cell BK185.out 4).trans rfl, (blk_cell BK185.out 5).trans rfl, (blk_cell BK203.out 0).trans rfl, (blk_cell BK203.out 1).trans rfl, (blk_cell BK203.out 2).trans rfl, (blk_cell BK203.out 3).trans rfl, (blk_cell BK203.out 4).trans rfl, (blk_cell BK203.out 5).trans rfl⟩ (fun hHeld => ?_)
            clear hK K
            refine norm_ (a' := ?_) ?_ ?_
            rotate_left
            · show Act.put _ (some 102) _ = _
              simp only [Act.put, List.setIfInBounds_toArray, List.set_cons_zero, List.set_cons_succ, i64_w, i32_w]
              rfl
            refine pure_ (i := 8) (N := some 103) (v := ?_) (a' := ?_) #[true, true, true, true, true, true, true, true, true, false, false, false, false] rfl rfl (any_of HT_.out (by kernel_rfl)) (fun _ _ _ h => h) (Or.inl ⟨by rfl, ?_⟩) ?_ ?_
            rotate_left
            · intro w'
              go_simp
              with_reducible rfl
            rotate_left
            · simp only [Act.put, List.setIfInBounds_toArray, List.set_cons_zero, List.set_cons_succ, i64_w, i32_w]
              rfl
            refine pure_ (i := 9) (N := some 104) (v := ?_) (a' := ?_) #[true, true, true, true, true, true, true, true, true, true, false, false, false] rfl rfl (any_of HT_.out (by kernel_rfl)) (fun _ _ _ h => h) (Or.inl ⟨by rfl, ?_⟩) ?_ ?_
            rotate_left
            · intro w'
              go_simp
              with_reducible rfl
            rotate_left
            · simp only [Act.put, List.setIfInBounds_toArray, List.set_cons_zero, List.set_cons_succ, i64_w, i32_w]
              rfl
            refine pure_ (i := 10) (N := some 105) (v := undef) (a' := ?_) #[true, true, true, true, true, true, true, true, true, true, true, false, false] rfl rfl (any_of HT_.out (by kernel_rfl)) (fun _ _ _ h => h) (Or.inr ⟨by rfl, rfl⟩) ?_ ?_
            rotate_left
            · simp only [Act.put, List.setIfInBounds_toArray, List.set_cons_zero, List.set_cons_succ, i64_w, i32_w]
              rfl
            refine pure_ (i := 11) (N := some 106) (v := ?_) (a' := ?_) #[true, true, true, true, true, true, true, true, true, true, true, true, false] rfl rfl (any_of HT_.out (by kernel_rfl)) (fun _ _ _ h => h) (Or.inl ⟨by rfl, ?_⟩) ?_ ?_
            rotate_left
            · intro w'
              go_simp
              with_reducible rfl
            rotate_left
            · simp only [Act.put, List.setIfInBounds_toArray, List.set_cons_zero, List.set_cons_succ, i64_w, i32_w]
              rfl
            refine pure_ (i := 12) (N := some 8) (v := ?_) (a' := ?_) #[true, true, true, true, true, true, true, true, true, true, true, true, true] rfl rfl (any_of HT_.out (by kernel_rfl)) (fun _ _ _ h => h) (Or.inl ⟨by rfl, ?_⟩) ?_ ?_
            rotate_left
            · intro w'
              go_simp
              with_reducible rfl
            rotate_left
            · simp only [Act.put, List.setIfInBounds_toArray, List.set_cons_zero, List.set_cons_succ, i64_w, i32_w]
              rfl
            refine done_ (done_of HT_.out (by kernel_rfl)) ?_
            try go_wp2
            go_ret
            exact ⟨by first | rfl | (simp [errW_none, errW_some] <;> rfl) | (simp [*, errW_none, errW_some] <;> rfl), by repeat (first | (with_reducible first | exact HB.out | apply below_alloc | apply pw_below_drewN | apply below_drew1 | refine below_set ?_ (IsS54.ge HI188.out) | refine below_set ?_ GE185.out | refine below_set ?_ GE203.out) | exact HB.out)⟩
        · rw [if_neg c117] at H
          have c117b0 : (t231 == t232) = false := by simpa using c117
          (try (have c117b1 : decide (t231 = t232) = false := by simpa using c117))
          (try (have c117b2 : (t231 == t232) = false := by simpa using c117))
          (try (have c117b3 : ¬ (t231 = t232) := by simpa using c117))
          clear c117
          obtain rfl := Option.some.inj H
          try go_wp2
          have n0_ := Aside0.mk (Kd.R_drew HO_26.out)
          have n1_ := Aside0.mk (blk_drew BK185.out)
          have n2_ := Aside0.mk (blk_drew BK203.out)
          have n3_ := Aside0.mk (IsS54.drew HI188.out)
          have n4_ := Aside0.mk (below_drew1 HB.out)
          clear HO_26
          clear BK185
          clear BK203
          clear HI188
          clear HB
          have HO_26 := n0_
          have BK185 := n1_
          have BK203 := n2_
          have HI188 := n3_
          have HB := n4_
          clear n0_ n1_ n2_ n3_ n4_
          refine start_ (n := 13) (S := fun w' => w'.cell? ⟨gb185, 0, none⟩ = some (.int .i64 a1_0) ∧ w'.cell? ⟨gb185, 1, none⟩ = some (.int .i64 a1_1) ∧ w'.cell? ⟨gb185, 2, none⟩ = some (.int .i64 a1_2) ∧ w'.cell? ⟨gb185, 3, none⟩ = some (.int .i64 a1_3) ∧ w'.cell? ⟨gb185, 4, none⟩ = some (.int .i64 a1_4) ∧ w'.cell? ⟨gb185, 5, none⟩ = some (.int .i64 a1_5)) (ds := []) #[false, false, false, false, false, false, false, false, false, false, false, false, false] (by kernel_rfl) rfl rfl ⟨(blk_cell BK185.out 0).trans rfl, (blk_cell BK185.out 1).trans rfl, (blk_cell BK185.out 2).trans rfl, (blk_cell BK185.out 3).trans rfl, (blk_cell BK185.out 4).trans rfl, (blk_cell BK185.out 5).trans rfl⟩ (fun hHeld => ?_); refine with_tabW looks.tab15 looks.bits15 (fun HT_ HW_ => ?_)
          generalize wr.drew = w130 at HO_26 BK185 BK203 HI188 HB hHeld ⊢
          refine take_ (i := 0) (N := some 95) (v := ?_) (a' := ?_) #[true, false, false, false, false, false, false, false, false, false, false, false, false] rfl rfl (take_ofW HT_.out HW_.out (by kernel_rfl)) (fun _ _ _ h => h) (Or.inl ⟨by rfl, ?_⟩) hHeld ?_ ?_
          rotate_left
          · rintro w' ⟨s0, s1, s2, s3, s4, s5⟩
            go_simp
            with_reducible rfl
          rotate_left
          · simp only [Act.put, List.setIfInBounds_toArray, List.set_cons_zero, List.set_cons_succ, i64_w, i32_w]
            rfl
          refine take_ (i := 2) (N := some 97) (v := ?_) (a' := ?_) #[true, false, true, false, false, false, false, false, false, false, false, false, false] rfl rfl (take_ofW HT_.out HW_.out (by kernel_rfl)) (fun _ _ _ h => h) (Or.inl ⟨by rfl, ?_⟩) hHeld ?_ ?_
          rotate_left
          · rintro w' ⟨s0, s1, s2, s3, s4, s5⟩
            go_simp
            with_reducible rfl
          rotate_left
          · simp only [Act.put, List.setIfInBounds_toArray, List.set_cons_zero, List.set_cons_succ, i64_w, i32_w]
            rfl
          refine one_ (i := 1) (N := some 96) #[true, true, true, false, false, false, false, false, false, false, false, false, false] rfl rfl (one_of HT_.out (by kernel_rfl)) (by decide) (fun K hK => ?_)
          refine goes_ Try.func15 (by kernel_rfl) rfl #[.agg #[.int .i64 a1_0, .int .i64 a1_1, .int .i64 a1_2, .int .i64 a1_3, .int .i64 a1_4, .int .i64 a1_5]] (by rfl) rfl rfl (by (try simp only [List.map_toArray, List.map_cons, List.map_nil]); first | done | rfl | (simp only [List.length_drop, List.length_take]; rfl)) ?_
          with_reducible refine (space_Valid.calls a1_0 a1_1 a1_2 a1_3 a1_4 a1_5 t231 _ A115.out).mono ?_
          rintro e w131 ⟨rfl, hb⟩
          refine ⟨_, rfl, ?_⟩
          have n0_ := Aside0.mk (Kd.R_below (by (with_reducible repeat (first | apply Kd.R_alloc | apply Kd.R_drewN | apply Kd.R_drew)); exact HO_26.out) hb)
          have n1_ := Aside0.mk (blk_below (g := gb185) (o := .cells #[.int .i64 a1_0, .int .i64 a1_1, .int .i64 a1_2, .int .i64 a1_3, .int .i64 a1_4, .int .i64 a1_5] 24 (0, 0)) (by (with_reducible repeat (first | refine blk_drewN ?_ _ | refine blk_drew ?_ | refine blk_alloc ?_ _)); exact BK185.out) hb)
          have n2_ := Aside0.mk (blk_below (g := gb203) (o := .cells #[.int .i64 t194, .int .i64 t195, .int .i64 t196, .int .i64 t197, .int .i64 t198, .int .i64 t199] 24 (0, 0)) (by (with_reducible repeat (first | refine blk_drewN ?_ _ | refine blk_drew ?_ | refine blk_alloc ?_ _)); exact BK203.out) hb)
          have n3_ := Aside0.mk (IsS54.below (by repeat (first | (with_reducible first | exact HI188.out | apply IsS54.alloc | apply IsS54.drewN | apply IsS54.drew | apply IsS54.set_1 | refine IsS54.far ?_ NB188_185.out _ | refine IsS54.far ?_ NB188_203.out _) | exact HI188.out)) hb)
          have n4_ := Aside0.mk (below_step (by repeat (first | (with_reducible first | exact HB.out | apply below_alloc | apply pw_below_drewN | apply below_drew1 | refine below_set ?_ (IsS54.ge HI188.out) | refine below_set ?_ GE185.out | refine below_set ?_ GE203.out) | exact HB.out)) hb)
          clear HO_26
          clear BK185
          clear BK203
          clear HI188
          clear HB
          have HO_26 := n0_
          have BK185 := n1_
          have BK203 := n2_
          have HI188 := n3_
          have HB := n4_
          clear n0_ n1_ n2_ n3_ n4_
          (try clear hb)
          (try clear hb2)
          (try clear hk)
          (try clear hi)
          refine hK.out _ _ ⟨(blk_cell BK185.out 0).trans rfl, (blk_cell BK185.out 1).trans rfl, (blk_cell BK185.out 2).trans rfl, (blk_cell BK185.out 3).trans rfl, (blk_cell BK185.out 4).trans rfl, (blk_cell BK185.out 5).trans rfl⟩ (fun hHeld => ?_)
          clear hK K
          refine norm_ (a' := ?_) ?_ ?_
          rotate_left
          · show Act.put _ (some 96) _ = _
            simp only [Act.put, List.setIfInBounds_toArray, List.set_cons_zero, List.set_cons_succ, i64_w, i32_w]
            rfl
          refine one_ (i := 3) (N := some 98) #[true, true, true, true, false, false, false, false, false, false, false, false, false] rfl rfl (one_of HT_.out (by kernel_rfl)) (by decide) (fun K hK => ?_)
          refine goes_ Try.func16 (by kernel_rfl) rfl #[.agg #[.int .i64 a1_0, .int .i64 a1_1, .int .i64 a1_2, .int .i64 a1_3, .int .i64 a1_4, .int .i64 a1_5]] (by rfl) rfl rfl (by (try simp only [List.map_toArray, List.map_cons, List.map_nil]); first | done | rfl | (simp only [List.length_drop, List.length_take]; rfl)) ?_
          with_reducible refine (kauditref26_SpaceValid.calls k1 a1_0 a1_1 a1_2 a1_3 a1_4 a1_5 t232 _ A116.out).mono ?_
          rintro e w132 ⟨rfl, hb⟩
          refine ⟨_, rfl, ?_⟩
          have n0_ := Aside0.mk (Kd.R_below (by (with_reducible repeat (first | apply Kd.R_alloc | apply Kd.R_drewN | apply Kd.R_drew)); exact HO_26.out) hb)
          have n1_ := Aside0.mk (blk_below (g := gb185) (o := .cells #[.int .i64 a1_0, .int .i64 a1_1, .int .i64 a1_2, .int .i64 a1_3, .int .i64 a1_4, .int .i64 a1_5] 24 (0, 0)) (by (with_reducible repeat (first | refine blk_drewN ?_ _ | refine blk_drew ?_ | refine blk_alloc ?_ _)); exact BK185.out) hb)
          have n2_ := Aside0.mk (blk_below (g := gb203) (o := .cells #[.int .i64 t194, .int .i64 t195, .int .i64 t196, .int .i64 t197, .int .i64 t198, .int .i64 t199] 24 (0, 0)) (by (with_reducible repeat (first | refine blk_drewN ?_ _ | refine blk_drew ?_ | refine blk_alloc ?_ _)); exact BK203.out) hb)
          have n3_ := Aside0.mk (IsS54.below (by repeat (first | (with_reducible first | exact HI188.out | apply IsS54.alloc | apply IsS54.drewN | apply IsS54.drew | apply IsS54.set_1 | refine IsS54.far ?_ NB188_185.out _ | refine IsS54.far ?_ NB188_203.out _) | exact HI188.out)) hb)
          have n4_ := Aside0.mk (below_step (by repeat (first | (with_reducible first | exact HB.out | apply below_alloc | apply pw_below_drewN | apply below_drew1 | refine below_set ?_ (IsS54.ge HI188.out) | refine below_set ?_ GE185.out | refine below_set ?_ GE203.out) | exact HB.out)) hb)
          clear HO_26
          clear BK185
          clear BK203
          clear HI188
          clear HB
          have HO_26 := n0_
          have BK185 := n1_
          have BK203 := n2_
          have HI188 := n3_
          have HB := n4_
          clear n0_ n1_ n2_ n3_ n4_
          (try clear hb)
          (try clear hb2)
          (try clear hk)
          (try clear hi)
          refine hK.out _ _ ⟨(blk_cell BK185.out 0).trans rfl, (blk_cell BK185.out 1).trans rfl, (blk_cell BK185.out 2).trans rfl, (blk_cell BK185.out 3).trans rfl, (blk_cell BK185.out 4).trans rfl, (blk_cell BK185.out 5).trans rfl⟩ (fun hHeld => ?_)
          clear hK K
          refine norm_ (a' := ?_) ?_ ?_
          rotate_left
          · show Act.put _ (some 98) _ = _
            simp only [Act.put, List.setIfInBounds_toArray, List.set_cons_zero, List.set_cons_succ, i64_w, i32_w]
            rfl
          refine pure_ (i := 4) (N := some 99) (v := ?_) (a' := ?_) #[true, true, true, true, true, false, false, false, false, false, false, false, false] rfl rfl (any_of HT_.out (by kernel_rfl)) (fun _ _ _ h => h) (Or.inl ⟨by rfl, ?_⟩) ?_ ?_
          rotate_left
          · intro w'
            go_simp
            with_reducible rfl
          rotate_left
          · simp only [Act.put, List.setIfInBounds_toArray, List.set_cons_zero, List.set_cons_succ, i64_w, i32_w]
            rfl
          refine pure_ (i := 5) (N := some 100) (v := ?_) (a' := ?_) #[true, true, true, true, true, true, false, false, false, false, false, false, false] rfl rfl (any_of HT_.out (by kernel_rfl)) (fun _ _ _ h => h) (Or.inl ⟨by rfl, ?_⟩) ?_ ?_
          rotate_left
          · intro w'
            go_simp
            with_reducible rfl
          rotate_left
          · simp only [Act.put, List.setIfInBounds_toArray, List.set_cons_zero, List.set_cons_succ, i64_w, i32_w]
            rfl
          refine pure_ (i := 6) (N := some 101) (v := undef) (a' := ?_) #[true, true, true, true, true, true, true, false, false, false, false, false, false] rfl rfl (any_of HT_.out (by kernel_rfl)) (fun _ _ _ h => h) (Or.inr ⟨by rfl, rfl⟩) ?_ ?_
          rotate_left
          · simp only [Act.put, List.setIfInBounds_toArray, List.set_cons_zero, List.set_cons_succ, i64_w, i32_w]
            rfl
          refine pure_ (i := 7) (N := some 102) (v := undef) (a' := ?_) #[true, true, true, true, true, true, true, true, false, false, false, false, false] rfl rfl (any_of HT_.out (by kernel_rfl)) (fun _ _ _ h => h) (Or.inr ⟨by rfl, rfl⟩) ?_ ?_
          rotate_left
          · simp only [Act.put, List.setIfInBounds_toArray, List.set_cons_zero, List.set_cons_succ, i64_w, i32_w]
            rfl
          refine pure_ (i := 8) (N := some 103) (v := ?_) (a' := ?_) #[true, true, true, true, true, true, true, true, true, false, false, false, false] rfl rfl (any_of HT_.out (by kernel_rfl)) (fun _ _ _ h => h) (Or.inl ⟨by rfl, ?_⟩) ?_ ?_
          rotate_left
          · intro w'
            go_simp
            with_reducible rfl
          rotate_left
          · simp only [Act.put, List.setIfInBounds_toArray, List.set_cons_zero, List.set_cons_succ, i64_w, i32_w]
            rfl
          refine pure_ (i := 9) (N := some 104) (v := ?_) (a' := ?_) #[true, true, true, true, true, true, true, true, true, true, false, false, false] rfl rfl (any_of HT_.out (by kernel_rfl)) (fun _ _ _ h => h) (Or.inl ⟨by rfl, ?_⟩) ?_ ?_
          rotate_left
          · intro w'
            go_simp
            with_reducible rfl
          rotate_left
          · simp only [Act.put, List.setIfInBounds_toArray, List.set_cons_zero, List.set_cons_succ, i64_w, i32_w]
            rfl
          refine pure_ (i := 10) (N := some 105) (v := undef) (a' := ?_) #[true, true, true, true, true, true, true, true, true, true, true, false, false] rfl rfl (any_of HT_.out (by kernel_rfl)) (fun _ _ _ h => h) (Or.inr ⟨by rfl, rfl⟩) ?_ ?_
          rotate_left
          · simp only [Act.put, List.setIfInBounds_toArray, List.set_cons_zero, List.set_cons_succ, i64_w, i32_w]
            rfl
          refine pure_ (i := 11) (N := some 106) (v := ?_) (a' := ?_) #[true, true, true, true, true, true, true, true, true, true, true, true, false] rfl rfl (any_of HT_.out (by kernel_rfl)) (fun _ _ _ h => h) (Or.inl ⟨by rfl, ?_⟩) ?_ ?_
          rotate_left
          · intro w'
            go_simp
            with_reducible rfl
          rotate_left
          · simp only [Act.put, List.setIfInBounds_toArray, List.set_cons_zero, List.set_cons_succ, i64_w, i32_w]
            rfl
          refine pure_ (i := 12) (N := some 8) (v := ?_) (a' := ?_) #[true, true, true, true, true, true, true, true, true, true, true, true, true] rfl rfl (any_of HT_.out (by kernel_rfl)) (fun _ _ _ h => h) (Or.inl ⟨by rfl, ?_⟩) ?_ ?_
          rotate_left
          · intro w'
            go_simp
            with_reducible rfl
          rotate_left
          · simp only [Act.put, List.setIfInBounds_toArray, List.set_cons_zero, List.set_cons_succ, i64_w, i32_w]
            rfl
          refine done_ (done_of HT_.out (by kernel_rfl)) ?_
          try go_wp2
          go_ret
          exact ⟨by first | rfl | (simp [errW_none, errW_some] <;> rfl) | (simp [*, errW_none, errW_some] <;> rfl), by repeat (first | (with_reducible first | exact HB.out | apply below_alloc | apply pw_below_drewN | apply below_drew1 | refine below_set ?_ (IsS54.ge HI188.out) | refine below_set ?_ GE185.out | refine below_set ?_ GE203.out) | exact HB.out)⟩

/-- THE ONE PURE STATEMENT of looks: yours. -/
def looks.Pure : Prop := ∀ (l0 : List Int) (a1_0 : Int) (a1_1 : Int) (a1_2 : Int) (a1_3 : Int) (a1_4 : Int) (a1_5 : Int) (a2 : Int) (a3 : Int), l0.length ≤ maxLen → l0.length * 1 ≤ 140737488351232 → (∀ x ∈ l0, (Lit.int .u8 x).wf = true) → (Lit.int .i64 a1_0).wf = true → (Lit.int .i64 a1_1).wf = true → (Lit.int .i64 a1_2).wf = true → (Lit.int .i64 a1_3).wf = true → (Lit.int .i64 a1_4).wf = true → (Lit.int .i64 a1_5).wf = true → (Lit.int .i64 a2).wf = true → (Lit.int .i64 a3).wf = true → ∃ k, looks.f k l0 a1_0 a1_1 a1_2 a1_3 a1_4 a1_5 a2 a3 = some true
theorem looks.walk (P : looks.Pure) (a0 : Option Addr) (len0 cap0 : Nat) (z0 : List Int) (a1_0 : Int) (a1_1 : Int) (a1_2 : Int) (a1_3 : Int) (a1_4 : Int) (a1_5 : Int) (a2 : Int) (a3 : Int) (w : World) (w0 : (a0 = none ∧ len0 = 0 ∧ cap0 = 0 ∧ z0 = []) ∨ ∃ x, a0 = some x ∧ len0 ≤ cap0 ∧ cap0 ≤ maxLen ∧ z0.length = cap0 ∧ (∀ i, i < z0.length → w.cell? (x.add i) = some (.int .u8 (z0.getD i 0))) ∧ ∀ n ∈ z0, (Lit.int .u8 n).wf = true) (y0 : len0 * 1 ≤ 140737488351232) (w1_0 : (Lit.int .i64 a1_0).wf = true) (w1_1 : (Lit.int .i64 a1_1).wf = true) (w1_2 : (Lit.int .i64 a1_2).wf = true) (w1_3 : (Lit.int .i64 a1_3).wf = true) (w1_4 : (Lit.int .i64 a1_4).wf = true) (w1_5 : (Lit.int .i64 a1_5).wf = true) (w2 : (Lit.int .i64 a2).wf = true) (w3 : (Lit.int .i64 a3).wf = true) :
    Calls Try.prog 3 #[.slice a0 len0 cap0, .agg #[.int .i64 a1_0, .int .i64 a1_1, .int .i64 a1_2, .int .i64 a1_3, .int .i64 a1_4, .int .i64 a1_5], .int .i64 a2, .int .i64 a3] w fun e w' => e = .returned (.bool true) ∧ Below w.heap.size w w' := by
  obtain ⟨l0, rfl, hr0, hm0, hw0, hc0⟩ := ReadsInt.ofRowC w0
  obtain ⟨k, h⟩ := P l0 a1_0 a1_1 a1_2 a1_3 a1_4 a1_5 a2 a3 hm0 y0 hw0 w1_0 w1_1 w1_2 w1_3 w1_4 w1_5 w2 w3
  refine (looks.calls k _ _ l0 a1_0 a1_1 a1_2 a1_3 a1_4 a1_5 a2 a3 true w (Kd.C_of_reads (d := (0 : Int)) (h1 := fun _ => rfl) hr0) hc0 h).mono ?_
  rintro e w' ⟨rfl, hd⟩
  exact ⟨rfl, hd⟩

end Go.Proofs.Ytlojfepfnmoclaa.PAll
