-- Written by a program of this place's prover (wip/turn_print.py): not by hand.
import Derived.Test.YtlojfepfnmoclaaPAllx0
import Derived.Test.YtlojfepfnmoclaaPAllx1
import Derived.Test.YtlojfepfnmoclaaPAllx2
import Derived.Test.YtlojfepfnmoclaaPAllx3
import Derived.Test.YtlojfepfnmoclaaPAllx4
import Derived.Test.YtlojfepfnmoclaaPAllx5
import Derived.Test.YtlojfepfnmoclaaPAllx6
namespace Go.Proofs.Ytlojfepfnmoclaa.PAll
open Go.RowKit Go.Proofs.YtlojfepfnmoclaaW.PrintWords Go.Proofs.YtlojfepfnmoclaaW.PrintLast Go.Proofs.YtlojfepfnmoclaaW.PrintMore
attribute [local go_sem] max2_int min2_int max_two min_two max_three min_three max_four min_four   -- for this text's walks alone
set_option linter.unusedVariables false
set_option linter.unusedSimpArgs false

/-! ### kauditmill_Case_Config: function 8 -/
mutual
def kauditmill_Case_Config.j0 : Nat → List Int → Int → Int → Int → Int → Int → Int → Int → Option (Int × Int × Int × Int × Int × Int × Int × Int × Int × Int × Int × Int × Int × Int)
  | 0, _, _, _, _, _, _, _, _ => none
  | k + 1, x1000, x1001, x142000, x142001, x142002, x142003, x142004, x142005 => (kauditmill_Case_Int.f x1000 x1001 4).bind fun bt144 => (if (wrap64 (1 + bt144.1)) = 2 then (kauditmill_Case_Config.j1 k true x1000 bt144.2 x142000 x142001 x142002 x142003 x142004 x142005 (wrap64 (1 + bt144.1)) 0) else (kauditmill_Case_Config.j1 k ((wrap64 (1 + bt144.1)) == 3) x1000 bt144.2 x142000 x142001 x142002 x142003 x142004 x142005 (wrap64 (1 + bt144.1)) 0))
def kauditmill_Case_Config.j1 : Nat → Bool → List Int → Int → Int → Int → Int → Int → Int → Int → Int → Int → Option (Int × Int × Int × Int × Int × Int × Int × Int × Int × Int × Int × Int × Int × Int)
  | 0, _, _, _, _, _, _, _, _, _, _, _ => none
  | k + 1, x43, x1000, x1001, x142000, x142001, x142002, x142003, x142004, x142005, x147000, x147001 => if x43 = true then ((kauditmill_Case_Int.f x1000 x1001 4).bind fun bt147 => ((kauditmill_Case_Key.f x1000 bt147.2).bind fun bt149 => ((kauditmill_Case_Rotation.f x1000 bt149.2.2).bind fun bt152 => (some (bt149.1, bt149.2.1, bt152.1, bt152.2.1, bt152.2.2.1, x142000, x142001, x142002, x142003, x142004, x142005, x147000, wrap64 (1 + bt147.1), bt152.2.2.2))))) else ((kauditmill_Case_Key.f x1000 x1001).bind fun bt156 => ((kauditmill_Case_Rotation.f x1000 bt156.2.2).bind fun bt159 => (some (bt156.1, bt156.2.1, bt159.1, bt159.2.1, bt159.2.2.1, x142000, x142001, x142002, x142003, x142004, x142005, x147000, x147001, bt159.2.2.2))))
end
def kauditmill_Case_Config.f (k : Nat) (s0_0 : List Int) (s0_1 : Int) : Option (Int × Int × Int × Int × Int × Int × Int × Int × Int × Int × Int × Int × Int × Int) := (kauditmill_Case_Pick.f s0_0 s0_1 (([0, 0, 300, 900] : List Int))).bind fun bt129 => ((kauditmill_Case_Int.f s0_0 bt129.2 2).bind fun bt131 => ((kauditmill_Case_Int.f s0_0 bt131.2 5).bind fun bt133 => ((kauditmill_Case_Int.f s0_0 bt133.2 5).bind fun bt135 => ((kauditmill_Case_Int.f s0_0 bt135.2 5).bind fun bt137 => ((kauditmill_Case_Int.f s0_0 bt137.2 5).bind fun bt139 => ((kauditmill_Case_Bool.f s0_0 bt139.2 2).bind fun bt142 => (if bt142.1 = true then (kauditmill_Case_Config.j0 k s0_0 bt142.2 bt129.1 (wrap64 (Int.tdiv (wrap64 (bt129.1 * bt131.1)) 2)) 2 1 (wrap64 (1 + bt137.1)) (wrap64 (1 + bt139.1))) else (kauditmill_Case_Config.j0 k s0_0 bt142.2 bt129.1 (wrap64 (Int.tdiv (wrap64 (bt129.1 * bt131.1)) 2)) (wrap64 (1 + bt133.1)) (wrap64 (1 + bt135.1)) (wrap64 (1 + bt137.1)) (wrap64 (1 + bt139.1))))))))))
theorem kauditmill_Case_Config.mono_l : ∀ k, (∀ y0 y1 y2 y3 y4 y5 y6 y7, LeO (kauditmill_Case_Config.j0 k y0 y1 y2 y3 y4 y5 y6 y7) (kauditmill_Case_Config.j0 (k + 1) y0 y1 y2 y3 y4 y5 y6 y7)) ∧ (∀ y0 y1 y2 y3 y4 y5 y6 y7 y8 y9 y10, LeO (kauditmill_Case_Config.j1 k y0 y1 y2 y3 y4 y5 y6 y7 y8 y9 y10) (kauditmill_Case_Config.j1 (k + 1) y0 y1 y2 y3 y4 y5 y6 y7 y8 y9 y10))
  | 0 => ⟨fun _ _ _ _ _ _ _ _ r h => by simp [kauditmill_Case_Config.j0] at h, fun _ _ _ _ _ _ _ _ _ _ _ r h => by simp [kauditmill_Case_Config.j1] at h⟩
  | k + 1 => by
    obtain ⟨ih0, ih1⟩ := kauditmill_Case_Config.mono_l k
    refine ⟨?_, ?_⟩
    · intro y0 y1 y2 y3 y4 y5 y6 y7
      unfold kauditmill_Case_Config.j0
      repeat' first
      | (with_reducible exact ih0 _ _ _ _ _ _ _ _)
      | (with_reducible exact ih1 _ _ _ _ _ _ _ _ _ _ _)
      | (with_reducible exact LeO.refl _)
      | (with_reducible exact LeO.none _)
      | (with_reducible refine LeO.ite ?_ ?_)
      | (with_reducible refine LeO.bind ?_ (fun _ => ?_))
      | exact ih0 _ _ _ _ _ _ _ _
      | exact ih1 _ _ _ _ _ _ _ _ _ _ _
      | exact LeO.none _
      | refine LeO.ite ?_ ?_
      | refine LeO.bind ?_ (fun _ => ?_)
    · intro y0 y1 y2 y3 y4 y5 y6 y7 y8 y9 y10
      unfold kauditmill_Case_Config.j1
      repeat' first
      | (with_reducible exact ih0 _ _ _ _ _ _ _ _)
      | (with_reducible exact ih1 _ _ _ _ _ _ _ _ _ _ _)
      | (with_reducible exact LeO.refl _)
      | (with_reducible exact LeO.none _)
      | (with_reducible refine LeO.ite ?_ ?_)
      | (with_reducible refine LeO.bind ?_ (fun _ => ?_))
      | exact ih0 _ _ _ _ _ _ _ _
      | exact ih1 _ _ _ _ _ _ _ _ _ _ _
      | exact LeO.none _
      | refine LeO.ite ?_ ?_
      | refine LeO.bind ?_ (fun _ => ?_)
theorem kauditmill_Case_Config.mono : ∀ a0 a1 k, LeO (kauditmill_Case_Config.f k a0 a1) (kauditmill_Case_Config.f (k + 1) a0 a1) := by
  intro a0 a1 k
  obtain ⟨ih0, ih1⟩ := kauditmill_Case_Config.mono_l k
  unfold kauditmill_Case_Config.f
  repeat' first
      | (with_reducible exact ih0 _ _ _ _ _ _ _ _)
      | (with_reducible exact ih1 _ _ _ _ _ _ _ _ _ _ _)
      | (with_reducible exact LeO.refl _)
      | (with_reducible exact LeO.none _)
      | (with_reducible refine LeO.ite ?_ ?_)
      | (with_reducible refine LeO.bind ?_ (fun _ => ?_))
      | exact ih0 _ _ _ _ _ _ _ _
      | exact ih1 _ _ _ _ _ _ _ _ _ _ _
      | exact LeO.none _
      | refine LeO.ite ?_ ?_
      | refine LeO.bind ?_ (fun _ => ?_)
def kauditmill_Case_Config.T8 : Bool × List (List Nat × List Nat) := (true, [([], []), ([0], [0]), ([], []), ([2, 1], [2]), ([], []), ([], []), ([1, 3, 4, 5], [1, 3, 4, 5]), ([6, 3, 0, 1, 2, 3, 4, 5, 6], [6])])
def kauditmill_Case_Config.B8 : List Nat := [0, 1, 0, 7, 0, 0, 63, 127]
theorem kauditmill_Case_Config.tab8 : rtab .any (opsOf Try.f8 8) = kauditmill_Case_Config.T8 := by kernel_rfl
theorem kauditmill_Case_Config.bits8 : waitsOk kauditmill_Case_Config.T8.2 kauditmill_Case_Config.B8 = true := by kernel_rfl
set_option maxHeartbeats 8000000 in
set_option maxRecDepth 100000 in
theorem kauditmill_Case_Config.calls (k : Nat) (g : Nat) (s0_0 : List Int) (s0_1 : Int) (r1 : Int) (r2 : Int) (r3 : Int) (r4 : Int) (r5 : Int) (r6 : Int) (r7 : Int) (r8 : Int) (r9 : Int) (r10 : Int) (r11 : Int) (r12 : Int) (r13 : Int) (r14 : Int) (w0 w : World) (hI : IsS54 w0 w g s0_0 s0_1) (hB : Below w0.heap.size w0 w) (h : kauditmill_Case_Config.f k s0_0 s0_1 = some (r1, r2, r3, r4, r5, r6, r7, r8, r9, r10, r11, r12, r13, r14)) :
    Calls Try.prog 8 #[.pointer (some ⟨g, 0, none⟩)] w fun e w' => e = .returned (.agg #[.int .u64 r1, .int .u64 r2, .int .i64 r3, .int .i64 r4, .int .i64 r5, .int .i64 r6, .int .i64 r7, .int .i64 r8, .int .i64 r9, .int .i64 r10, .int .i64 r11, .int .i64 r12, .int .i64 r13]) ∧ IsS54 w0 w' g s0_0 r14 ∧ Below w0.heap.size w0 w' ∧ KeepBut w w' g none := by
  have hu35 := Try.underlying35
  have hu24 := Try.underlying24
  have hu33 := Try.underlying33
  have HI0 := Aside0.mk hI
  have HK := Aside0.mk (KeepBut.refl w g none)
  have HL := Aside0.mk hB.size
  clear hI
  have HW0 := Aside0.mk hB.size
  have HB := Aside0.mk hB
  clear hB
  have H : ((kauditmill_Case_Pick.f s0_0 s0_1 (([0, 0, 300, 900] : List Int))).bind fun bt129 => ((kauditmill_Case_Int.f s0_0 bt129.2 2).bind fun bt131 => ((kauditmill_Case_Int.f s0_0 bt131.2 5).bind fun bt133 => ((kauditmill_Case_Int.f s0_0 bt133.2 5).bind fun bt135 => ((kauditmill_Case_Int.f s0_0 bt135.2 5).bind fun bt137 => ((kauditmill_Case_Int.f s0_0 bt137.2 5).bind fun bt139 => ((kauditmill_Case_Bool.f s0_0 bt139.2 2).bind fun bt142 => (if bt142.1 = true then (kauditmill_Case_Config.j0 k s0_0 bt142.2 bt129.1 (wrap64 (Int.tdiv (wrap64 (bt129.1 * bt131.1)) 2)) 2 1 (wrap64 (1 + bt137.1)) (wrap64 (1 + bt139.1))) else (kauditmill_Case_Config.j0 k s0_0 bt142.2 bt129.1 (wrap64 (Int.tdiv (wrap64 (bt129.1 * bt131.1)) 2)) (wrap64 (1 + bt133.1)) (wrap64 (1 + bt135.1)) (wrap64 (1 + bt137.1)) (wrap64 (1 + bt139.1))))))))))) = some (r1, r2, r3, r4, r5, r6, r7, r8, r9, r10, r11, r12, r13, r14) := h
  clear h
  obtain ⟨y126, hy126⟩ : ∃ y_ : List Int, y_ = (([0, 0, 300, 900] : List Int)) := ⟨_, rfl⟩
  replace H : ((kauditmill_Case_Pick.f s0_0 s0_1 y126).bind fun bt129 => ((kauditmill_Case_Int.f s0_0 bt129.2 2).bind fun bt131 => ((kauditmill_Case_Int.f s0_0 bt131.2 5).bind fun bt133 => ((kauditmill_Case_Int.f s0_0 bt133.2 5).bind fun bt135 => ((kauditmill_Case_Int.f s0_0 bt135.2 5).bind fun bt137 => ((kauditmill_Case_Int.f s0_0 bt137.2 5).bind fun bt139 => ((kauditmill_Case_Bool.f s0_0 bt139.2 2).bind fun bt142 => (if bt142.1 = true then (kauditmill_Case_Config.j0 k s0_0 bt142.2 bt129.1 (wrap64 (Int.tdiv (wrap64 (bt129.1 * bt131.1)) 2)) 2 1 (wrap64 (1 + bt137.1)) (wrap64 (1 + bt139.1))) else (kauditmill_Case_Config.j0 k s0_0 bt142.2 bt129.1 (wrap64 (Int.tdiv (wrap64 (bt129.1 * bt131.1)) 2)) (wrap64 (1 + bt133.1)) (wrap64 (1 + bt135.1)) (wrap64 (1 + bt137.1)) (wrap64 (1 + bt139.1))))))))))) = some (r1, r2, r3, r4, r5, r6, r7, r8, r9, r10, r11, r12, r13, r14) := by first | (rw [hy126]; with_reducible exact H) | (have H2_ := (Option.bind_some _ _).symm.trans H; rw [hy126]; with_reducible exact H2_) | (have H2_ := (Option.bind_some _ _).symm.trans H; with_reducible exact H2_) | with_reducible exact H | (rw [hy126]; exact H) | exact H
  have Ny126 := Aside0.mk hy126
  clear hy126
  replace H := Option.bind_eq_some_iff.mp H
  obtain ⟨⟨t129, t130⟩, A20, H⟩ := H
  replace H : ((kauditmill_Case_Int.f s0_0 t130 2).bind fun bt131 => ((kauditmill_Case_Int.f s0_0 bt131.2 5).bind fun bt133 => ((kauditmill_Case_Int.f s0_0 bt133.2 5).bind fun bt135 => ((kauditmill_Case_Int.f s0_0 bt135.2 5).bind fun bt137 => ((kauditmill_Case_Int.f s0_0 bt137.2 5).bind fun bt139 => ((kauditmill_Case_Bool.f s0_0 bt139.2 2).bind fun bt142 => (if bt142.1 = true then (kauditmill_Case_Config.j0 k s0_0 bt142.2 t129 (wrap64 (Int.tdiv (wrap64 (t129 * bt131.1)) 2)) 2 1 (wrap64 (1 + bt137.1)) (wrap64 (1 + bt139.1))) else (kauditmill_Case_Config.j0 k s0_0 bt142.2 t129 (wrap64 (Int.tdiv (wrap64 (t129 * bt131.1)) 2)) (wrap64 (1 + bt133.1)) (wrap64 (1 + bt135.1)) (wrap64 (1 + bt137.1)) (wrap64 (1 + bt139.1)))))))))) = some (r1, r2, r3, r4, r5, r6, r7, r8, r9, r10, r11, r12, r13, r14) := H
  have A2 := Aside0.mk A20
  clear A20
  replace H := Option.bind_eq_some_iff.mp H
  obtain ⟨⟨t131, t132⟩, A30, H⟩ := H
  replace H : ((kauditmill_Case_Int.f s0_0 t132 5).bind fun bt133 => ((kauditmill_Case_Int.f s0_0 bt133.2 5).bind fun bt135 => ((kauditmill_Case_Int.f s0_0 bt135.2 5).bind fun bt137 => ((kauditmill_Case_Int.f s0_0 bt137.2 5).bind fun bt139 => ((kauditmill_Case_Bool.f s0_0 bt139.2 2).bind fun bt142 => (if bt142.1 = true then (kauditmill_Case_Config.j0 k s0_0 bt142.2 t129 (wrap64 (Int.tdiv (wrap64 (t129 * t131)) 2)) 2 1 (wrap64 (1 + bt137.1)) (wrap64 (1 + bt139.1))) else (kauditmill_Case_Config.j0 k s0_0 bt142.2 t129 (wrap64 (Int.tdiv (wrap64 (t129 * t131)) 2)) (wrap64 (1 + bt133.1)) (wrap64 (1 + bt135.1)) (wrap64 (1 + bt137.1)) (wrap64 (1 + bt139.1))))))))) = some (r1, r2, r3, r4, r5, r6, r7, r8, r9, r10, r11, r12, r13, r14) := H
  have A3 := Aside0.mk A30
  clear A30
  replace H := Option.bind_eq_some_iff.mp H
  obtain ⟨⟨t133, t134⟩, A40, H⟩ := H
  replace H : ((kauditmill_Case_Int.f s0_0 t134 5).bind fun bt135 => ((kauditmill_Case_Int.f s0_0 bt135.2 5).bind fun bt137 => ((kauditmill_Case_Int.f s0_0 bt137.2 5).bind fun bt139 => ((kauditmill_Case_Bool.f s0_0 bt139.2 2).bind fun bt142 => (if bt142.1 = true then (kauditmill_Case_Config.j0 k s0_0 bt142.2 t129 (wrap64 (Int.tdiv (wrap64 (t129 * t131)) 2)) 2 1 (wrap64 (1 + bt137.1)) (wrap64 (1 + bt139.1))) else (kauditmill_Case_Config.j0 k s0_0 bt142.2 t129 (wrap64 (Int.tdiv (wrap64 (t129 * t131)) 2)) (wrap64 (1 + t133)) (wrap64 (1 + bt135.1)) (wrap64 (1 + bt137.1)) (wrap64 (1 + bt139.1)))))))) = some (r1, r2, r3, r4, r5, r6, r7, r8, r9, r10, r11, r12, r13, r14) := H
  have A4 := Aside0.mk A40
  clear A40
  replace H := Option.bind_eq_some_iff.mp H
  obtain ⟨⟨t135, t136⟩, A50, H⟩ := H
  replace H : ((kauditmill_Case_Int.f s0_0 t136 5).bind fun bt137 => ((kauditmill_Case_Int.f s0_0 bt137.2 5).bind fun bt139 => ((kauditmill_Case_Bool.f s0_0 bt139.2 2).bind fun bt142 => (if bt142.1 = true then (kauditmill_Case_Config.j0 k s0_0 bt142.2 t129 (wrap64 (Int.tdiv (wrap64 (t129 * t131)) 2)) 2 1 (wrap64 (1 + bt137.1)) (wrap64 (1 + bt139.1))) else (kauditmill_Case_Config.j0 k s0_0 bt142.2 t129 (wrap64 (Int.tdiv (wrap64 (t129 * t131)) 2)) (wrap64 (1 + t133)) (wrap64 (1 + t135)) (wrap64 (1 + bt137.1)) (wrap64 (1 + bt139.1))))))) = some (r1, r2, r3, r4, r5, r6, r7, r8, r9, r10, r11, r12, r13, r14) := H
  have A5 := Aside0.mk A50
  clear A50
  replace H := Option.bind_eq_some_iff.mp H
  obtain ⟨⟨t137, t138⟩, A60, H⟩ := H
  replace H : ((kauditmill_Case_Int.f s0_0 t138 5).bind fun bt139 => ((kauditmill_Case_Bool.f s0_0 bt139.2 2).bind fun bt142 => (if bt142.1 = true then (kauditmill_Case_Config.j0 k s0_0 bt142.2 t129 (wrap64 (Int.tdiv (wrap64 (t129 * t131)) 2)) 2 1 (wrap64 (1 + t137)) (wrap64 (1 + bt139.1))) else (kauditmill_Case_Config.j0 k s0_0 bt142.2 t129 (wrap64 (Int.tdiv (wrap64 (t129 * t131)) 2)) (wrap64 (1 + t133)) (wrap64 (1 + t135)) (wrap64 (1 + t137)) (wrap64 (1 + bt139.1)))))) = some (r1, r2, r3, r4, r5, r6, r7, r8, r9, r10, r11, r12, r13, r14) := H
  have A6 := Aside0.mk A60
  clear A60
  replace H := Option.bind_eq_some_iff.mp H
  obtain ⟨⟨t139, t140⟩, A70, H⟩ := H
  replace H : ((kauditmill_Case_Bool.f s0_0 t140 2).bind fun bt142 => (if bt142.1 = true then (kauditmill_Case_Config.j0 k s0_0 bt142.2 t129 (wrap64 (Int.tdiv (wrap64 (t129 * t131)) 2)) 2 1 (wrap64 (1 + t137)) (wrap64 (1 + t139))) else (kauditmill_Case_Config.j0 k s0_0 bt142.2 t129 (wrap64 (Int.tdiv (wrap64 (t129 * t131)) 2)) (wrap64 (1 + t133)) (wrap64 (1 + t135)) (wrap64 (1 + t137)) (wrap64 (1 + t139))))) = some (r1, r2, r3, r4, r5, r6, r7, r8, r9, r10, r11, r12, r13, r14) := H
  have A7 := Aside0.mk A70
  clear A70
  replace H := Option.bind_eq_some_iff.mp H
  obtain ⟨⟨t142, t143⟩, A80, H⟩ := H
  replace H : (if t142 = true then (kauditmill_Case_Config.j0 k s0_0 t143 t129 (wrap64 (Int.tdiv (wrap64 (t129 * t131)) 2)) 2 1 (wrap64 (1 + t137)) (wrap64 (1 + t139))) else (kauditmill_Case_Config.j0 k s0_0 t143 t129 (wrap64 (Int.tdiv (wrap64 (t129 * t131)) 2)) (wrap64 (1 + t133)) (wrap64 (1 + t135)) (wrap64 (1 + t137)) (wrap64 (1 + t139)))) = some (r1, r2, r3, r4, r5, r6, r7, r8, r9, r10, r11, r12, r13, r14) := H
  have A8 := Aside0.mk A80
  clear A80
  have HC9 := Aside0.mk H
  clear H
  go_enter Try.func8, Try.ntmps8
  go_upto_if 29 with (first | ((with_reducible refine gate_dst (N := 2) rfl ?_); refine box_event ?hg (N := 2) ?hd (cs := #[.int .u64 0, .int .u64 0, .int .i64 0, .int .i64 0, .int .i64 0, .int .i64 0, .int .i64 0, .int .i64 0, .int .i64 0, .int .i64 0, .int .i64 0, .int .i64 0, .int .i64 0]) (t := 35) ?hr ?_; (case hd => rfl); (case hg => rfl); (case hr => first | (go_simp; done) | (go_simp; rfl)); intro gb125 hg w10 hbox hb; have n0_ := Aside0.mk (IsS54.below (by repeat (first | (with_reducible first | exact HI0.out | apply IsS54.alloc | apply IsS54.drewN | apply IsS54.drew | apply IsS54.set_1) | exact HI0.out)) hb); have n1_ := Aside0.mk (KeepBut.trans (by repeat (first | (with_reducible first | exact HK.out | apply KeepBut.set_ | apply keep_drewN | apply keep_drew | apply keep_alloc) | exact HK.out)) (KeepBut.of_below hb g none) (.inl rfl)); have n2_ := Aside0.mk (below_step (by repeat (first | (with_reducible first | exact HB.out | apply below_alloc | apply pw_below_drewN | apply below_drew1 | refine below_set ?_ (IsS54.ge HI0.out)) | exact HB.out)) hb); have n3_ := Aside0.mk (hbox); have n4_ := Aside0.mk ((by rw [hg]; exact (keep_size (w := w) (g := g) (row := none) (by repeat (first | (with_reducible first | exact HK.out | apply KeepBut.set_ | apply keep_drewN | apply keep_drew | apply keep_alloc) | exact HK.out))) : w.heap.size ≤ gb125)); have n5_ := Aside0.mk ((Nat.le_trans HW0.out (by rw [hg]; exact (keep_size (w := w) (g := g) (row := none) (by repeat (first | (with_reducible first | exact HK.out | apply KeepBut.set_ | apply keep_drewN | apply keep_drew | apply keep_alloc) | exact HK.out))) : w.heap.size ≤ gb125) : w0.heap.size ≤ gb125)); have n6_ := Aside0.mk ((by rw [hg]; exact Nat.ne_of_lt (IsS54.lt (show IsS54 w0 _ g s0_0 s0_1 from by repeat (first | (with_reducible first | exact HI0.out | apply IsS54.alloc | apply IsS54.drewN | apply IsS54.drew | apply IsS54.set_1) | exact HI0.out))) : g ≠ gb125)); have n7_ := Aside0.mk ((by rw [hg]; exact Nat.ne_of_gt (IsS54.lt (show IsS54 w0 _ g s0_0 s0_1 from by repeat (first | (with_reducible first | exact HI0.out | apply IsS54.alloc | apply IsS54.drewN | apply IsS54.drew | apply IsS54.set_1) | exact HI0.out))) : gb125 ≠ g)); clear HI0; clear HK; clear HB; have HI0 := n0_; have HK := n1_; have HB := n2_; have BK125 := n3_; have GW125 := n4_; have GE125 := n5_; have NB0_125 := n6_; have NB125_0 := n7_; clear n0_ n1_ n2_ n3_ n4_ n5_ n6_ n7_; clear hb hbox hg) | ((with_reducible refine gate_dst (N := 7) rfl ?_); refine Kd.R_lit (Kd.int .i64) _ 3 ?hg (N := 7) ?hd (xs := ([0, 0, 300, 900] : List Int)) (inner := [.int .i64 0, .int .i64 0, .int .i64 300, .int .i64 900]) (ok := fun _ => True) (okp := fun _ => True) ?hr ?hp (fun _ hk => hk) trivial (Below.refl _ _) (Nat.le_refl _) (by simp) ?_; (case hd => rfl); (case hg => rfl); (case hr => first | (go_simp; done) | (go_simp; rfl)); (case hp => exact (Reps.one (show Kd.M (Kd.int .i64) _ _ _ 0 [.int .i64 0] from rfl) (Reps.one (show Kd.M (Kd.int .i64) _ _ _ 0 [.int .i64 0] from rfl) (Reps.one (show Kd.M (Kd.int .i64) _ _ _ 300 [.int .i64 300] from rfl) (Reps.one (show Kd.M (Kd.int .i64) _ _ _ 900 [.int .i64 900] from rfl) (Reps.none _ _)))))); intro v127 w11 ho12 hb hg_ hnew_; clear hg_ hnew_; (first | rw [← Ny126.out] at ho12 | (simp only [Int.reduceToNat] at ho12; rw [← Ny126.out] at ho12)); have n0_ := Aside0.mk (Kd.R_lower ho12 (keep_size (w := w) (g := g) (row := none) (by repeat (first | (with_reducible first | exact HK.out | apply KeepBut.set_ | apply keep_drewN | apply keep_drew | apply keep_alloc | refine keep_far ?_ GW125.out _) | exact HK.out)))); have n1_ := Aside0.mk (IsS54.below (by repeat (first | (with_reducible first | exact HI0.out | apply IsS54.alloc | apply IsS54.drewN | apply IsS54.drew | apply IsS54.set_1 | refine IsS54.far ?_ NB0_125.out _) | exact HI0.out)) hb); have n2_ := Aside0.mk (blk_below (g := gb125) (o := .cells #[.int .u64 0, .int .u64 0, .int .i64 0, .int .i64 0, .int .i64 0, .int .i64 0, .int .i64 0, .int .i64 0, .int .i64 0, .int .i64 0, .int .i64 0, .int .i64 0, .int .i64 0] 35 (0, 0)) (by (with_reducible repeat (first | refine blk_drewN ?_ _ | refine blk_drew ?_ | refine blk_alloc ?_ _)); exact BK125.out) hb); have n3_ := Aside0.mk (KeepBut.trans (by repeat (first | (with_reducible first | exact HK.out | apply KeepBut.set_ | apply keep_drewN | apply keep_drew | apply keep_alloc | refine keep_far ?_ GW125.out _) | exact HK.out)) (KeepBut.of_below hb g none) (.inl rfl)); have n4_ := Aside0.mk (below_step (by repeat (first | (with_reducible first | exact HB.out | apply below_alloc | apply pw_below_drewN | apply below_drew1 | refine below_set ?_ (IsS54.ge HI0.out) | refine below_set ?_ GE125.out) | exact HB.out)) hb); clear HI0; clear BK125; clear HK; clear HB; have HO128 := n0_; have HI0 := n1_; have BK125 := n2_; have HK := n3_; have HB := n4_; clear n0_ n1_ n2_ n3_ n4_; clear hb ho12; obtain ⟨Ao13, co13, eo13⟩ := Kd.R_slice HO128.out; subst eo13) | ((with_reducible refine gate_callee (f := 10) rfl ?_); refine goesL_ (some 8) rfl rfl Try.func10 (by kernel_rfl) rfl #[.pointer (some ⟨g, 0, none⟩), .slice Ao13 y126.length co13] rfl (by (try simp only [List.map_toArray, List.map_cons, List.map_nil]); first | done | rfl | (simp only [List.length_drop, List.length_take]; rfl)) ?_; (with_reducible refine (kauditmill_Case_Pick.calls g s0_0 s0_1 _ _ y126 t129 t130 w0 _ ?side1 ?side2 ?side3 ?side4 ?side5 A2.out).mono ?_); (case side1 => repeat (first | (with_reducible first | exact HI0.out | apply IsS54.alloc | apply IsS54.drewN | apply IsS54.drew | apply IsS54.set_1 | refine IsS54.far ?_ NB0_125.out _) | exact HI0.out)); (case side2 => repeat (first | (with_reducible first | exact HB.out | apply below_alloc | apply pw_below_drewN | apply below_drew1 | refine below_set ?_ (IsS54.ge HI0.out) | refine below_set ?_ GE125.out) | exact HB.out)); (case side3 => repeat (first | exact (Kd.R_reads' HO128.out).2.2 | (with_reducible refine Kd.C_alloc ?_ _) | (with_reducible refine Kd.C_drewN ?_ _) | (with_reducible refine Kd.C_drew ?_))); (case side4 => exact (Kd.R_reads' HO128.out).2.1); (case side5 => exact far_slice (IsS54.own_ne HI0.out HO128.out (by decide))); rintro e w14 ⟨rfl, hi, hb, hk⟩; refine ⟨_, rfl, ?_⟩; have n0_ := Aside0.mk (KeepBut.blk hk (g' := gb125) (o := .cells #[.int .u64 0, .int .u64 0, .int .i64 0, .int .i64 0, .int .i64 0, .int .i64 0, .int .i64 0, .int .i64 0, .int .i64 0, .int .i64 0, .int .i64 0, .int .i64 0, .int .i64 0] 35 (0, 0)) (by (with_reducible repeat (first | refine blk_drewN ?_ _ | refine blk_drew ?_ | refine blk_alloc ?_ _)); exact BK125.out) NB125_0.out (by simp)); have n1_ := Aside0.mk (Kd.R_mono (Kd.R_keep (IsS54.apart (show IsS54 w0 _ g s0_0 s0_1 from by repeat (first | (with_reducible first | exact HI0.out | apply IsS54.alloc | apply IsS54.drewN | apply IsS54.drew | apply IsS54.set_1 | refine IsS54.far ?_ NB0_125.out _) | exact HI0.out)) (by (with_reducible repeat (first | apply Kd.R_alloc | apply Kd.R_drewN | apply Kd.R_drew)); exact HO128.out) (by decide)) hk (fun _ h => h.2)) (fun _ h => h.1)); have n2_ := Aside0.mk (KeepBut.trans (by repeat (first | (with_reducible first | exact HK.out | apply KeepBut.set_ | apply keep_drewN | apply keep_drew | apply keep_alloc | refine keep_far ?_ GW125.out _) | exact HK.out)) hk (.inl rfl)); have n3_ := Aside0.mk (hb); have n4_ := Aside0.mk (hi); clear BK125; clear HO128; clear HK; clear HB; clear HI0; have BK125 := n0_; have HO128 := n1_; have HK := n2_; have HB := n3_; have HI0 := n4_; clear n0_ n1_ n2_ n3_ n4_; (try clear hb); (try clear hb2); (try clear hk); (try clear hi)) | ((with_reducible refine gate_callee (f := 9) rfl ?_); refine goesL_ (some 12) rfl rfl Try.func9 (by kernel_rfl) rfl #[.pointer (some ⟨g, 0, none⟩), .int .i64 2] rfl (by (try simp only [List.map_toArray, List.map_cons, List.map_nil]); first | done | rfl | (simp only [List.length_drop, List.length_take]; rfl)) ?_; (with_reducible refine (kauditmill_Case_Int.calls g s0_0 t130 2 t131 t132 w0 _ ?side1 ?side2 A3.out).mono ?_); (case side1 => repeat (first | (with_reducible first | exact HI0.out | apply IsS54.alloc | apply IsS54.drewN | apply IsS54.drew | apply IsS54.set_1 | refine IsS54.far ?_ NB0_125.out _) | exact HI0.out)); (case side2 => repeat (first | (with_reducible first | exact HB.out | apply below_alloc | apply pw_below_drewN | apply below_drew1 | refine below_set ?_ (IsS54.ge HI0.out) | refine below_set ?_ GE125.out) | exact HB.out)); rintro e w15 ⟨rfl, hi, hb, hk⟩; refine ⟨_, rfl, ?_⟩; have n0_ := Aside0.mk (KeepBut.blk hk (g' := gb125) (o := .cells #[.int .u64 0, .int .u64 0, .int .i64 0, .int .i64 0, .int .i64 0, .int .i64 0, .int .i64 0, .int .i64 0, .int .i64 0, .int .i64 0, .int .i64 0, .int .i64 0, .int .i64 0] 35 (0, 0)) (by (with_reducible repeat (first | refine blk_drewN ?_ _ | refine blk_drew ?_ | refine blk_alloc ?_ _)); exact BK125.out) NB125_0.out (by simp)); have n1_ := Aside0.mk (Kd.R_mono (Kd.R_keep (IsS54.apart (show IsS54 w0 _ g s0_0 t130 from by repeat (first | (with_reducible first | exact HI0.out | apply IsS54.alloc | apply IsS54.drewN | apply IsS54.drew | apply IsS54.set_1 | refine IsS54.far ?_ NB0_125.out _) | exact HI0.out)) (by (with_reducible repeat (first | apply Kd.R_alloc | apply Kd.R_drewN | apply Kd.R_drew)); exact HO128.out) (by decide)) hk (fun _ h => h.2)) (fun _ h => h.1)); have n2_ := Aside0.mk (KeepBut.trans (by repeat (first | (with_reducible first | exact HK.out | apply KeepBut.set_ | apply keep_drewN | apply keep_drew | apply keep_alloc | refine keep_far ?_ GW125.out _) | exact HK.out)) hk (.inl rfl)); have n3_ := Aside0.mk (hb); have n4_ := Aside0.mk (hi); clear BK125; clear HO128; clear HK; clear HB; clear HI0; have BK125 := n0_; have HO128 := n1_; have HK := n2_; have HB := n3_; have HI0 := n4_; clear n0_ n1_ n2_ n3_ n4_; (try clear hb); (try clear hb2); (try clear hk); (try clear hi)) | ((with_reducible refine gate_callee (f := 9) rfl ?_); refine goesL_ (some 16) rfl rfl Try.func9 (by kernel_rfl) rfl #[.pointer (some ⟨g, 0, none⟩), .int .i64 5] rfl (by (try simp only [List.map_toArray, List.map_cons, List.map_nil]); first | done | rfl | (simp only [List.length_drop, List.length_take]; rfl)) ?_; (with_reducible refine (kauditmill_Case_Int.calls g s0_0 t132 5 t133 t134 w0 _ ?side1 ?side2 A4.out).mono ?_); (case side1 => repeat (first | (with_reducible first | exact HI0.out | apply IsS54.alloc | apply IsS54.drewN | apply IsS54.drew | apply IsS54.set_1 | refine IsS54.far ?_ NB0_125.out _) | exact HI0.out)); (case side2 => repeat (first | (with_reducible first | exact HB.out | apply below_alloc | apply pw_below_drewN | apply below_drew1 | refine below_set ?_ (IsS54.ge HI0.out) | refine below_set ?_ GE125.out) | exact HB.out)); rintro e w16 ⟨rfl, hi, hb, hk⟩; refine ⟨_, rfl, ?_⟩; have n0_ := Aside0.mk (KeepBut.blk hk (g' := gb125) (o := .cells #[.int .u64 0, .int .u64 0, .int .i64 0, .int .i64 0, .int .i64 0, .int .i64 0, .int .i64 0, .int .i64 0, .int .i64 0, .int .i64 0, .int .i64 0, .int .i64 0, .int .i64 0] 35 (0, 0)) (by (with_reducible repeat (first | refine blk_drewN ?_ _ | refine blk_drew ?_ | refine blk_alloc ?_ _)); exact BK125.out) NB125_0.out (by simp)); have n1_ := Aside0.mk (Kd.R_mono (Kd.R_keep (IsS54.apart (show IsS54 w0 _ g s0_0 t132 from by repeat (first | (with_reducible first | exact HI0.out | apply IsS54.alloc | apply IsS54.drewN | apply IsS54.drew | apply IsS54.set_1 | refine IsS54.far ?_ NB0_125.out _) | exact HI0.out)) (by (with_reducible repeat (first | apply Kd.R_alloc | apply Kd.R_drewN | apply Kd.R_drew)); exact HO128.out) (by decide)) hk (fun _ h => h.2)) (fun _ h => h.1)); have n2_ := Aside0.mk (KeepBut.trans (by repeat (first | (with_reducible first | exact HK.out | apply KeepBut.set_ | apply keep_drewN | apply keep_drew | apply keep_alloc | refine keep_far ?_ GW125.out _) | exact HK.out)) hk (.inl rfl)); have n3_ := Aside0.mk (hb); have n4_ := Aside0.mk (hi); clear BK125; clear HO128; clear HK; clear HB; clear HI0; have BK125 := n0_; have HO128 := n1_; have HK := n2_; have HB := n3_; have HI0 := n4_; clear n0_ n1_ n2_ n3_ n4_; (try clear hb); (try clear hb2); (try clear hk); (try clear hi)) | ((with_reducible refine gate_callee (f := 9) rfl ?_); refine goesL_ (some 19) rfl rfl Try.func9 (by kernel_rfl) rfl #[.pointer (some ⟨g, 0, none⟩), .int .i64 5] rfl (by (try simp only [List.map_toArray, List.map_cons, List.map_nil]); first | done | rfl | (simp only [List.length_drop, List.length_take]; rfl)) ?_; (with_reducible refine (kauditmill_Case_Int.calls g s0_0 t134 5 t135 t136 w0 _ ?side1 ?side2 A5.out).mono ?_); (case side1 => repeat (first | (with_reducible first | exact HI0.out | apply IsS54.alloc | apply IsS54.drewN | apply IsS54.drew | apply IsS54.set_1 | refine IsS54.far ?_ NB0_125.out _) | exact HI0.out)); (case side2 => repeat (first | (with_reducible first | exact HB.out | apply below_alloc | apply pw_below_drewN | apply below_drew1 | refine below_set ?_ (IsS54.ge HI0.out) | refine below_set ?_ GE125.out) | exact HB.out)); rintro e w17 ⟨rfl, hi, hb, hk⟩; refine ⟨_, rfl, ?_⟩; have n0_ := Aside0.mk (KeepBut.blk hk (g' := gb125) (o := .cells #[.int .u64 0, .int .u64 0, .int .i64 0, .int .i64 0, .int .i64 0, .int .i64 0, .int .i64 0, .int .i64 0, .int .i64 0, .int .i64 0, .int .i64 0, .int .i64 0, .int .i64 0] 35 (0, 0)) (by (with_reducible repeat (first | refine blk_drewN ?_ _ | refine blk_drew ?_ | refine blk_alloc ?_ _)); exact BK125.out) NB125_0.out (by simp)); have n1_ := Aside0.mk (Kd.R_mono (Kd.R_keep (IsS54.apart (show IsS54 w0 _ g s0_0 t134 from by repeat (first | (with_reducible first | exact HI0.out | apply IsS54.alloc | apply IsS54.drewN | apply IsS54.drew | apply IsS54.set_1 | refine IsS54.far ?_ NB0_125.out _) | exact HI0.out)) (by (with_reducible repeat (first | apply Kd.R_alloc | apply Kd.R_drewN | apply Kd.R_drew)); exact HO128.out) (by decide)) hk (fun _ h => h.2)) (fun _ h => h.1)); have n2_ := Aside0.mk (KeepBut.trans (by repeat (first | (with_reducible first | exact HK.out | apply KeepBut.set_ | apply keep_drewN | apply keep_drew | apply keep_alloc | refine keep_far ?_ GW125.out _) | exact HK.out)) hk (.inl rfl)); have n3_ := Aside0.mk (hb); have n4_ := Aside0.mk (hi); clear BK125; clear HO128; clear HK; clear HB; clear HI0; have BK125 := n0_; have HO128 := n1_; have HK := n2_; have HB := n3_; have HI0 := n4_; clear n0_ n1_ n2_ n3_ n4_; (try clear hb); (try clear hb2); (try clear hk); (try clear hi)) | ((with_reducible refine gate_callee (f := 9) rfl ?_); refine goesL_ (some 22) rfl rfl Try.func9 (by kernel_rfl) rfl #[.pointer (some ⟨g, 0, none⟩), .int .i64 5] rfl (by (try simp only [List.map_toArray, List.map_cons, List.map_nil]); first | done | rfl | (simp only [List.length_drop, List.length_take]; rfl)) ?_; (with_reducible refine (kauditmill_Case_Int.calls g s0_0 t136 5 t137 t138 w0 _ ?side1 ?side2 A6.out).mono ?_); (case side1 => repeat (first | (with_reducible first | exact HI0.out | apply IsS54.alloc | apply IsS54.drewN | apply IsS54.drew | apply IsS54.set_1 | refine IsS54.far ?_ NB0_125.out _) | exact HI0.out)); (case side2 => repeat (first | (with_reducible first | exact HB.out | apply below_alloc | apply pw_below_drewN | apply below_drew1 | refine below_set ?_ (IsS54.ge HI0.out) | refine below_set ?_ GE125.out) | exact HB.out)); rintro e w18 ⟨rfl, hi, hb, hk⟩; refine ⟨_, rfl, ?_⟩; have n0_ := Aside0.mk (KeepBut.blk hk (g' := gb125) (o := .cells #[.int .u64 0, .int .u64 0, .int .i64 0, .int .i64 0, .int .i64 0, .int .i64 0, .int .i64 0, .int .i64 0, .int .i64 0, .int .i64 0, .int .i64 0, .int .i64 0, .int .i64 0] 35 (0, 0)) (by (with_reducible repeat (first | refine blk_drewN ?_ _ | refine blk_drew ?_ | refine blk_alloc ?_ _)); exact BK125.out) NB125_0.out (by simp)); have n1_ := Aside0.mk (Kd.R_mono (Kd.R_keep (IsS54.apart (show IsS54 w0 _ g s0_0 t136 from by repeat (first | (with_reducible first | exact HI0.out | apply IsS54.alloc | apply IsS54.drewN | apply IsS54.drew | apply IsS54.set_1 | refine IsS54.far ?_ NB0_125.out _) | exact HI0.out)) (by (with_reducible repeat (first | apply Kd.R_alloc | apply Kd.R_drewN | apply Kd.R_drew)); exact HO128.out) (by decide)) hk (fun _ h => h.2)) (fun _ h => h.1)); have n2_ := Aside0.mk (KeepBut.trans (by repeat (first | (with_reducible first | exact HK.out | apply KeepBut.set_ | apply keep_drewN | apply keep_drew | apply keep_alloc | refine keep_far ?_ GW125.out _) | exact HK.out)) hk (.inl rfl)); have n3_ := Aside0.mk (hb); have n4_ := Aside0.mk (hi); clear BK125; clear HO128; clear HK; clear HB; clear HI0; have BK125 := n0_; have HO128 := n1_; have HK := n2_; have HB := n3_; have HI0 := n4_; clear n0_ n1_ n2_ n3_ n4_; (try clear hb); (try clear hb2); (try clear hk); (try clear hi)) | ((with_reducible refine gate_callee (f := 9) rfl ?_); refine goesL_ (some 25) rfl rfl Try.func9 (by kernel_rfl) rfl #[.pointer (some ⟨g, 0, none⟩), .int .i64 5] rfl (by (try simp only [List.map_toArray, List.map_cons, List.map_nil]); first | done | rfl | (simp only [List.length_drop, List.length_take]; rfl)) ?_; (with_reducible refine (kauditmill_Case_Int.calls g s0_0 t138 5 t139 t140 w0 _ ?side1 ?side2 A7.out).mono ?_); (case side1 => repeat (first | (with_reducible first | exact HI0.out | apply IsS54.alloc | apply IsS54.drewN | apply IsS54.drew | apply IsS54.set_1 | refine IsS54.far ?_ NB0_125.out _) | exact HI0.out)); (case side2 => repeat (first | (with_reducible first | exact HB.out | apply below_alloc | apply pw_below_drewN | apply below_drew1 | refine below_set ?_ (IsS54.ge HI0.out) | refine below_set ?_ GE125.out) | exact HB.out)); rintro e w19 ⟨rfl, hi, hb, hk⟩; refine ⟨_, rfl, ?_⟩; have n0_ := Aside0.mk (KeepBut.blk hk (g' := gb125) (o := .cells #[.int .u64 0, .int .u64 0, .int .i64 0, .int .i64 0, .int .i64 0, .int .i64 0, .int .i64 0, .int .i64 0, .int .i64 0, .int .i64 0, .int .i64 0, .int .i64 0, .int .i64 0] 35 (0, 0)) (by (with_reducible repeat (first | refine blk_drewN ?_ _ | refine blk_drew ?_ | refine blk_alloc ?_ _)); exact BK125.out) NB125_0.out (by simp)); have n1_ := Aside0.mk (Kd.R_mono (Kd.R_keep (IsS54.apart (show IsS54 w0 _ g s0_0 t138 from by repeat (first | (with_reducible first | exact HI0.out | apply IsS54.alloc | apply IsS54.drewN | apply IsS54.drew | apply IsS54.set_1 | refine IsS54.far ?_ NB0_125.out _) | exact HI0.out)) (by (with_reducible repeat (first | apply Kd.R_alloc | apply Kd.R_drewN | apply Kd.R_drew)); exact HO128.out) (by decide)) hk (fun _ h => h.2)) (fun _ h => h.1)); have n2_ := Aside0.mk (KeepBut.trans (by repeat (first | (with_reducible first | exact HK.out | apply KeepBut.set_ | apply keep_drewN | apply keep_drew | apply keep_alloc | refine keep_far ?_ GW125.out _) | exact HK.out)) hk (.inl rfl)); have n3_ := Aside0.mk (hb); have n4_ := Aside0.mk (hi); clear BK125; clear HO128; clear HK; clear HB; clear HI0; have BK125 := n0_; have HO128 := n1_; have HK := n2_; have HB := n3_; have HI0 := n4_; clear n0_ n1_ n2_ n3_ n4_; (try clear hb); (try clear hb2); (try clear hk); (try clear hi)) | ((with_reducible refine gate_dst (N := 4) rfl ?_); refine box_event ?hg (N := 4) ?hd (cs := #[.int .i64 0, .int .i64 0, .int .i64 0, .int .i64 0, .int .i64 0, .int .i64 0]) (t := 24) ?hr ?_; (case hd => rfl); (case hg => rfl); (case hr => first | (go_simp; done) | (go_simp; rfl)); intro gb141 hg w20 hbox hb; have n0_ := Aside0.mk (Kd.R_below (by (with_reducible repeat (first | apply Kd.R_alloc | apply Kd.R_drewN | apply Kd.R_drew)); exact HO128.out) hb); have n1_ := Aside0.mk (IsS54.below (by repeat (first | (with_reducible first | exact HI0.out | apply IsS54.alloc | apply IsS54.drewN | apply IsS54.drew | apply IsS54.set_1 | refine IsS54.far ?_ NB0_125.out _) | exact HI0.out)) hb); have n2_ := Aside0.mk (blk_below (g := gb125) (o := .cells #[.int .u64 0, .int .u64 0, .int .i64 0, .int .i64 0, .int .i64 0, .int .i64 0, .int .i64 0, .int .i64 0, .int .i64 0, .int .i64 0, .int .i64 0, .int .i64 0, .int .i64 0] 35 (0, 0)) (by (with_reducible repeat (first | refine blk_drewN ?_ _ | refine blk_drew ?_ | refine blk_alloc ?_ _)); exact BK125.out) hb); have n3_ := Aside0.mk (KeepBut.trans (by repeat (first | (with_reducible first | exact HK.out | apply KeepBut.set_ | apply keep_drewN | apply keep_drew | apply keep_alloc | refine keep_far ?_ GW125.out _) | exact HK.out)) (KeepBut.of_below hb g none) (.inl rfl)); have n4_ := Aside0.mk (below_step (by repeat (first | (with_reducible first | exact HB.out | apply below_alloc | apply pw_below_drewN | apply below_drew1 | refine below_set ?_ (IsS54.ge HI0.out) | refine below_set ?_ GE125.out) | exact HB.out)) hb); have n5_ := Aside0.mk (hbox); have n6_ := Aside0.mk ((by rw [hg]; exact (keep_size (w := w) (g := g) (row := none) (by repeat (first | (with_reducible first | exact HK.out | apply KeepBut.set_ | apply keep_drewN | apply keep_drew | apply keep_alloc | refine keep_far ?_ GW125.out _) | exact HK.out))) : w.heap.size ≤ gb141)); have n7_ := Aside0.mk ((Nat.le_trans HW0.out (by rw [hg]; exact (keep_size (w := w) (g := g) (row := none) (by repeat (first | (with_reducible first | exact HK.out | apply KeepBut.set_ | apply keep_drewN | apply keep_drew | apply keep_alloc | refine keep_far ?_ GW125.out _) | exact HK.out))) : w.heap.size ≤ gb141) : w0.heap.size ≤ gb141)); have n8_ := Aside0.mk ((by rw [hg]; exact Nat.ne_of_lt (blk_lt (g := gb125) (o := .cells #[.int .u64 0, .int .u64 0, .int .i64 0, .int .i64 0, .int .i64 0, .int .i64 0, .int .i64 0, .int .i64 0, .int .i64 0, .int .i64 0, .int .i64 0, .int .i64 0, .int .i64 0] 35 (0, 0)) (by (with_reducible repeat (first | refine blk_drewN ?_ _ | refine blk_drew ?_ | refine blk_alloc ?_ _)); exact BK125.out)) : gb125 ≠ gb141)); have n9_ := Aside0.mk ((by rw [hg]; exact Nat.ne_of_gt (blk_lt (g := gb125) (o := .cells #[.int .u64 0, .int .u64 0, .int .i64 0, .int .i64 0, .int .i64 0, .int .i64 0, .int .i64 0, .int .i64 0, .int .i64 0, .int .i64 0, .int .i64 0, .int .i64 0, .int .i64 0] 35 (0, 0)) (by (with_reducible repeat (first | refine blk_drewN ?_ _ | refine blk_drew ?_ | refine blk_alloc ?_ _)); exact BK125.out)) : gb141 ≠ gb125)); have n10_ := Aside0.mk ((by rw [hg]; exact Nat.ne_of_lt (IsS54.lt (show IsS54 w0 _ g s0_0 t140 from by repeat (first | (with_reducible first | exact HI0.out | apply IsS54.alloc | apply IsS54.drewN | apply IsS54.drew | apply IsS54.set_1 | refine IsS54.far ?_ NB0_125.out _) | exact HI0.out))) : g ≠ gb141)); have n11_ := Aside0.mk ((by rw [hg]; exact Nat.ne_of_gt (IsS54.lt (show IsS54 w0 _ g s0_0 t140 from by repeat (first | (with_reducible first | exact HI0.out | apply IsS54.alloc | apply IsS54.drewN | apply IsS54.drew | apply IsS54.set_1 | refine IsS54.far ?_ NB0_125.out _) | exact HI0.out))) : gb141 ≠ g)); clear HO128; clear HI0; clear BK125; clear HK; clear HB; have HO128 := n0_; have HI0 := n1_; have BK125 := n2_; have HK := n3_; have HB := n4_; have BK141 := n5_; have GW141 := n6_; have GE141 := n7_; have NB125_141 := n8_; have NB141_125 := n9_; have NB0_141 := n10_; have NB141_0 := n11_; clear n0_ n1_ n2_ n3_ n4_ n5_ n6_ n7_ n8_ n9_ n10_ n11_; clear hb hbox hg; have hnb21 := NB141_125.out; have hnc21 := NB125_141.out; have hnb22 := NB141_0.out; have hnc22 := NB0_141.out; have hcz23_0 : w20.cell? ⟨gb141, 0, none⟩ = some (.int .i64 0) := (blk_cell BK141.out 0).trans rfl; have hcz23_1 : w20.cell? ⟨gb141, 1, none⟩ = some (.int .i64 0) := (blk_cell BK141.out 1).trans rfl; have hcz23_2 : w20.cell? ⟨gb141, 2, none⟩ = some (.int .i64 0) := (blk_cell BK141.out 2).trans rfl; have hcz23_3 : w20.cell? ⟨gb141, 3, none⟩ = some (.int .i64 0) := (blk_cell BK141.out 3).trans rfl; have hcz23_4 : w20.cell? ⟨gb141, 4, none⟩ = some (.int .i64 0) := (blk_cell BK141.out 4).trans rfl; have hcz23_5 : w20.cell? ⟨gb141, 5, none⟩ = some (.int .i64 0) := (blk_cell BK141.out 5).trans rfl; have hfz23_0 := blk_frozen BK141.out 0; have hfz23_1 := blk_frozen BK141.out 1; have hfz23_2 := blk_frozen BK141.out 2; have hfz23_3 := blk_frozen BK141.out 3; have hfz23_4 := blk_frozen BK141.out 4; have hfz23_5 := blk_frozen BK141.out 5) | ((with_reducible refine gate_callee (f := 21) rfl ?_); refine goesL_ (some 29) rfl rfl Try.func21 (by kernel_rfl) rfl #[.pointer (some ⟨g, 0, none⟩), .int .i64 2] rfl (by (try simp only [List.map_toArray, List.map_cons, List.map_nil]); first | done | rfl | (simp only [List.length_drop, List.length_take]; rfl)) ?_; (with_reducible refine (kauditmill_Case_Bool.calls g s0_0 t140 2 t142 t143 w0 _ ?side1 ?side2 A8.out).mono ?_); (case side1 => repeat (first | (with_reducible first | exact HI0.out | apply IsS54.alloc | apply IsS54.drewN | apply IsS54.drew | apply IsS54.set_1 | refine IsS54.far ?_ NB0_125.out _ | refine IsS54.far ?_ NB0_141.out _) | exact HI0.out)); (case side2 => repeat (first | (with_reducible first | exact HB.out | apply below_alloc | apply pw_below_drewN | apply below_drew1 | refine below_set ?_ (IsS54.ge HI0.out) | refine below_set ?_ GE125.out | refine below_set ?_ GE141.out) | exact HB.out)); rintro e w24 ⟨rfl, hi, hb, hk⟩; refine ⟨_, rfl, ?_⟩; have n0_ := Aside0.mk (KeepBut.blk hk (g' := gb125) (o := .cells #[.int .u64 0, .int .u64 0, .int .i64 0, .int .i64 0, .int .i64 0, .int .i64 0, .int .i64 0, .int .i64 0, .int .i64 0, .int .i64 0, .int .i64 0, .int .i64 0, .int .i64 0] 35 (0, 0)) (by (with_reducible repeat (first | refine blk_drewN ?_ _ | refine blk_drew ?_ | refine blk_alloc ?_ _)); refine blk_far ?_ NB125_141.out _; (with_reducible repeat (first | refine blk_drewN ?_ _ | refine blk_drew ?_ | refine blk_alloc ?_ _)); refine blk_far ?_ NB125_141.out _; (with_reducible repeat (first | refine blk_drewN ?_ _ | refine blk_drew ?_ | refine blk_alloc ?_ _)); refine blk_far ?_ NB125_141.out _; (with_reducible repeat (first | refine blk_drewN ?_ _ | refine blk_drew ?_ | refine blk_alloc ?_ _)); refine blk_far ?_ NB125_141.out _; (with_reducible repeat (first | refine blk_drewN ?_ _ | refine blk_drew ?_ | refine blk_alloc ?_ _)); refine blk_far ?_ NB125_141.out _; (with_reducible repeat (first | refine blk_drewN ?_ _ | refine blk_drew ?_ | refine blk_alloc ?_ _)); refine blk_far ?_ NB125_141.out _; (with_reducible repeat (first | refine blk_drewN ?_ _ | refine blk_drew ?_ | refine blk_alloc ?_ _)); exact BK125.out) NB125_0.out (by simp)); have n1_ := Aside0.mk (Kd.R_mono (Kd.R_keep (IsS54.apart (show IsS54 w0 _ g s0_0 t140 from by repeat (first | (with_reducible first | exact HI0.out | apply IsS54.alloc | apply IsS54.drewN | apply IsS54.drew | apply IsS54.set_1 | refine IsS54.far ?_ NB0_125.out _ | refine IsS54.far ?_ NB0_141.out _) | exact HI0.out)) (by (with_reducible repeat (first | apply Kd.R_alloc | apply Kd.R_drewN | apply Kd.R_drew)); exact (Kd.R_mono (Kd.R_far (p := ⟨gb141, 5, none⟩) (Kd.R_far (p := ⟨gb141, 4, none⟩) (Kd.R_far (p := ⟨gb141, 3, none⟩) (Kd.R_far (p := ⟨gb141, 2, none⟩) (Kd.R_far (p := ⟨gb141, 1, none⟩) (Kd.R_far (p := ⟨gb141, 0, none⟩) (Kd.R_types HO128.out BK141.out (by decide)) (fun _ hk => hk.2) (.int .i64 t129)) (fun _ hk => hk.2) (.int .i64 (wrap64 (Int.tdiv (wrap64 (t129 * t131)) 2)))) (fun _ hk => hk.2) (.int .i64 (wrap64 (1 + t133)))) (fun _ hk => hk.2) (.int .i64 (wrap64 (1 + t135)))) (fun _ hk => hk.2) (.int .i64 (wrap64 (1 + t137)))) (fun _ hk => hk.2) (.int .i64 (wrap64 (1 + t139)))) (fun _ h_ => h_.1))) (by decide)) hk (fun _ h => h.2)) (fun _ h => h.1)); have n2_ := Aside0.mk (KeepBut.blk hk (g' := gb141) (o := .cells #[.int .i64 t129, .int .i64 (wrap64 (Int.tdiv (wrap64 (t129 * t131)) 2)), .int .i64 (wrap64 (1 + t133)), .int .i64 (wrap64 (1 + t135)), .int .i64 (wrap64 (1 + t137)), .int .i64 (wrap64 (1 + t139))] 24 (0, 0)) (by (with_reducible repeat (first | refine blk_drewN ?_ _ | refine blk_drew ?_ | refine blk_alloc ?_ _)); refine blk_put (cs := #[.int .i64 t129, .int .i64 (wrap64 (Int.tdiv (wrap64 (t129 * t131)) 2)), .int .i64 (wrap64 (1 + t133)), .int .i64 (wrap64 (1 + t135)), .int .i64 (wrap64 (1 + t137)), .int .i64 0]) ?_ 5 _ rfl; (with_reducible repeat (first | refine blk_drewN ?_ _ | refine blk_drew ?_ | refine blk_alloc ?_ _)); refine blk_put (cs := #[.int .i64 t129, .int .i64 (wrap64 (Int.tdiv (wrap64 (t129 * t131)) 2)), .int .i64 (wrap64 (1 + t133)), .int .i64 (wrap64 (1 + t135)), .int .i64 0, .int .i64 0]) ?_ 4 _ rfl; (with_reducible repeat (first | refine blk_drewN ?_ _ | refine blk_drew ?_ | refine blk_alloc ?_ _)); refine blk_put (cs := #[.int .i64 t129, .int .i64 (wrap64 (Int.tdiv (wrap64 (t129 * t131)) 2)), .int .i64 (wrap64 (1 + t133)), .int .i64 0, .int .i64 0, .int .i64 0]) ?_ 3 _ rfl; (with_reducible repeat (first | refine blk_drewN ?_ _ | refine blk_drew ?_ | refine blk_alloc ?_ _)); refine blk_put (cs := #[.int .i64 t129, .int .i64 (wrap64 (Int.tdiv (wrap64 (t129 * t131)) 2)), .int .i64 0, .int .i64 0, .int .i64 0, .int .i64 0]) ?_ 2 _ rfl; (with_reducible repeat (first | refine blk_drewN ?_ _ | refine blk_drew ?_ | refine blk_alloc ?_ _)); refine blk_put (cs := #[.int .i64 t129, .int .i64 0, .int .i64 0, .int .i64 0, .int .i64 0, .int .i64 0]) ?_ 1 _ rfl; (with_reducible repeat (first | refine blk_drewN ?_ _ | refine blk_drew ?_ | refine blk_alloc ?_ _)); refine blk_put (cs := #[.int .i64 0, .int .i64 0, .int .i64 0, .int .i64 0, .int .i64 0, .int .i64 0]) ?_ 0 _ rfl; (with_reducible repeat (first | refine blk_drewN ?_ _ | refine blk_drew ?_ | refine blk_alloc ?_ _)); exact BK141.out) NB141_0.out (by simp)); have n3_ := Aside0.mk (KeepBut.trans (by repeat (first | (with_reducible first | exact HK.out | apply KeepBut.set_ | apply keep_drewN | apply keep_drew | apply keep_alloc | refine keep_far ?_ GW125.out _ | refine keep_far ?_ GW141.out _) | exact HK.out)) hk (.inl rfl)); have n4_ := Aside0.mk (hb); have n5_ := Aside0.mk (hi); clear BK125; clear HO128; clear BK141; clear HK; clear HB; clear HI0; have BK125 := n0_; have HO128 := n1_; have BK141 := n2_; have HK := n3_; have HB := n4_; have HI0 := n5_; clear n0_ n1_ n2_ n3_ n4_ n5_; (try clear hb); (try clear hb2); (try clear hk); (try clear hi)))
  (try simp only [Act.put, List.setIfInBounds_toArray, List.set_cons_zero, List.set_cons_succ])
  go_cut [] (fun wc => ∃ (kq : Nat) (x142002_8 : Int) (x142003_8 : Int), Aside0 (kauditmill_Case_Config.j0 kq s0_0 t143 t129 (wrap64 (Int.tdiv (wrap64 (t129 * t131)) 2)) x142002_8 x142003_8 (wrap64 (1 + t137)) (wrap64 (1 + t139)) = some (r1, r2, r3, r4, r5, r6, r7, r8, r9, r10, r11, r12, r13, r14)) ∧ Aside0 (kq ≤ k) ∧ Aside0 (wc.heap[gb125]? = some (.cells #[.int .u64 0, .int .u64 0, .int .i64 0, .int .i64 0, .int .i64 0, .int .i64 0, .int .i64 0, .int .i64 0, .int .i64 0, .int .i64 0, .int .i64 0, .int .i64 0, .int .i64 0] 35 (0, 0))) ∧ Aside0 (wc.heap[gb141]? = some (.cells #[.int .i64 t129, .int .i64 (wrap64 (Int.tdiv (wrap64 (t129 * t131)) 2)), .int .i64 x142002_8, .int .i64 x142003_8, .int .i64 (wrap64 (1 + t137)), .int .i64 (wrap64 (1 + t139))] 24 (0, 0))) ∧ Aside0 (IsS54 w0 wc g s0_0 t143) ∧ Aside0 (KeepBut w wc g none) ∧ Aside0 (Below w0.heap.size w0 wc))
  case first =>
    have H := HC9.out
    clear HC9
    by_cases c25 : t142 = true
    · subst c25
      have H1 : (kauditmill_Case_Config.j0 k s0_0 t143 t129 (wrap64 (Int.tdiv (wrap64 (t129 * t131)) 2)) 2 1 (wrap64 (1 + t137)) (wrap64 (1 + t139))) = some (r1, r2, r3, r4, r5, r6, r7, r8, r9, r10, r11, r12, r13, r14) := by rw [if_pos rfl] at H; exact H
      clear H
      have H := H1
      clear H1
      have H' := Aside0.mk H
      clear H
      have hnb26 := NB141_125.out
      have hnc26 := NB125_141.out
      have hnb27 := NB141_0.out
      have hnc27 := NB0_141.out
      have hcz28_0 : w24.cell? ⟨gb141, 0, none⟩ = some (.int .i64 t129) := (blk_cell BK141.out 0).trans rfl
      have hcz28_1 : w24.cell? ⟨gb141, 1, none⟩ = some (.int .i64 (wrap64 (Int.tdiv (wrap64 (t129 * t131)) 2))) := (blk_cell BK141.out 1).trans rfl
      have hcz28_2 : w24.cell? ⟨gb141, 2, none⟩ = some (.int .i64 (wrap64 (1 + t133))) := (blk_cell BK141.out 2).trans rfl
      have hcz28_3 : w24.cell? ⟨gb141, 3, none⟩ = some (.int .i64 (wrap64 (1 + t135))) := (blk_cell BK141.out 3).trans rfl
      have hcz28_4 : w24.cell? ⟨gb141, 4, none⟩ = some (.int .i64 (wrap64 (1 + t137))) := (blk_cell BK141.out 4).trans rfl
      have hcz28_5 : w24.cell? ⟨gb141, 5, none⟩ = some (.int .i64 (wrap64 (1 + t139))) := (blk_cell BK141.out 5).trans rfl
      have hfz28_0 := blk_frozen BK141.out 0
      have hfz28_1 := blk_frozen BK141.out 1
      have hfz28_2 := blk_frozen BK141.out 2
      have hfz28_3 := blk_frozen BK141.out 3
      have hfz28_4 := blk_frozen BK141.out 4
      have hfz28_5 := blk_frozen BK141.out 5
      go_wp2
      go_meet
      case rel => exact ⟨_, (2), (1), H', ⟨by first | omega | exact Nat.le_refl _⟩, ⟨by (with_reducible repeat (first | refine blk_drewN ?_ _ | refine blk_drew ?_ | refine blk_alloc ?_ _)); refine blk_far ?_ NB125_141.out _; (with_reducible repeat (first | refine blk_drewN ?_ _ | refine blk_drew ?_ | refine blk_alloc ?_ _)); refine blk_far ?_ NB125_141.out _; (with_reducible repeat (first | refine blk_drewN ?_ _ | refine blk_drew ?_ | refine blk_alloc ?_ _)); exact BK125.out⟩, ⟨by (with_reducible repeat (first | refine blk_drewN ?_ _ | refine blk_drew ?_ | refine blk_alloc ?_ _)); refine blk_put (cs := #[.int .i64 t129, .int .i64 (wrap64 (Int.tdiv (wrap64 (t129 * t131)) 2)), .int .i64 2, .int .i64 (wrap64 (1 + t135)), .int .i64 (wrap64 (1 + t137)), .int .i64 (wrap64 (1 + t139))]) ?_ 3 _ rfl; (with_reducible repeat (first | refine blk_drewN ?_ _ | refine blk_drew ?_ | refine blk_alloc ?_ _)); refine blk_put (cs := #[.int .i64 t129, .int .i64 (wrap64 (Int.tdiv (wrap64 (t129 * t131)) 2)), .int .i64 (wrap64 (1 + t133)), .int .i64 (wrap64 (1 + t135)), .int .i64 (wrap64 (1 + t137)), .int .i64 (wrap64 (1 + t139))]) ?_ 2 _ rfl; (with_reducible repeat (first | refine blk_drewN ?_ _ | refine blk_drew ?_ | refine blk_alloc ?_ _)); exact BK141.out⟩, ⟨by repeat (first | (with_reducible first | exact HI0.out | apply IsS54.alloc | apply IsS54.drewN | apply IsS54.drew | apply IsS54.set_1 | refine IsS54.far ?_ NB0_125.out _ | refine IsS54.far ?_ NB0_141.out _) | exact HI0.out)⟩, ⟨by repeat (first | (with_reducible first | exact HK.out | apply KeepBut.set_ | apply keep_drewN | apply keep_drew | apply keep_alloc | refine keep_far ?_ GW125.out _ | refine keep_far ?_ GW141.out _) | exact HK.out)⟩, ⟨by repeat (first | (with_reducible first | exact HB.out | apply below_alloc | apply pw_below_drewN | apply below_drew1 | refine below_set ?_ (IsS54.ge HI0.out) | refine below_set ?_ GE125.out | refine below_set ?_ GE141.out) | exact HB.out)⟩⟩
    · replace c25 := Bool.eq_false_iff.mpr c25
      subst c25
      have H1 : (kauditmill_Case_Config.j0 k s0_0 t143 t129 (wrap64 (Int.tdiv (wrap64 (t129 * t131)) 2)) (wrap64 (1 + t133)) (wrap64 (1 + t135)) (wrap64 (1 + t137)) (wrap64 (1 + t139))) = some (r1, r2, r3, r4, r5, r6, r7, r8, r9, r10, r11, r12, r13, r14) := by rw [if_neg (show ¬ (false = true) by decide)] at H; exact H
      clear H
      have H := H1
      clear H1
      have H' := Aside0.mk H
      clear H
      go_wp2
      go_meet
      case rel => exact ⟨_, (wrap64 (1 + t133)), (wrap64 (1 + t135)), H', ⟨by first | omega | exact Nat.le_refl _⟩, ⟨by (with_reducible repeat (first | refine blk_drewN ?_ _ | refine blk_drew ?_ | refine blk_alloc ?_ _)); exact BK125.out⟩, ⟨by (with_reducible repeat (first | refine blk_drewN ?_ _ | refine blk_drew ?_ | refine blk_alloc ?_ _)); exact BK141.out⟩, ⟨by repeat (first | (with_reducible first | exact HI0.out | apply IsS54.alloc | apply IsS54.drewN | apply IsS54.drew | apply IsS54.set_1 | refine IsS54.far ?_ NB0_125.out _ | refine IsS54.far ?_ NB0_141.out _) | exact HI0.out)⟩, ⟨by repeat (first | (with_reducible first | exact HK.out | apply KeepBut.set_ | apply keep_drewN | apply keep_drew | apply keep_alloc | refine keep_far ?_ GW125.out _ | refine keep_far ?_ GW141.out _) | exact HK.out)⟩, ⟨by repeat (first | (with_reducible first | exact HB.out | apply below_alloc | apply pw_below_drewN | apply below_drew1 | refine below_set ?_ (IsS54.ge HI0.out) | refine below_set ?_ GE125.out | refine below_set ?_ GE141.out) | exact HB.out)⟩⟩
  case rest =>
    clear HC9
    try clear c1
    try clear c2
    try clear p2
    try clear p6
    try clear c8
    try clear c9
    try clear c10
    try clear c21
    try clear c22
    try clear c25
    try clear c26
    try clear c27
    try clear hcz23_0
    try clear hcz23_1
    try clear hcz23_2
    try clear hcz23_3
    try clear hcz23_4
    try clear hcz23_5
    try clear hcz28_0
    try clear hcz28_1
    try clear hcz28_2
    try clear hcz28_3
    try clear hcz28_4
    try clear hcz28_5
    try clear hfz23_0
    try clear hfz23_1
    try clear hfz23_2
    try clear hfz23_3
    try clear hfz23_4
    try clear hfz23_5
    try clear hfz28_0
    try clear hfz28_1
    try clear hfz28_2
    try clear hfz28_3
    try clear hfz28_4
    try clear hfz28_5
    obtain ⟨kq, x142002_8, x142003_8, HA, HJ8, BK125, BK141, HI0, HK, HB⟩ := hcut
    cases kq with
    | zero => exact absurd HA.out (by simp [kauditmill_Case_Config.j0])
    | succ kj8 =>
      have H := HA.out
      clear HA
      simp only [kauditmill_Case_Config.j0] at H
      replace H := Option.bind_eq_some_iff.mp H
      obtain ⟨⟨t144, t145⟩, A290, H⟩ := H
      replace H : (if (wrap64 (1 + t144)) = 2 then (kauditmill_Case_Config.j1 kj8 true s0_0 t145 t129 (wrap64 (Int.tdiv (wrap64 (t129 * t131)) 2)) x142002_8 x142003_8 (wrap64 (1 + t137)) (wrap64 (1 + t139)) (wrap64 (1 + t144)) 0) else (kauditmill_Case_Config.j1 kj8 ((wrap64 (1 + t144)) == 3) s0_0 t145 t129 (wrap64 (Int.tdiv (wrap64 (t129 * t131)) 2)) x142002_8 x142003_8 (wrap64 (1 + t137)) (wrap64 (1 + t139)) (wrap64 (1 + t144)) 0)) = some (r1, r2, r3, r4, r5, r6, r7, r8, r9, r10, r11, r12, r13, r14) := H
      have A29 := Aside0.mk A290
      clear A290
      have HC30 := Aside0.mk H
      clear H
      go_upto_region 6 with (first | ((with_reducible refine gate_callee (f := 9) rfl ?_); refine goesL_ (some 33) rfl rfl Try.func9 (by kernel_rfl) rfl #[.pointer (some ⟨g, 0, none⟩), .int .i64 4] rfl (by (try simp only [List.map_toArray, List.map_cons, List.map_nil]); first | done | rfl | (simp only [List.length_drop, List.length_take]; rfl)) ?_; (with_reducible refine (kauditmill_Case_Int.calls g s0_0 t143 4 t144 t145 w0 _ ?side1 ?side2 A29.out).mono ?_); (case side1 => repeat (first | (with_reducible first | exact HI0.out | apply IsS54.alloc | apply IsS54.drewN | apply IsS54.drew | apply IsS54.set_1 | refine IsS54.far ?_ NB0_125.out _ | refine IsS54.far ?_ NB0_141.out _) | exact HI0.out)); (case side2 => repeat (first | (with_reducible first | exact HB.out | apply below_alloc | apply pw_below_drewN | apply below_drew1 | refine below_set ?_ (IsS54.ge HI0.out) | refine below_set ?_ GE125.out | refine below_set ?_ GE141.out) | exact HB.out)); rintro e w31 ⟨rfl, hi, hb, hk⟩; refine ⟨_, rfl, ?_⟩; have n0_ := Aside0.mk (KeepBut.blk hk (g' := gb125) (o := .cells #[.int .u64 0, .int .u64 0, .int .i64 0, .int .i64 0, .int .i64 0, .int .i64 0, .int .i64 0, .int .i64 0, .int .i64 0, .int .i64 0, .int .i64 0, .int .i64 0, .int .i64 0] 35 (0, 0)) (by (with_reducible repeat (first | refine blk_drewN ?_ _ | refine blk_drew ?_ | refine blk_alloc ?_ _)); exact BK125.out) NB125_0.out (by simp)); have n1_ := Aside0.mk (KeepBut.blk hk (g' := gb141) (o := .cells #[.int .i64 t129, .int .i64 (wrap64 (Int.tdiv (wrap64 (t129 * t131)) 2)), .int .i64 x142002_8, .int .i64 x142003_8, .int .i64 (wrap64 (1 + t137)), .int .i64 (wrap64 (1 + t139))] 24 (0, 0)) (by (with_reducible repeat (first | refine blk_drewN ?_ _ | refine blk_drew ?_ | refine blk_alloc ?_ _)); exact BK141.out) NB141_0.out (by simp)); have n2_ := Aside0.mk (KeepBut.trans (by repeat (first | (with_reducible first | exact HK.out | apply KeepBut.set_ | apply keep_drewN | apply keep_drew | apply keep_alloc | refine keep_far ?_ GW125.out _ | refine keep_far ?_ GW141.out _) | exact HK.out)) hk (.inl rfl)); have n3_ := Aside0.mk (hb); have n4_ := Aside0.mk (hi); clear BK125; clear BK141; clear HK; clear HB; clear HI0; have BK125 := n0_; have BK141 := n1_; have HK := n2_; have HB := n3_; have HI0 := n4_; clear n0_ n1_ n2_ n3_ n4_; (try clear hb); (try clear hb2); (try clear hk); (try clear hi)) | ((with_reducible refine gate_dst (N := 5) rfl ?_); refine box_event ?hg (N := 5) ?hd (cs := #[.int .i64 0, .int .i64 0]) (t := 33) ?hr ?_; (case hd => rfl); (case hg => rfl); (case hr => first | (go_simp; done) | (go_simp; rfl)); intro gb146 hg w32 hbox hb; have n0_ := Aside0.mk (blk_below (g := gb125) (o := .cells #[.int .u64 0, .int .u64 0, .int .i64 0, .int .i64 0, .int .i64 0, .int .i64 0, .int .i64 0, .int .i64 0, .int .i64 0, .int .i64 0, .int .i64 0, .int .i64 0, .int .i64 0] 35 (0, 0)) (by (with_reducible repeat (first | refine blk_drewN ?_ _ | refine blk_drew ?_ | refine blk_alloc ?_ _)); exact BK125.out) hb); have n1_ := Aside0.mk (blk_below (g := gb141) (o := .cells #[.int .i64 t129, .int .i64 (wrap64 (Int.tdiv (wrap64 (t129 * t131)) 2)), .int .i64 x142002_8, .int .i64 x142003_8, .int .i64 (wrap64 (1 + t137)), .int .i64 (wrap64 (1 + t139))] 24 (0, 0)) (by (with_reducible repeat (first | refine blk_drewN ?_ _ | refine blk_drew ?_ | refine blk_alloc ?_ _)); exact BK141.out) hb); have n2_ := Aside0.mk (IsS54.below (by repeat (first | (with_reducible first | exact HI0.out | apply IsS54.alloc | apply IsS54.drewN | apply IsS54.drew | apply IsS54.set_1 | refine IsS54.far ?_ NB0_125.out _ | refine IsS54.far ?_ NB0_141.out _) | exact HI0.out)) hb); have n3_ := Aside0.mk (KeepBut.trans (by repeat (first | (with_reducible first | exact HK.out | apply KeepBut.set_ | apply keep_drewN | apply keep_drew | apply keep_alloc | refine keep_far ?_ GW125.out _ | refine keep_far ?_ GW141.out _) | exact HK.out)) (KeepBut.of_below hb g none) (.inl rfl)); have n4_ := Aside0.mk (below_step (by repeat (first | (with_reducible first | exact HB.out | apply below_alloc | apply pw_below_drewN | apply below_drew1 | refine below_set ?_ (IsS54.ge HI0.out) | refine below_set ?_ GE125.out | refine below_set ?_ GE141.out) | exact HB.out)) hb); have n5_ := Aside0.mk (hbox); have n6_ := Aside0.mk ((by rw [hg]; exact (keep_size (w := w) (g := g) (row := none) (by repeat (first | (with_reducible first | exact HK.out | apply KeepBut.set_ | apply keep_drewN | apply keep_drew | apply keep_alloc | refine keep_far ?_ GW125.out _ | refine keep_far ?_ GW141.out _) | exact HK.out))) : w.heap.size ≤ gb146)); have n7_ := Aside0.mk ((Nat.le_trans HW0.out (by rw [hg]; exact (keep_size (w := w) (g := g) (row := none) (by repeat (first | (with_reducible first | exact HK.out | apply KeepBut.set_ | apply keep_drewN | apply keep_drew | apply keep_alloc | refine keep_far ?_ GW125.out _ | refine keep_far ?_ GW141.out _) | exact HK.out))) : w.heap.size ≤ gb146) : w0.heap.size ≤ gb146)); have n8_ := Aside0.mk ((by rw [hg]; exact Nat.ne_of_lt (blk_lt (g := gb125) (o := .cells #[.int .u64 0, .int .u64 0, .int .i64 0, .int .i64 0, .int .i64 0, .int .i64 0, .int .i64 0, .int .i64 0, .int .i64 0, .int .i64 0, .int .i64 0, .int .i64 0, .int .i64 0] 35 (0, 0)) (by (with_reducible repeat (first | refine blk_drewN ?_ _ | refine blk_drew ?_ | refine blk_alloc ?_ _)); exact BK125.out)) : gb125 ≠ gb146)); have n9_ := Aside0.mk ((by rw [hg]; exact Nat.ne_of_gt (blk_lt (g := gb125) (o := .cells #[.int .u64 0, .int .u64 0, .int .i64 0, .int .i64 0, .int .i64 0, .int .i64 0, .int .i64 0, .int .i64 0, .int .i64 0, .int .i64 0, .int .i64 0, .int .i64 0, .int .i64 0] 35 (0, 0)) (by (with_reducible repeat (first | refine blk_drewN ?_ _ | refine blk_drew ?_ | refine blk_alloc ?_ _)); exact BK125.out)) : gb146 ≠ gb125)); have n10_ := Aside0.mk ((by rw [hg]; exact Nat.ne_of_lt (blk_lt (g := gb141) (o := .cells #[.int .i64 t129, .int .i64 (wrap64 (Int.tdiv (wrap64 (t129 * t131)) 2)), .int .i64 x142002_8, .int .i64 x142003_8, .int .i64 (wrap64 (1 + t137)), .int .i64 (wrap64 (1 + t139))] 24 (0, 0)) (by (with_reducible repeat (first | refine blk_drewN ?_ _ | refine blk_drew ?_ | refine blk_alloc ?_ _)); exact BK141.out)) : gb141 ≠ gb146)); have n11_ := Aside0.mk ((by rw [hg]; exact Nat.ne_of_gt (blk_lt (g := gb141) (o := .cells #[.int .i64 t129, .int .i64 (wrap64 (Int.tdiv (wrap64 (t129 * t131)) 2)), .int .i64 x142002_8, .int .i64 x142003_8, .int .i64 (wrap64 (1 + t137)), .int .i64 (wrap64 (1 + t139))] 24 (0, 0)) (by (with_reducible repeat (first | refine blk_drewN ?_ _ | refine blk_drew ?_ | refine blk_alloc ?_ _)); exact BK141.out)) : gb146 ≠ gb141)); have n12_ := Aside0.mk ((by rw [hg]; exact Nat.ne_of_lt (IsS54.lt (show IsS54 w0 _ g s0_0 t145 from by repeat (first | (with_reducible first | exact HI0.out | apply IsS54.alloc | apply IsS54.drewN | apply IsS54.drew | apply IsS54.set_1 | refine IsS54.far ?_ NB0_125.out _ | refine IsS54.far ?_ NB0_141.out _) | exact HI0.out))) : g ≠ gb146)); have n13_ := Aside0.mk ((by rw [hg]; exact Nat.ne_of_gt (IsS54.lt (show IsS54 w0 _ g s0_0 t145 from by repeat (first | (with_reducible first | exact HI0.out | apply IsS54.alloc | apply IsS54.drewN | apply IsS54.drew | apply IsS54.set_1 | refine IsS54.far ?_ NB0_125.out _ | refine IsS54.far ?_ NB0_141.out _) | exact HI0.out))) : gb146 ≠ g)); clear BK125; clear BK141; clear HI0; clear HK; clear HB; have BK125 := n0_; have BK141 := n1_; have HI0 := n2_; have HK := n3_; have HB := n4_; have BK146 := n5_; have GW146 := n6_; have GE146 := n7_; have NB125_146 := n8_; have NB146_125 := n9_; have NB141_146 := n10_; have NB146_141 := n11_; have NB0_146 := n12_; have NB146_0 := n13_; clear n0_ n1_ n2_ n3_ n4_ n5_ n6_ n7_ n8_ n9_ n10_ n11_ n12_ n13_; clear hb hbox hg; have hnb33 := NB146_125.out; have hnc33 := NB125_146.out; have hnb34 := NB146_141.out; have hnc34 := NB141_146.out; have hnb35 := NB146_0.out; have hnc35 := NB0_146.out; have hcz36_0 : w32.cell? ⟨gb146, 0, none⟩ = some (.int .i64 0) := (blk_cell BK146.out 0).trans rfl; have hcz36_1 : w32.cell? ⟨gb146, 1, none⟩ = some (.int .i64 0) := (blk_cell BK146.out 1).trans rfl; have hfz36_0 := blk_frozen BK146.out 0; have hfz36_1 := blk_frozen BK146.out 1))
      (try simp only [Act.put, List.setIfInBounds_toArray, List.set_cons_zero, List.set_cons_succ])
      go_cut [43] (fun v43 wc => ∃ (kq : Nat) (x43_29 : Bool), v43 = .bool x43_29 ∧ Aside0 (kauditmill_Case_Config.j1 kq x43_29 s0_0 t145 t129 (wrap64 (Int.tdiv (wrap64 (t129 * t131)) 2)) x142002_8 x142003_8 (wrap64 (1 + t137)) (wrap64 (1 + t139)) (wrap64 (1 + t144)) 0 = some (r1, r2, r3, r4, r5, r6, r7, r8, r9, r10, r11, r12, r13, r14)) ∧ Aside0 (kq ≤ kj8) ∧ Aside0 (wc.heap[gb125]? = some (.cells #[.int .u64 0, .int .u64 0, .int .i64 0, .int .i64 0, .int .i64 0, .int .i64 0, .int .i64 0, .int .i64 0, .int .i64 0, .int .i64 0, .int .i64 0, .int .i64 0, .int .i64 0] 35 (0, 0))) ∧ Aside0 (wc.heap[gb141]? = some (.cells #[.int .i64 t129, .int .i64 (wrap64 (Int.tdiv (wrap64 (t129 * t131)) 2)), .int .i64 x142002_8, .int .i64 x142003_8, .int .i64 (wrap64 (1 + t137)), .int .i64 (wrap64 (1 + t139))] 24 (0, 0))) ∧ Aside0 (wc.heap[gb146]? = some (.cells #[.int .i64 (wrap64 (1 + t144)), .int .i64 0] 33 (0, 0))) ∧ Aside0 (IsS54 w0 wc g s0_0 t145) ∧ Aside0 (KeepBut w wc g none) ∧ Aside0 (Below w0.heap.size w0 wc))
      case first =>
        have H := HC30.out
        clear HC30
        by_cases c37 : (wrap64 (1 + t144)) = 2
        · rw [if_pos c37] at H
          have c37b0 : ((wrap64 (1 + t144)) == 2) = true := beq_iff_eq.mpr c37
          have c37b1 : ((wrap64 (1 + t144)) != 2) = false := bne_eq_false_iff_eq.mpr c37
          clear c37
          (first | rw [c37b0] | (simp only [i64_w, i32_w]; rw [c37b0]) | skip)
          have H' := Aside0.mk H
          clear H
          have hnb38 := NB146_125.out
          have hnc38 := NB125_146.out
          have hnb39 := NB146_141.out
          have hnc39 := NB141_146.out
          have hnb40 := NB146_0.out
          have hnc40 := NB0_146.out
          have hcz41_0 : w32.cell? ⟨gb146, 0, none⟩ = some (.int .i64 0) := (blk_cell BK146.out 0).trans rfl
          have hcz41_1 : w32.cell? ⟨gb146, 1, none⟩ = some (.int .i64 0) := (blk_cell BK146.out 1).trans rfl
          have hfz41_0 := blk_frozen BK146.out 0
          have hfz41_1 := blk_frozen BK146.out 1
          go_wp2
          go_meet
          case rel => exact ⟨_, (true), (by first | rfl | (simp; done) | (simp [*]; done)), H', ⟨by have := HJ8.out; first | omega | exact Nat.le_refl _⟩, ⟨by (with_reducible repeat (first | refine blk_drewN ?_ _ | refine blk_drew ?_ | refine blk_alloc ?_ _)); refine blk_far ?_ NB125_146.out _; (with_reducible repeat (first | refine blk_drewN ?_ _ | refine blk_drew ?_ | refine blk_alloc ?_ _)); refine blk_far ?_ NB125_146.out _; (with_reducible repeat (first | refine blk_drewN ?_ _ | refine blk_drew ?_ | refine blk_alloc ?_ _)); exact BK125.out⟩, ⟨by (with_reducible repeat (first | refine blk_drewN ?_ _ | refine blk_drew ?_ | refine blk_alloc ?_ _)); refine blk_far ?_ NB141_146.out _; (with_reducible repeat (first | refine blk_drewN ?_ _ | refine blk_drew ?_ | refine blk_alloc ?_ _)); refine blk_far ?_ NB141_146.out _; (with_reducible repeat (first | refine blk_drewN ?_ _ | refine blk_drew ?_ | refine blk_alloc ?_ _)); exact BK141.out⟩, ⟨by (with_reducible repeat (first | refine blk_drewN ?_ _ | refine blk_drew ?_ | refine blk_alloc ?_ _)); refine blk_put (cs := #[.int .i64 (wrap64 (1 + t144)), .int .i64 0]) ?_ 1 _ rfl; (with_reducible repeat (first | refine blk_drewN ?_ _ | refine blk_drew ?_ | refine blk_alloc ?_ _)); refine blk_put (cs := #[.int .i64 0, .int .i64 0]) ?_ 0 _ rfl; (with_reducible repeat (first | refine blk_drewN ?_ _ | refine blk_drew ?_ | refine blk_alloc ?_ _)); exact BK146.out⟩, ⟨by repeat (first | (with_reducible first | exact HI0.out | apply IsS54.alloc | apply IsS54.drewN | apply IsS54.drew | apply IsS54.set_1 | refine IsS54.far ?_ NB0_125.out _ | refine IsS54.far ?_ NB0_141.out _ | refine IsS54.far ?_ NB0_146.out _) | exact HI0.out)⟩, ⟨by repeat (first | (with_reducible first | exact HK.out | apply KeepBut.set_ | apply keep_drewN | apply keep_drew | apply keep_alloc | refine keep_far ?_ GW125.out _ | refine keep_far ?_ GW141.out _ | refine keep_far ?_ GW146.out _) | exact HK.out)⟩, ⟨by repeat (first | (with_reducible first | exact HB.out | apply below_alloc | apply pw_below_drewN | apply below_drew1 | refine below_set ?_ (IsS54.ge HI0.out) | refine below_set ?_ GE125.out | refine below_set ?_ GE141.out | refine below_set ?_ GE146.out) | exact HB.out)⟩⟩
        · rw [if_neg c37] at H
          have c37b0 : ((wrap64 (1 + t144)) == 2) = false := beq_eq_false_iff_ne.mpr c37
          have c37b1 : ((wrap64 (1 + t144)) != 2) = true := bne_iff_ne.mpr c37
          (first | rw [c37b0] | (simp only [i64_w, i32_w]; rw [c37b0]) | skip)
          have H' := Aside0.mk H
          clear H
          have hnb42 := NB146_125.out
          have hnc42 := NB125_146.out
          have hnb43 := NB146_141.out
          have hnc43 := NB141_146.out
          have hnb44 := NB146_0.out
          have hnc44 := NB0_146.out
          have hcz45_0 : w32.cell? ⟨gb146, 0, none⟩ = some (.int .i64 0) := (blk_cell BK146.out 0).trans rfl
          have hcz45_1 : w32.cell? ⟨gb146, 1, none⟩ = some (.int .i64 0) := (blk_cell BK146.out 1).trans rfl
          have hfz45_0 := blk_frozen BK146.out 0
          have hfz45_1 := blk_frozen BK146.out 1
          go_wp2
          go_meet
          case rel => exact ⟨_, (((wrap64 (1 + t144)) == 3)), (by first | rfl | (simp; done) | (simp [*]; done)), H', ⟨by have := HJ8.out; first | omega | exact Nat.le_refl _⟩, ⟨by (with_reducible repeat (first | refine blk_drewN ?_ _ | refine blk_drew ?_ | refine blk_alloc ?_ _)); refine blk_far ?_ NB125_146.out _; (with_reducible repeat (first | refine blk_drewN ?_ _ | refine blk_drew ?_ | refine blk_alloc ?_ _)); refine blk_far ?_ NB125_146.out _; (with_reducible repeat (first | refine blk_drewN ?_ _ | refine blk_drew ?_ | refine blk_alloc ?_ _)); exact BK125.out⟩, ⟨by (with_reducible repeat (first | refine blk_drewN ?_ _ | refine blk_drew ?_ | refine blk_alloc ?_ _)); refine blk_far ?_ NB141_146.out _; (with_reducible repeat (first | refine blk_drewN ?_ _ | refine blk_drew ?_ | refine blk_alloc ?_ _)); refine blk_far ?_ NB141_146.out _; (with_reducible repeat (first | refine blk_drewN ?_ _ | refine blk_drew ?_ | refine blk_alloc ?_ _)); exact BK141.out⟩, ⟨by (with_reducible repeat (first | refine blk_drewN ?_ _ | refine blk_drew ?_ | refine blk_alloc ?_ _)); refine blk_put (cs := #[.int .i64 (wrap64 (1 + t144)), .int .i64 0]) ?_ 1 _ rfl; (with_reducible repeat (first | refine blk_drewN ?_ _ | refine blk_drew ?_ | refine blk_alloc ?_ _)); refine blk_put (cs := #[.int .i64 0, .int .i64 0]) ?_ 0 _ rfl; (with_reducible repeat (first | refine blk_drewN ?_ _ | refine blk_drew ?_ | refine blk_alloc ?_ _)); exact BK146.out⟩, ⟨by repeat (first | (with_reducible first | exact HI0.out | apply IsS54.alloc | apply IsS54.drewN | apply IsS54.drew | apply IsS54.set_1 | refine IsS54.far ?_ NB0_125.out _ | refine IsS54.far ?_ NB0_141.out _ | refine IsS54.far ?_ NB0_146.out _) | exact HI0.out)⟩, ⟨by repeat (first | (with_reducible first | exact HK.out | apply KeepBut.set_ | apply keep_drewN | apply keep_drew | apply keep_alloc | refine keep_far ?_ GW125.out _ | refine keep_far ?_ GW141.out _ | refine keep_far ?_ GW146.out _) | exact HK.out)⟩, ⟨by repeat (first | (with_reducible first | exact HB.out | apply below_alloc | apply pw_below_drewN | apply below_drew1 | refine below_set ?_ (IsS54.ge HI0.out) | refine below_set ?_ GE125.out | refine below_set ?_ GE141.out | refine below_set ?_ GE146.out) | exact HB.out)⟩⟩
      case rest =>
        clear HC30
        try clear c1
        try clear c2
        try clear p2
        try clear c3
        try clear c4
        try clear p6
        try clear c8
        try clear c9
        try clear c10
        try clear c21
        try clear c22
        try clear c25
        try clear c26
        try clear c27
        try clear c33
        try clear c34
        try clear c35
        try clear c37
        try clear c37b0
        try clear c37b1
        try clear c38
        try clear c39
        try clear c40
        try clear c42
        try clear c43
        try clear c44
        try clear hcz23_0
        try clear hcz23_1
        try clear hcz23_2
        try clear hcz23_3
        try clear hcz23_4
        try clear hcz23_5
        try clear hcz28_0
        try clear hcz28_1
        try clear hcz28_2
        try clear hcz28_3
        try clear hcz28_4
        try clear hcz28_5
        try clear hcz36_0
        try clear hcz36_1
        try clear hcz41_0
        try clear hcz41_1
        try clear hcz45_0
        try clear hcz45_1
        try clear hfz23_0
        try clear hfz23_1
        try clear hfz23_2
        try clear hfz23_3
        try clear hfz23_4
        try clear hfz23_5
        try clear hfz28_0
        try clear hfz28_1
        try clear hfz28_2
        try clear hfz28_3
        try clear hfz28_4
        try clear hfz28_5
        try clear hfz36_0
        try clear hfz36_1
        try clear hfz41_0
        try clear hfz41_1
        try clear hfz45_0
        try clear hfz45_1
        try clear p2
        try clear p6
        obtain ⟨kq, x43_29, rfl, HA, HJ29, BK125, BK141, BK146, HI0, HK, HB⟩ := hcut
        cases kq with
        | zero => exact absurd HA.out (by simp [kauditmill_Case_Config.j1])
        | succ kj29 =>
          have H := HA.out
          clear HA
          simp only [kauditmill_Case_Config.j1] at H
          by_cases c46 : x43_29 = true
          · subst c46
            have H1 : ((kauditmill_Case_Int.f s0_0 t145 4).bind fun bt147 => ((kauditmill_Case_Key.f s0_0 bt147.2).bind fun bt149 => ((kauditmill_Case_Rotation.f s0_0 bt149.2.2).bind fun bt152 => (some (bt149.1, bt149.2.1, bt152.1, bt152.2.1, bt152.2.2.1, t129, (wrap64 (Int.tdiv (wrap64 (t129 * t131)) 2)), x142002_8, x142003_8, (wrap64 (1 + t137)), (wrap64 (1 + t139)), (wrap64 (1 + t144)), wrap64 (1 + bt147.1), bt152.2.2.2))))) = some (r1, r2, r3, r4, r5, r6, r7, r8, r9, r10, r11, r12, r13, r14) := by rw [if_pos rfl] at H; exact H
            clear H
            have H := H1
            clear H1
            replace H := Option.bind_eq_some_iff.mp H
            obtain ⟨⟨t147, t148⟩, A470, H⟩ := H
            replace H : ((kauditmill_Case_Key.f s0_0 t148).bind fun bt149 => ((kauditmill_Case_Rotation.f s0_0 bt149.2.2).bind fun bt152 => (some (bt149.1, bt149.2.1, bt152.1, bt152.2.1, bt152.2.2.1, t129, (wrap64 (Int.tdiv (wrap64 (t129 * t131)) 2)), x142002_8, x142003_8, (wrap64 (1 + t137)), (wrap64 (1 + t139)), (wrap64 (1 + t144)), wrap64 (1 + t147), bt152.2.2.2)))) = some (r1, r2, r3, r4, r5, r6, r7, r8, r9, r10, r11, r12, r13, r14) := H
            have A47 := Aside0.mk A470
            clear A470
            replace H := Option.bind_eq_some_iff.mp H
            obtain ⟨⟨t149, t150, t151⟩, A480, H⟩ := H
            replace H : ((kauditmill_Case_Rotation.f s0_0 t151).bind fun bt152 => (some (t149, t150, bt152.1, bt152.2.1, bt152.2.2.1, t129, (wrap64 (Int.tdiv (wrap64 (t129 * t131)) 2)), x142002_8, x142003_8, (wrap64 (1 + t137)), (wrap64 (1 + t139)), (wrap64 (1 + t144)), wrap64 (1 + t147), bt152.2.2.2))) = some (r1, r2, r3, r4, r5, r6, r7, r8, r9, r10, r11, r12, r13, r14) := H
            have A48 := Aside0.mk A480
            clear A480
            replace H := Option.bind_eq_some_iff.mp H
            obtain ⟨⟨t152, t153, t154, t155⟩, A490, H⟩ := H
            replace H : (some (t149, t150, t152, t153, t154, t129, (wrap64 (Int.tdiv (wrap64 (t129 * t131)) 2)), x142002_8, x142003_8, (wrap64 (1 + t137)), (wrap64 (1 + t139)), (wrap64 (1 + t144)), wrap64 (1 + t147), t155)) = some (r1, r2, r3, r4, r5, r6, r7, r8, r9, r10, r11, r12, r13, r14) := H
            have A49 := Aside0.mk A490
            clear A490
            simp only [Option.some.injEq, Prod.mk.injEq] at H
            obtain ⟨rfl, rfl, rfl, rfl, rfl, rfl, rfl, rfl, rfl, rfl, rfl, rfl, rfl, rfl⟩ := H
            try go_wp2_with (first | ((with_reducible refine gate_callee (f := 9) rfl ?_); refine goesL_ (some 45) rfl rfl Try.func9 (by kernel_rfl) rfl #[.pointer (some ⟨g, 0, none⟩), .int .i64 4] rfl (by (try simp only [List.map_toArray, List.map_cons, List.map_nil]); first | done | rfl | (simp only [List.length_drop, List.length_take]; rfl)) ?_; (with_reducible refine (kauditmill_Case_Int.calls g s0_0 t145 4 t147 t148 w0 _ ?side1 ?side2 A47.out).mono ?_); (case side1 => repeat (first | (with_reducible first | exact HI0.out | apply IsS54.alloc | apply IsS54.drewN | apply IsS54.drew | apply IsS54.set_1 | refine IsS54.far ?_ NB0_125.out _ | refine IsS54.far ?_ NB0_141.out _ | refine IsS54.far ?_ NB0_146.out _) | exact HI0.out)); (case side2 => repeat (first | (with_reducible first | exact HB.out | apply below_alloc | apply pw_below_drewN | apply below_drew1 | refine below_set ?_ (IsS54.ge HI0.out) | refine below_set ?_ GE125.out | refine below_set ?_ GE141.out | refine below_set ?_ GE146.out) | exact HB.out)); rintro e w50 ⟨rfl, hi, hb, hk⟩; refine ⟨_, rfl, ?_⟩; have n0_ := Aside0.mk (KeepBut.blk hk (g' := gb125) (o := .cells #[.int .u64 0, .int .u64 0, .int .i64 0, .int .i64 0, .int .i64 0, .int .i64 0, .int .i64 0, .int .i64 0, .int .i64 0, .int .i64 0, .int .i64 0, .int .i64 0, .int .i64 0] 35 (0, 0)) (by (with_reducible repeat (first | refine blk_drewN ?_ _ | refine blk_drew ?_ | refine blk_alloc ?_ _)); exact BK125.out) NB125_0.out (by simp)); have n1_ := Aside0.mk (KeepBut.blk hk (g' := gb141) (o := .cells #[.int .i64 t129, .int .i64 (wrap64 (Int.tdiv (wrap64 (t129 * t131)) 2)), .int .i64 x142002_8, .int .i64 x142003_8, .int .i64 (wrap64 (1 + t137)), .int .i64 (wrap64 (1 + t139))] 24 (0, 0)) (by (with_reducible repeat (first | refine blk_drewN ?_ _ | refine blk_drew ?_ | refine blk_alloc ?_ _)); exact BK141.out) NB141_0.out (by simp)); have n2_ := Aside0.mk (KeepBut.blk hk (g' := gb146) (o := .cells #[.int .i64 (wrap64 (1 + t144)), .int .i64 0] 33 (0, 0)) (by (with_reducible repeat (first | refine blk_drewN ?_ _ | refine blk_drew ?_ | refine blk_alloc ?_ _)); exact BK146.out) NB146_0.out (by simp)); have n3_ := Aside0.mk (KeepBut.trans (by repeat (first | (with_reducible first | exact HK.out | apply KeepBut.set_ | apply keep_drewN | apply keep_drew | apply keep_alloc | refine keep_far ?_ GW125.out _ | refine keep_far ?_ GW141.out _ | refine keep_far ?_ GW146.out _) | exact HK.out)) hk (.inl rfl)); have n4_ := Aside0.mk (hb); have n5_ := Aside0.mk (hi); clear BK125; clear BK141; clear BK146; clear HK; clear HB; clear HI0; have BK125 := n0_; have BK141 := n1_; have BK146 := n2_; have HK := n3_; have HB := n4_; have HI0 := n5_; clear n0_ n1_ n2_ n3_ n4_ n5_; (try clear hb); (try clear hb2); (try clear hk); (try clear hi); have hnb51 := NB146_125.out; have hnc51 := NB125_146.out; have hnb52 := NB146_141.out; have hnc52 := NB141_146.out; have hnb53 := NB146_0.out; have hnc53 := NB0_146.out; have hcz54_0 : w50.cell? ⟨gb146, 0, none⟩ = some (.int .i64 (wrap64 (1 + t144))) := (blk_cell BK146.out 0).trans rfl; have hcz54_1 : w50.cell? ⟨gb146, 1, none⟩ = some (.int .i64 0) := (blk_cell BK146.out 1).trans rfl; have hfz54_0 := blk_frozen BK146.out 0; have hfz54_1 := blk_frozen BK146.out 1))
            have n0_ : Aside0 ((w50.setCell ⟨gb146, 1, none⟩ (.int .i64 (wrap64 (1 + t147)))).heap[gb125]? = some (.cells #[.int .u64 0, .int .u64 0, .int .i64 0, .int .i64 0, .int .i64 0, .int .i64 0, .int .i64 0, .int .i64 0, .int .i64 0, .int .i64 0, .int .i64 0, .int .i64 0, .int .i64 0] 35 (0, 0))) := ⟨by (with_reducible repeat (first | refine blk_drewN ?_ _ | refine blk_drew ?_ | refine blk_alloc ?_ _)); refine blk_far ?_ NB125_146.out _; (with_reducible repeat (first | refine blk_drewN ?_ _ | refine blk_drew ?_ | refine blk_alloc ?_ _)); exact BK125.out⟩
            have n1_ : Aside0 ((w50.setCell ⟨gb146, 1, none⟩ (.int .i64 (wrap64 (1 + t147)))).heap[gb141]? = some (.cells #[.int .i64 t129, .int .i64 (wrap64 (Int.tdiv (wrap64 (t129 * t131)) 2)), .int .i64 x142002_8, .int .i64 x142003_8, .int .i64 (wrap64 (1 + t137)), .int .i64 (wrap64 (1 + t139))] 24 (0, 0))) := ⟨by (with_reducible repeat (first | refine blk_drewN ?_ _ | refine blk_drew ?_ | refine blk_alloc ?_ _)); refine blk_far ?_ NB141_146.out _; (with_reducible repeat (first | refine blk_drewN ?_ _ | refine blk_drew ?_ | refine blk_alloc ?_ _)); exact BK141.out⟩
            have n2_ : Aside0 ((w50.setCell ⟨gb146, 1, none⟩ (.int .i64 (wrap64 (1 + t147)))).heap[gb146]? = some (.cells #[.int .i64 (wrap64 (1 + t144)), .int .i64 (wrap64 (1 + t147))] 33 (0, 0))) := ⟨by (with_reducible repeat (first | refine blk_drewN ?_ _ | refine blk_drew ?_ | refine blk_alloc ?_ _)); refine blk_put (cs := #[.int .i64 (wrap64 (1 + t144)), .int .i64 0]) ?_ 1 _ rfl; (with_reducible repeat (first | refine blk_drewN ?_ _ | refine blk_drew ?_ | refine blk_alloc ?_ _)); exact BK146.out⟩
            have n3_ : Aside0 (IsS54 w0 (w50.setCell ⟨gb146, 1, none⟩ (.int .i64 (wrap64 (1 + t147)))) g s0_0 t148) := ⟨by repeat (first | (with_reducible first | exact HI0.out | apply IsS54.alloc | apply IsS54.drewN | apply IsS54.drew | apply IsS54.set_1 | refine IsS54.far ?_ NB0_125.out _ | refine IsS54.far ?_ NB0_141.out _ | refine IsS54.far ?_ NB0_146.out _) | exact HI0.out)⟩
            have n4_ : Aside0 (KeepBut w (w50.setCell ⟨gb146, 1, none⟩ (.int .i64 (wrap64 (1 + t147)))) g none) := ⟨by repeat (first | (with_reducible first | exact HK.out | apply KeepBut.set_ | apply keep_drewN | apply keep_drew | apply keep_alloc | refine keep_far ?_ GW125.out _ | refine keep_far ?_ GW141.out _ | refine keep_far ?_ GW146.out _) | exact HK.out)⟩
            have n5_ : Aside0 (Below w0.heap.size w0 (w50.setCell ⟨gb146, 1, none⟩ (.int .i64 (wrap64 (1 + t147))))) := ⟨by repeat (first | (with_reducible first | exact HB.out | apply below_alloc | apply pw_below_drewN | apply below_drew1 | refine below_set ?_ (IsS54.ge HI0.out) | refine below_set ?_ GE125.out | refine below_set ?_ GE141.out | refine below_set ?_ GE146.out) | exact HB.out)⟩
            (try clear BK125)
            (try clear BK141)
            (try clear BK146)
            (try clear HI0)
            (try clear HK)
            (try clear HB)
            generalize (w50.setCell ⟨gb146, 1, none⟩ (.int .i64 (wrap64 (1 + t147)))) = w55 at n0_ n1_ n2_ n3_ n4_ n5_ ⊢
            have BK125 := n0_
            have BK141 := n1_
            have BK146 := n2_
            have HI0 := n3_
            have HK := n4_
            have HB := n5_
            clear n0_ n1_ n2_ n3_ n4_ n5_
            have n0_ := Aside0.mk (blk_drew BK125.out)
            have n1_ := Aside0.mk (blk_drew BK141.out)
            have n2_ := Aside0.mk (blk_drew BK146.out)
            have n3_ := Aside0.mk (IsS54.drew HI0.out)
            have n4_ := Aside0.mk (keep_drew HK.out)
            have n5_ := Aside0.mk (below_drew1 HB.out)
            clear BK125
            clear BK141
            clear BK146
            clear HI0
            clear HK
            clear HB
            have BK125 := n0_
            have BK141 := n1_
            have BK146 := n2_
            have HI0 := n3_
            have HK := n4_
            have HB := n5_
            clear n0_ n1_ n2_ n3_ n4_ n5_
            refine start_ (n := 8) (S := fun w' => w'.cell? ⟨gb141, 0, none⟩ = some (.int .i64 t129) ∧ w'.cell? ⟨gb141, 1, none⟩ = some (.int .i64 (wrap64 (Int.tdiv (wrap64 (t129 * t131)) 2))) ∧ w'.cell? ⟨gb141, 2, none⟩ = some (.int .i64 x142002_8) ∧ w'.cell? ⟨gb141, 3, none⟩ = some (.int .i64 x142003_8) ∧ w'.cell? ⟨gb141, 4, none⟩ = some (.int .i64 (wrap64 (1 + t137))) ∧ w'.cell? ⟨gb141, 5, none⟩ = some (.int .i64 (wrap64 (1 + t139))) ∧ w'.cell? ⟨gb146, 0, none⟩ = some (.int .i64 (wrap64 (1 + t144))) ∧ w'.cell? ⟨gb146, 1, none⟩ = some (.int .i64 (wrap64 (1 + t147)))) (ds := []) #[false, false, false, false, false, false, false, false] (by kernel_rfl) rfl rfl ⟨(blk_cell BK141.out 0).trans rfl, (blk_cell BK141.out 1).trans rfl, (blk_cell BK141.out 2).trans rfl, (blk_cell BK141.out 3).trans rfl, (blk_cell BK141.out 4).trans rfl, (blk_cell BK141.out 5).trans rfl, (blk_cell BK146.out 0).trans rfl, (blk_cell BK146.out 1).trans rfl⟩ (fun hHeld => ?_); refine with_tabW kauditmill_Case_Config.tab8 kauditmill_Case_Config.bits8 (fun HT_ HW_ => ?_)
            generalize w55.drew = w56 at BK125 BK141 BK146 HI0 HK HB hHeld ⊢
            refine pure_ (i := 0) (N := some 48) (v := ?_) (a' := ?_) #[true, false, false, false, false, false, false, false] rfl rfl (any_of HT_.out (by kernel_rfl)) (fun _ _ _ h => h) (Or.inl ⟨by rfl, ?_⟩) ?_ ?_
            rotate_left
            · intro w'
              go_simp
              with_reducible rfl
            rotate_left
            · simp only [Act.put, List.setIfInBounds_toArray, List.set_cons_zero, List.set_cons_succ, i64_w, i32_w]
              rfl
            refine pure_ (i := 2) (N := some 50) (v := ?_) (a' := ?_) #[true, false, true, false, false, false, false, false] rfl rfl (any_of HT_.out (by kernel_rfl)) (fun _ _ _ h => h) (Or.inl ⟨by rfl, ?_⟩) ?_ ?_
            rotate_left
            · intro w'
              go_simp
              with_reducible rfl
            rotate_left
            · simp only [Act.put, List.setIfInBounds_toArray, List.set_cons_zero, List.set_cons_succ, i64_w, i32_w]
              rfl
            refine take_ (i := 4) (N := some 52) (v := ?_) (a' := ?_) #[true, false, true, false, true, false, false, false] rfl rfl (take_ofW HT_.out HW_.out (by kernel_rfl)) (fun _ _ _ h => h) (Or.inl ⟨by rfl, ?_⟩) hHeld ?_ ?_
            rotate_left
            · rintro w' ⟨s0, s1, s2, s3, s4, s5, s6, s7⟩
              go_simp
              with_reducible rfl
            rotate_left
            · simp only [Act.put, List.setIfInBounds_toArray, List.set_cons_zero, List.set_cons_succ, i64_w, i32_w]
              rfl
            refine take_ (i := 5) (N := some 53) (v := ?_) (a' := ?_) #[true, false, true, false, true, true, false, false] rfl rfl (take_ofW HT_.out HW_.out (by kernel_rfl)) (fun _ _ _ h => h) (Or.inl ⟨by rfl, ?_⟩) hHeld ?_ ?_
            rotate_left
            · rintro w' ⟨s0, s1, s2, s3, s4, s5, s6, s7⟩
              go_simp
              with_reducible rfl
            rotate_left
            · simp only [Act.put, List.setIfInBounds_toArray, List.set_cons_zero, List.set_cons_succ, i64_w, i32_w]
              rfl
            refine one_ (i := 1) (N := some 49) #[true, true, true, false, true, true, false, false] rfl rfl (one_of HT_.out (by kernel_rfl)) (by decide) (fun K hK => ?_)
            refine goes_ Try.func22 (by kernel_rfl) rfl #[.pointer (some ⟨g, 0, none⟩)] (by rfl) rfl rfl (by (try simp only [List.map_toArray, List.map_cons, List.map_nil]); first | done | rfl | (simp only [List.length_drop, List.length_take]; rfl)) ?_
            with_reducible refine (kauditmill_Case_Key.calls g s0_0 t148 t149 t150 t151 w0 _ ?side1 ?side2 A48.out).mono ?_
            (case side1 => repeat (first | (with_reducible first | exact HI0.out | apply IsS54.alloc | apply IsS54.drewN | apply IsS54.drew | apply IsS54.set_1 | refine IsS54.far ?_ NB0_125.out _ | refine IsS54.far ?_ NB0_141.out _ | refine IsS54.far ?_ NB0_146.out _) | exact HI0.out))
            (case side2 => repeat (first | (with_reducible first | exact HB.out | apply below_alloc | apply pw_below_drewN | apply below_drew1 | refine below_set ?_ (IsS54.ge HI0.out) | refine below_set ?_ GE125.out | refine below_set ?_ GE141.out | refine below_set ?_ GE146.out) | exact HB.out))
            rintro e w57 ⟨rfl, hi, hb, hk⟩
            refine ⟨_, rfl, ?_⟩
            have n0_ := Aside0.mk (KeepBut.blk hk (g' := gb125) (o := .cells #[.int .u64 0, .int .u64 0, .int .i64 0, .int .i64 0, .int .i64 0, .int .i64 0, .int .i64 0, .int .i64 0, .int .i64 0, .int .i64 0, .int .i64 0, .int .i64 0, .int .i64 0] 35 (0, 0)) (by (with_reducible repeat (first | refine blk_drewN ?_ _ | refine blk_drew ?_ | refine blk_alloc ?_ _)); exact BK125.out) NB125_0.out (by simp))
            have n1_ := Aside0.mk (KeepBut.blk hk (g' := gb141) (o := .cells #[.int .i64 t129, .int .i64 (wrap64 (Int.tdiv (wrap64 (t129 * t131)) 2)), .int .i64 x142002_8, .int .i64 x142003_8, .int .i64 (wrap64 (1 + t137)), .int .i64 (wrap64 (1 + t139))] 24 (0, 0)) (by (with_reducible repeat (first | refine blk_drewN ?_ _ | refine blk_drew ?_ | refine blk_alloc ?_ _)); exact BK141.out) NB141_0.out (by simp))
            have n2_ := Aside0.mk (KeepBut.blk hk (g' := gb146) (o := .cells #[.int .i64 (wrap64 (1 + t144)), .int .i64 (wrap64 (1 + t147))] 33 (0, 0)) (by (with_reducible repeat (first | refine blk_drewN ?_ _ | refine blk_drew ?_ | refine blk_alloc ?_ _)); exact BK146.out) NB146_0.out (by simp))
            have n3_ := Aside0.mk (KeepBut.trans (by repeat (first | (with_reducible first | exact HK.out | apply KeepBut.set_ | apply keep_drewN | apply keep_drew | apply keep_alloc | refine keep_far ?_ GW125.out _ | refine keep_far ?_ GW141.out _ | refine keep_far ?_ GW146.out _) | exact HK.out)) hk (.inl rfl))
            have n4_ := Aside0.mk (hb)
            have n5_ := Aside0.mk (hi)
            clear BK125
            clear BK141
            clear BK146
            clear HK
            clear HB
            clear HI0
            have BK125 := n0_
            have BK141 := n1_
            have BK146 := n2_
            have HK := n3_
            have HB := n4_
            have HI0 := n5_
            clear n0_ n1_ n2_ n3_ n4_ n5_
            (try clear hb)
            (try clear hb2)
            (try clear hk)
            (try clear hi)
            refine hK.out _ _ ⟨(blk_cell BK141.out 0).trans rfl, (blk_cell BK141.out 1).trans rfl, (blk_cell BK141.out 2).trans rfl, (blk_cell BK141.out 3).trans rfl, (blk_cell BK141.out 4).trans rfl, (blk_cell BK141.out 5).trans rfl, (blk_cell BK146.out 0).trans rfl, (blk_cell BK146.out 1).trans rfl⟩ (fun hHeld => ?_)
            clear hK K
            refine norm_ (a' := ?_) ?_ ?_
            rotate_left
            · show Act.put _ (some 49) _ = _
              simp only [Act.put, List.setIfInBounds_toArray, List.set_cons_zero, List.set_cons_succ, i64_w, i32_w]
              rfl
            refine one_ (i := 3) (N := some 51) #[true, true, true, true, true, true, false, false] rfl rfl (one_of HT_.out (by kernel_rfl)) (by decide) (fun K hK => ?_)
            refine goes_ Try.func23 (by kernel_rfl) rfl #[.pointer (some ⟨g, 0, none⟩)] (by rfl) rfl rfl (by (try simp only [List.map_toArray, List.map_cons, List.map_nil]); first | done | rfl | (simp only [List.length_drop, List.length_take]; rfl)) ?_
            with_reducible refine (kauditmill_Case_Rotation.calls g s0_0 t151 t152 t153 t154 t155 w0 _ ?side1 ?side2 A49.out).mono ?_
            (case side1 => repeat (first | (with_reducible first | exact HI0.out | apply IsS54.alloc | apply IsS54.drewN | apply IsS54.drew | apply IsS54.set_1 | refine IsS54.far ?_ NB0_125.out _ | refine IsS54.far ?_ NB0_141.out _ | refine IsS54.far ?_ NB0_146.out _) | exact HI0.out))
            (case side2 => repeat (first | (with_reducible first | exact HB.out | apply below_alloc | apply pw_below_drewN | apply below_drew1 | refine below_set ?_ (IsS54.ge HI0.out) | refine below_set ?_ GE125.out | refine below_set ?_ GE141.out | refine below_set ?_ GE146.out) | exact HB.out))
            rintro e w58 ⟨rfl, hi, hb, hk⟩
            refine ⟨_, rfl, ?_⟩
            have n0_ := Aside0.mk (KeepBut.blk hk (g' := gb125) (o := .cells #[.int .u64 0, .int .u64 0, .int .i64 0, .int .i64 0, .int .i64 0, .int .i64 0, .int .i64 0, .int .i64 0, .int .i64 0, .int .i64 0, .int .i64 0, .int .i64 0, .int .i64 0] 35 (0, 0)) (by (with_reducible repeat (first | refine blk_drewN ?_ _ | refine blk_drew ?_ | refine blk_alloc ?_ _)); exact BK125.out) NB125_0.out (by simp))
            have n1_ := Aside0.mk (KeepBut.blk hk (g' := gb141) (o := .cells #[.int .i64 t129, .int .i64 (wrap64 (Int.tdiv (wrap64 (t129 * t131)) 2)), .int .i64 x142002_8, .int .i64 x142003_8, .int .i64 (wrap64 (1 + t137)), .int .i64 (wrap64 (1 + t139))] 24 (0, 0)) (by (with_reducible repeat (first | refine blk_drewN ?_ _ | refine blk_drew ?_ | refine blk_alloc ?_ _)); exact BK141.out) NB141_0.out (by simp))
            have n2_ := Aside0.mk (KeepBut.blk hk (g' := gb146) (o := .cells #[.int .i64 (wrap64 (1 + t144)), .int .i64 (wrap64 (1 + t147))] 33 (0, 0)) (by (with_reducible repeat (first | refine blk_drewN ?_ _ | refine blk_drew ?_ | refine blk_alloc ?_ _)); exact BK146.out) NB146_0.out (by simp))
            have n3_ := Aside0.mk (KeepBut.trans (by repeat (first | (with_reducible first | exact HK.out | apply KeepBut.set_ | apply keep_drewN | apply keep_drew | apply keep_alloc | refine keep_far ?_ GW125.out _ | refine keep_far ?_ GW141.out _ | refine keep_far ?_ GW146.out _) | exact HK.out)) hk (.inl rfl))
            have n4_ := Aside0.mk (hb)
            have n5_ := Aside0.mk (hi)
            clear BK125
            clear BK141
            clear BK146
            clear HK
            clear HB
            clear HI0
            have BK125 := n0_
            have BK141 := n1_
            have BK146 := n2_
            have HK := n3_
            have HB := n4_
            have HI0 := n5_
            clear n0_ n1_ n2_ n3_ n4_ n5_
            (try clear hb)
            (try clear hb2)
            (try clear hk)
            (try clear hi)
            refine hK.out _ _ ⟨(blk_cell BK141.out 0).trans rfl, (blk_cell BK141.out 1).trans rfl, (blk_cell BK141.out 2).trans rfl, (blk_cell BK141.out 3).trans rfl, (blk_cell BK141.out 4).trans rfl, (blk_cell BK141.out 5).trans rfl, (blk_cell BK146.out 0).trans rfl, (blk_cell BK146.out 1).trans rfl⟩ (fun hHeld => ?_)
            clear hK K
            refine norm_ (a' := ?_) ?_ ?_
            rotate_left
            · show Act.put _ (some 51) _ = _
              simp only [Act.put, List.setIfInBounds_toArray, List.set_cons_zero, List.set_cons_succ, i64_w, i32_w]
              rfl
            refine pure_ (i := 6) (N := some 54) (v := ?_) (a' := ?_) #[true, true, true, true, true, true, true, false] rfl rfl (any_of HT_.out (by kernel_rfl)) (fun _ _ _ h => h) (Or.inl ⟨by rfl, ?_⟩) ?_ ?_
            rotate_left
            · intro w'
              go_simp
              with_reducible rfl
            rotate_left
            · simp only [Act.put, List.setIfInBounds_toArray, List.set_cons_zero, List.set_cons_succ, i64_w, i32_w]
              rfl
            refine one_ (i := 7) (N := none) #[true, true, true, true, true, true, true, true] rfl rfl (one_of HT_.out (by kernel_rfl)) (by decide) (fun K hK => ?_)
            have hs59 : w58.cell? ⟨gb125, 0, none⟩ = some (.int .u64 0) := (blk_cell BK125.out 0).trans rfl
            have hfs59 := blk_frozen BK125.out 0
            have hns59_1 := NB141_125.out
            have hns59_2 := NB146_125.out
            have hms59_1 := NB125_141.out
            have hms59_2 := NB125_146.out
            have hs60 : w58.cell? ⟨gb125, 1, none⟩ = some (.int .u64 0) := (blk_cell BK125.out 1).trans rfl
            have hfs60 := blk_frozen BK125.out 1
            have hns60_1 := NB141_125.out
            have hns60_2 := NB146_125.out
            have hms60_1 := NB125_141.out
            have hms60_2 := NB125_146.out
            have hs61 : w58.cell? ⟨gb125, 2, none⟩ = some (.int .i64 0) := (blk_cell BK125.out 2).trans rfl
            have hfs61 := blk_frozen BK125.out 2
            have hns61_1 := NB141_125.out
            have hns61_2 := NB146_125.out
            have hms61_1 := NB125_141.out
            have hms61_2 := NB125_146.out
            have hs62 : w58.cell? ⟨gb125, 3, none⟩ = some (.int .i64 0) := (blk_cell BK125.out 3).trans rfl
            have hfs62 := blk_frozen BK125.out 3
            have hns62_1 := NB141_125.out
            have hns62_2 := NB146_125.out
            have hms62_1 := NB125_141.out
            have hms62_2 := NB125_146.out
            have hs63 : w58.cell? ⟨gb125, 4, none⟩ = some (.int .i64 0) := (blk_cell BK125.out 4).trans rfl
            have hfs63 := blk_frozen BK125.out 4
            have hns63_1 := NB141_125.out
            have hns63_2 := NB146_125.out
            have hms63_1 := NB125_141.out
            have hms63_2 := NB125_146.out
            have hs64 : w58.cell? ⟨gb125, 5, none⟩ = some (.int .i64 0) := (blk_cell BK125.out 5).trans rfl
            have hfs64 := blk_frozen BK125.out 5
            have hns64_1 := NB141_125.out
            have hns64_2 := NB146_125.out
            have hms64_1 := NB125_141.out
            have hms64_2 := NB125_146.out
            have hs65 : w58.cell? ⟨gb125, 6, none⟩ = some (.int .i64 0) := (blk_cell BK125.out 6).trans rfl
            have hfs65 := blk_frozen BK125.out 6
            have hns65_1 := NB141_125.out
            have hns65_2 := NB146_125.out
            have hms65_1 := NB125_141.out
            have hms65_2 := NB125_146.out
            have hs66 : w58.cell? ⟨gb125, 7, none⟩ = some (.int .i64 0) := (blk_cell BK125.out 7).trans rfl
            have hfs66 := blk_frozen BK125.out 7
            have hns66_1 := NB141_125.out
            have hns66_2 := NB146_125.out
            have hms66_1 := NB125_141.out
            have hms66_2 := NB125_146.out
            have hs67 : w58.cell? ⟨gb125, 8, none⟩ = some (.int .i64 0) := (blk_cell BK125.out 8).trans rfl
            have hfs67 := blk_frozen BK125.out 8
            have hns67_1 := NB141_125.out
            have hns67_2 := NB146_125.out
            have hms67_1 := NB125_141.out
            have hms67_2 := NB125_146.out
            have hs68 : w58.cell? ⟨gb125, 9, none⟩ = some (.int .i64 0) := (blk_cell BK125.out 9).trans rfl
            have hfs68 := blk_frozen BK125.out 9
            have hns68_1 := NB141_125.out
            have hns68_2 := NB146_125.out
            have hms68_1 := NB125_141.out
            have hms68_2 := NB125_146.out
            have hs69 : w58.cell? ⟨gb125, 10, none⟩ = some (.int .i64 0) := (blk_cell BK125.out 10).trans rfl
            have hfs69 := blk_frozen BK125.out 10
            have hns69_1 := NB141_125.out
            have hns69_2 := NB146_125.out
            have hms69_1 := NB125_141.out
            have hms69_2 := NB125_146.out
            have hs70 : w58.cell? ⟨gb125, 11, none⟩ = some (.int .i64 0) := (blk_cell BK125.out 11).trans rfl
            have hfs70 := blk_frozen BK125.out 11
            have hns70_1 := NB141_125.out
            have hns70_2 := NB146_125.out
            have hms70_1 := NB125_141.out
            have hms70_2 := NB125_146.out
            have hs71 : w58.cell? ⟨gb125, 12, none⟩ = some (.int .i64 0) := (blk_cell BK125.out 12).trans rfl
            have hfs71 := blk_frozen BK125.out 12
            have hns71_1 := NB141_125.out
            have hns71_2 := NB146_125.out
            have hms71_1 := NB125_141.out
            have hms71_2 := NB125_146.out
            refine skip_ (w1 := ?_) (by rfl) rfl ?_ ?_
            rotate_left
            · go_simp
              rfl
            refine hK.out _ _ ⟨((cell_far (p := ⟨gb125, _, none⟩) NB141_125.out _).trans (((cell_far (p := ⟨gb125, _, none⟩) NB141_125.out _).trans (((cell_far (p := ⟨gb125, _, none⟩) NB141_125.out _).trans (((cell_far (p := ⟨gb125, _, none⟩) NB141_125.out _).trans (((cell_far (p := ⟨gb125, _, none⟩) NB141_125.out _).trans (((cell_far (p := ⟨gb125, _, none⟩) NB141_125.out _).trans (((cell_far (p := ⟨gb125, _, none⟩) NB141_125.out _).trans (((cell_far (p := ⟨gb125, _, none⟩) NB141_125.out _).trans (((cell_far (p := ⟨gb125, _, none⟩) NB141_125.out _).trans (((cell_far (p := ⟨gb125, _, none⟩) NB141_125.out _).trans (((cell_far (p := ⟨gb125, _, none⟩) NB141_125.out _).trans (((cell_far (p := ⟨gb125, _, none⟩) NB141_125.out _).trans (((cell_far (p := ⟨gb125, _, none⟩) NB141_125.out _).trans (hHeld.1)))))))))))))))))))))))))), ((cell_far (p := ⟨gb125, _, none⟩) NB141_125.out _).trans (((cell_far (p := ⟨gb125, _, none⟩) NB141_125.out _).trans (((cell_far (p := ⟨gb125, _, none⟩) NB141_125.out _).trans (((cell_far (p := ⟨gb125, _, none⟩) NB141_125.out _).trans (((cell_far (p := ⟨gb125, _, none⟩) NB141_125.out _).trans (((cell_far (p := ⟨gb125, _, none⟩) NB141_125.out _).trans (((cell_far (p := ⟨gb125, _, none⟩) NB141_125.out _).trans (((cell_far (p := ⟨gb125, _, none⟩) NB141_125.out _).trans (((cell_far (p := ⟨gb125, _, none⟩) NB141_125.out _).trans (((cell_far (p := ⟨gb125, _, none⟩) NB141_125.out _).trans (((cell_far (p := ⟨gb125, _, none⟩) NB141_125.out _).trans (((cell_far (p := ⟨gb125, _, none⟩) NB141_125.out _).trans (((cell_far (p := ⟨gb125, _, none⟩) NB141_125.out _).trans (hHeld.2.1)))))))))))))))))))))))))), ((cell_far (p := ⟨gb125, _, none⟩) NB141_125.out _).trans (((cell_far (p := ⟨gb125, _, none⟩) NB141_125.out _).trans (((cell_far (p := ⟨gb125, _, none⟩) NB141_125.out _).trans (((cell_far (p := ⟨gb125, _, none⟩) NB141_125.out _).trans (((cell_far (p := ⟨gb125, _, none⟩) NB141_125.out _).trans (((cell_far (p := ⟨gb125, _, none⟩) NB141_125.out _).trans (((cell_far (p := ⟨gb125, _, none⟩) NB141_125.out _).trans (((cell_far (p := ⟨gb125, _, none⟩) NB141_125.out _).trans (((cell_far (p := ⟨gb125, _, none⟩) NB141_125.out _).trans (((cell_far (p := ⟨gb125, _, none⟩) NB141_125.out _).trans (((cell_far (p := ⟨gb125, _, none⟩) NB141_125.out _).trans (((cell_far (p := ⟨gb125, _, none⟩) NB141_125.out _).trans (((cell_far (p := ⟨gb125, _, none⟩) NB141_125.out _).trans (hHeld.2.2.1)))))))))))))))))))))))))), ((cell_far (p := ⟨gb125, _, none⟩) NB141_125.out _).trans (((cell_far (p := ⟨gb125, _, none⟩) NB141_125.out _).trans (((cell_far (p := ⟨gb125, _, none⟩) NB141_125.out _).trans (((cell_far (p := ⟨gb125, _, none⟩) NB141_125.out _).trans (((cell_far (p := ⟨gb125, _, none⟩) NB141_125.out _).trans (((cell_far (p := ⟨gb125, _, none⟩) NB141_125.out _).trans (((cell_far (p := ⟨gb125, _, none⟩) NB141_125.out _).trans (((cell_far (p := ⟨gb125, _, none⟩) NB141_125.out _).trans (((cell_far (p := ⟨gb125, _, none⟩) NB141_125.out _).trans (((cell_far (p := ⟨gb125, _, none⟩) NB141_125.out _).trans (((cell_far (p := ⟨gb125, _, none⟩) NB141_125.out _).trans (((cell_far (p := ⟨gb125, _, none⟩) NB141_125.out _).trans (((cell_far (p := ⟨gb125, _, none⟩) NB141_125.out _).trans (hHeld.2.2.2.1)))))))))))))))))))))))))), ((cell_far (p := ⟨gb125, _, none⟩) NB141_125.out _).trans (((cell_far (p := ⟨gb125, _, none⟩) NB141_125.out _).trans (((cell_far (p := ⟨gb125, _, none⟩) NB141_125.out _).trans (((cell_far (p := ⟨gb125, _, none⟩) NB141_125.out _).trans (((cell_far (p := ⟨gb125, _, none⟩) NB141_125.out _).trans (((cell_far (p := ⟨gb125, _, none⟩) NB141_125.out _).trans (((cell_far (p := ⟨gb125, _, none⟩) NB141_125.out _).trans (((cell_far (p := ⟨gb125, _, none⟩) NB141_125.out _).trans (((cell_far (p := ⟨gb125, _, none⟩) NB141_125.out _).trans (((cell_far (p := ⟨gb125, _, none⟩) NB141_125.out _).trans (((cell_far (p := ⟨gb125, _, none⟩) NB141_125.out _).trans (((cell_far (p := ⟨gb125, _, none⟩) NB141_125.out _).trans (((cell_far (p := ⟨gb125, _, none⟩) NB141_125.out _).trans (hHeld.2.2.2.2.1)))))))))))))))))))))))))), ((cell_far (p := ⟨gb125, _, none⟩) NB141_125.out _).trans (((cell_far (p := ⟨gb125, _, none⟩) NB141_125.out _).trans (((cell_far (p := ⟨gb125, _, none⟩) NB141_125.out _).trans (((cell_far (p := ⟨gb125, _, none⟩) NB141_125.out _).trans (((cell_far (p := ⟨gb125, _, none⟩) NB141_125.out _).trans (((cell_far (p := ⟨gb125, _, none⟩) NB141_125.out _).trans (((cell_far (p := ⟨gb125, _, none⟩) NB141_125.out _).trans (((cell_far (p := ⟨gb125, _, none⟩) NB141_125.out _).trans (((cell_far (p := ⟨gb125, _, none⟩) NB141_125.out _).trans (((cell_far (p := ⟨gb125, _, none⟩) NB141_125.out _).trans (((cell_far (p := ⟨gb125, _, none⟩) NB141_125.out _).trans (((cell_far (p := ⟨gb125, _, none⟩) NB141_125.out _).trans (((cell_far (p := ⟨gb125, _, none⟩) NB141_125.out _).trans (hHeld.2.2.2.2.2.1)))))))))))))))))))))))))), ((cell_far (p := ⟨gb125, _, none⟩) NB146_125.out _).trans (((cell_far (p := ⟨gb125, _, none⟩) NB146_125.out _).trans (((cell_far (p := ⟨gb125, _, none⟩) NB146_125.out _).trans (((cell_far (p := ⟨gb125, _, none⟩) NB146_125.out _).trans (((cell_far (p := ⟨gb125, _, none⟩) NB146_125.out _).trans (((cell_far (p := ⟨gb125, _, none⟩) NB146_125.out _).trans (((cell_far (p := ⟨gb125, _, none⟩) NB146_125.out _).trans (((cell_far (p := ⟨gb125, _, none⟩) NB146_125.out _).trans (((cell_far (p := ⟨gb125, _, none⟩) NB146_125.out _).trans (((cell_far (p := ⟨gb125, _, none⟩) NB146_125.out _).trans (((cell_far (p := ⟨gb125, _, none⟩) NB146_125.out _).trans (((cell_far (p := ⟨gb125, _, none⟩) NB146_125.out _).trans (((cell_far (p := ⟨gb125, _, none⟩) NB146_125.out _).trans (hHeld.2.2.2.2.2.2.1)))))))))))))))))))))))))), ((cell_far (p := ⟨gb125, _, none⟩) NB146_125.out _).trans (((cell_far (p := ⟨gb125, _, none⟩) NB146_125.out _).trans (((cell_far (p := ⟨gb125, _, none⟩) NB146_125.out _).trans (((cell_far (p := ⟨gb125, _, none⟩) NB146_125.out _).trans (((cell_far (p := ⟨gb125, _, none⟩) NB146_125.out _).trans (((cell_far (p := ⟨gb125, _, none⟩) NB146_125.out _).trans (((cell_far (p := ⟨gb125, _, none⟩) NB146_125.out _).trans (((cell_far (p := ⟨gb125, _, none⟩) NB146_125.out _).trans (((cell_far (p := ⟨gb125, _, none⟩) NB146_125.out _).trans (((cell_far (p := ⟨gb125, _, none⟩) NB146_125.out _).trans (((cell_far (p := ⟨gb125, _, none⟩) NB146_125.out _).trans (((cell_far (p := ⟨gb125, _, none⟩) NB146_125.out _).trans (((cell_far (p := ⟨gb125, _, none⟩) NB146_125.out _).trans (hHeld.2.2.2.2.2.2.2))))))))))))))))))))))))))⟩ (fun hHeld => ?_)
            clear hK K
            refine done_ (done_of HT_.out (by kernel_rfl)) ?_
            try go_wp2
            refine bodyPost_ret (results_cell_row rfl _ _ gb125 35 #[.int .u64 t149, .int .u64 t150, .int .i64 t152, .int .i64 t153, .int .i64 t154, .int .i64 t129, .int .i64 (wrap64 (Int.tdiv (wrap64 (t129 * t131)) 2)), .int .i64 x142002_8, .int .i64 x142003_8, .int .i64 (wrap64 (1 + t137)), .int .i64 (wrap64 (1 + t139)), .int .i64 (wrap64 (1 + t144)), .int .i64 (wrap64 (1 + t147))] (0, 0) _ rfl (by (with_reducible repeat (first | refine blk_drewN ?_ _ | refine blk_drew ?_ | refine blk_alloc ?_ _)); refine blk_put (cs := #[.int .u64 t149, .int .u64 t150, .int .i64 t152, .int .i64 t153, .int .i64 t154, .int .i64 t129, .int .i64 (wrap64 (Int.tdiv (wrap64 (t129 * t131)) 2)), .int .i64 x142002_8, .int .i64 x142003_8, .int .i64 (wrap64 (1 + t137)), .int .i64 (wrap64 (1 + t139)), .int .i64 (wrap64 (1 + t144)), .int .i64 0]) ?_ 12 _ rfl; (with_reducible repeat (first | refine blk_drewN ?_ _ | refine blk_drew ?_ | refine blk_alloc ?_ _)); refine blk_put (cs := #[.int .u64 t149, .int .u64 t150, .int .i64 t152, .int .i64 t153, .int .i64 t154, .int .i64 t129, .int .i64 (wrap64 (Int.tdiv (wrap64 (t129 * t131)) 2)), .int .i64 x142002_8, .int .i64 x142003_8, .int .i64 (wrap64 (1 + t137)), .int .i64 (wrap64 (1 + t139)), .int .i64 0, .int .i64 0]) ?_ 11 _ rfl; (with_reducible repeat (first | refine blk_drewN ?_ _ | refine blk_drew ?_ | refine blk_alloc ?_ _)); refine blk_put (cs := #[.int .u64 t149, .int .u64 t150, .int .i64 t152, .int .i64 t153, .int .i64 t154, .int .i64 t129, .int .i64 (wrap64 (Int.tdiv (wrap64 (t129 * t131)) 2)), .int .i64 x142002_8, .int .i64 x142003_8, .int .i64 (wrap64 (1 + t137)), .int .i64 0, .int .i64 0, .int .i64 0]) ?_ 10 _ rfl; (with_reducible repeat (first | refine blk_drewN ?_ _ | refine blk_drew ?_ | refine blk_alloc ?_ _)); refine blk_put (cs := #[.int .u64 t149, .int .u64 t150, .int .i64 t152, .int .i64 t153, .int .i64 t154, .int .i64 t129, .int .i64 (wrap64 (Int.tdiv (wrap64 (t129 * t131)) 2)), .int .i64 x142002_8, .int .i64 x142003_8, .int .i64 0, .int .i64 0, .int .i64 0, .int .i64 0]) ?_ 9 _ rfl; (with_reducible repeat (first | refine blk_drewN ?_ _ | refine blk_drew ?_ | refine blk_alloc ?_ _)); refine blk_put (cs := #[.int .u64 t149, .int .u64 t150, .int .i64 t152, .int .i64 t153, .int .i64 t154, .int .i64 t129, .int .i64 (wrap64 (Int.tdiv (wrap64 (t129 * t131)) 2)), .int .i64 x142002_8, .int .i64 0, .int .i64 0, .int .i64 0, .int .i64 0, .int .i64 0]) ?_ 8 _ rfl; (with_reducible repeat (first | refine blk_drewN ?_ _ | refine blk_drew ?_ | refine blk_alloc ?_ _)); refine blk_put (cs := #[.int .u64 t149, .int .u64 t150, .int .i64 t152, .int .i64 t153, .int .i64 t154, .int .i64 t129, .int .i64 (wrap64 (Int.tdiv (wrap64 (t129 * t131)) 2)), .int .i64 0, .int .i64 0, .int .i64 0, .int .i64 0, .int .i64 0, .int .i64 0]) ?_ 7 _ rfl; (with_reducible repeat (first | refine blk_drewN ?_ _ | refine blk_drew ?_ | refine blk_alloc ?_ _)); refine blk_put (cs := #[.int .u64 t149, .int .u64 t150, .int .i64 t152, .int .i64 t153, .int .i64 t154, .int .i64 t129, .int .i64 0, .int .i64 0, .int .i64 0, .int .i64 0, .int .i64 0, .int .i64 0, .int .i64 0]) ?_ 6 _ rfl; (with_reducible repeat (first | refine blk_drewN ?_ _ | refine blk_drew ?_ | refine blk_alloc ?_ _)); refine blk_put (cs := #[.int .u64 t149, .int .u64 t150, .int .i64 t152, .int .i64 t153, .int .i64 t154, .int .i64 0, .int .i64 0, .int .i64 0, .int .i64 0, .int .i64 0, .int .i64 0, .int .i64 0, .int .i64 0]) ?_ 5 _ rfl; (with_reducible repeat (first | refine blk_drewN ?_ _ | refine blk_drew ?_ | refine blk_alloc ?_ _)); refine blk_put (cs := #[.int .u64 t149, .int .u64 t150, .int .i64 t152, .int .i64 t153, .int .i64 0, .int .i64 0, .int .i64 0, .int .i64 0, .int .i64 0, .int .i64 0, .int .i64 0, .int .i64 0, .int .i64 0]) ?_ 4 _ rfl; (with_reducible repeat (first | refine blk_drewN ?_ _ | refine blk_drew ?_ | refine blk_alloc ?_ _)); refine blk_put (cs := #[.int .u64 t149, .int .u64 t150, .int .i64 t152, .int .i64 0, .int .i64 0, .int .i64 0, .int .i64 0, .int .i64 0, .int .i64 0, .int .i64 0, .int .i64 0, .int .i64 0, .int .i64 0]) ?_ 3 _ rfl; (with_reducible repeat (first | refine blk_drewN ?_ _ | refine blk_drew ?_ | refine blk_alloc ?_ _)); refine blk_put (cs := #[.int .u64 t149, .int .u64 t150, .int .i64 0, .int .i64 0, .int .i64 0, .int .i64 0, .int .i64 0, .int .i64 0, .int .i64 0, .int .i64 0, .int .i64 0, .int .i64 0, .int .i64 0]) ?_ 2 _ rfl; (with_reducible repeat (first | refine blk_drewN ?_ _ | refine blk_drew ?_ | refine blk_alloc ?_ _)); refine blk_put (cs := #[.int .u64 t149, .int .u64 0, .int .i64 0, .int .i64 0, .int .i64 0, .int .i64 0, .int .i64 0, .int .i64 0, .int .i64 0, .int .i64 0, .int .i64 0, .int .i64 0, .int .i64 0]) ?_ 1 _ rfl; (with_reducible repeat (first | refine blk_drewN ?_ _ | refine blk_drew ?_ | refine blk_alloc ?_ _)); refine blk_put (cs := #[.int .u64 0, .int .u64 0, .int .i64 0, .int .i64 0, .int .i64 0, .int .i64 0, .int .i64 0, .int .i64 0, .int .i64 0, .int .i64 0, .int .i64 0, .int .i64 0, .int .i64 0]) ?_ 0 _ rfl; (with_reducible repeat (first | refine blk_drewN ?_ _ | refine blk_drew ?_ | refine blk_alloc ?_ _)); exact BK125.out) Try.underlying35 rfl (by kernel_rfl)) rfl ?_
            exact ⟨by first | rfl | (simp [errW_none, errW_some] <;> rfl) | (simp [*, errW_none, errW_some] <;> rfl), by repeat (first | (with_reducible first | exact HI0.out | apply IsS54.alloc | apply IsS54.drewN | apply IsS54.drew | apply IsS54.set_1 | refine IsS54.far ?_ NB0_125.out _ | refine IsS54.far ?_ NB0_141.out _ | refine IsS54.far ?_ NB0_146.out _) | exact HI0.out), by repeat (first | (with_reducible first | exact HB.out | apply below_alloc | apply pw_below_drewN | apply below_drew1 | refine below_set ?_ (IsS54.ge HI0.out) | refine below_set ?_ GE125.out | refine below_set ?_ GE141.out | refine below_set ?_ GE146.out) | exact HB.out), by repeat (first | (with_reducible first | exact HK.out | apply KeepBut.set_ | apply keep_drewN | apply keep_drew | apply keep_alloc | refine keep_far ?_ GW125.out _ | refine keep_far ?_ GW141.out _ | refine keep_far ?_ GW146.out _) | exact HK.out)⟩
          · replace c46 := Bool.eq_false_iff.mpr c46
            subst c46
            have H1 : ((kauditmill_Case_Key.f s0_0 t145).bind fun bt156 => ((kauditmill_Case_Rotation.f s0_0 bt156.2.2).bind fun bt159 => (some (bt156.1, bt156.2.1, bt159.1, bt159.2.1, bt159.2.2.1, t129, (wrap64 (Int.tdiv (wrap64 (t129 * t131)) 2)), x142002_8, x142003_8, (wrap64 (1 + t137)), (wrap64 (1 + t139)), (wrap64 (1 + t144)), 0, bt159.2.2.2)))) = some (r1, r2, r3, r4, r5, r6, r7, r8, r9, r10, r11, r12, r13, r14) := by rw [if_neg (show ¬ (false = true) by decide)] at H; exact H
            clear H
            have H := H1
            clear H1
            replace H := Option.bind_eq_some_iff.mp H
            obtain ⟨⟨t156, t157, t158⟩, A720, H⟩ := H
            replace H : ((kauditmill_Case_Rotation.f s0_0 t158).bind fun bt159 => (some (t156, t157, bt159.1, bt159.2.1, bt159.2.2.1, t129, (wrap64 (Int.tdiv (wrap64 (t129 * t131)) 2)), x142002_8, x142003_8, (wrap64 (1 + t137)), (wrap64 (1 + t139)), (wrap64 (1 + t144)), 0, bt159.2.2.2))) = some (r1, r2, r3, r4, r5, r6, r7, r8, r9, r10, r11, r12, r13, r14) := H
            have A72 := Aside0.mk A720
            clear A720
            replace H := Option.bind_eq_some_iff.mp H
            obtain ⟨⟨t159, t160, t161, t162⟩, A730, H⟩ := H
            replace H : (some (t156, t157, t159, t160, t161, t129, (wrap64 (Int.tdiv (wrap64 (t129 * t131)) 2)), x142002_8, x142003_8, (wrap64 (1 + t137)), (wrap64 (1 + t139)), (wrap64 (1 + t144)), 0, t162)) = some (r1, r2, r3, r4, r5, r6, r7, r8, r9, r10, r11, r12, r13, r14) := H
            have A73 := Aside0.mk A730
            clear A730
            simp only [Option.some.injEq, Prod.mk.injEq] at H
            obtain ⟨rfl, rfl, rfl, rfl, rfl, rfl, rfl, rfl, rfl, rfl, rfl, rfl, rfl, rfl⟩ := H
            try go_wp2
            have n0_ := Aside0.mk (blk_drew BK125.out)
            have n1_ := Aside0.mk (blk_drew BK141.out)
            have n2_ := Aside0.mk (blk_drew BK146.out)
            have n3_ := Aside0.mk (IsS54.drew HI0.out)
            have n4_ := Aside0.mk (keep_drew HK.out)
            have n5_ := Aside0.mk (below_drew1 HB.out)
            clear BK125
            clear BK141
            clear BK146
            clear HI0
            clear HK
            clear HB
            have BK125 := n0_
            have BK141 := n1_
            have BK146 := n2_
            have HI0 := n3_
            have HK := n4_
            have HB := n5_
            clear n0_ n1_ n2_ n3_ n4_ n5_
            refine start_ (n := 8) (S := fun w' => w'.cell? ⟨gb141, 0, none⟩ = some (.int .i64 t129) ∧ w'.cell? ⟨gb141, 1, none⟩ = some (.int .i64 (wrap64 (Int.tdiv (wrap64 (t129 * t131)) 2))) ∧ w'.cell? ⟨gb141, 2, none⟩ = some (.int .i64 x142002_8) ∧ w'.cell? ⟨gb141, 3, none⟩ = some (.int .i64 x142003_8) ∧ w'.cell? ⟨gb141, 4, none⟩ = some (.int .i64 (wrap64 (1 + t137))) ∧ w'.cell? ⟨gb141, 5, none⟩ = some (.int .i64 (wrap64 (1 + t139))) ∧ w'.cell? ⟨gb146, 0, none⟩ = some (.int .i64 (wrap64 (1 + t144))) ∧ w'.cell? ⟨gb146, 1, none⟩ = some (.int .i64 0)) (ds := []) #[false, false, false, false, false, false, false, false] (by kernel_rfl) rfl rfl ⟨(blk_cell BK141.out 0).trans rfl, (blk_cell BK141.out 1).trans rfl, (blk_cell BK141.out 2).trans rfl, (blk_cell BK141.out 3).trans rfl, (blk_cell BK141.out 4).trans rfl, (blk_cell BK141.out 5).trans rfl, (blk_cell BK146.out 0).trans rfl, (blk_cell BK146.out 1).trans rfl⟩ (fun hHeld => ?_); refine with_tabW kauditmill_Case_Config.tab8 kauditmill_Case_Config.bits8 (fun HT_ HW_ => ?_)
            generalize wc.drew = w74 at BK125 BK141 BK146 HI0 HK HB hHeld ⊢
            refine pure_ (i := 0) (N := some 48) (v := ?_) (a' := ?_) #[true, false, false, false, false, false, false, false] rfl rfl (any_of HT_.out (by kernel_rfl)) (fun _ _ _ h => h) (Or.inl ⟨by rfl, ?_⟩) ?_ ?_
            rotate_left
            · intro w'
              go_simp
              with_reducible rfl
            rotate_left
            · simp only [Act.put, List.setIfInBounds_toArray, List.set_cons_zero, List.set_cons_succ, i64_w, i32_w]
              rfl
            refine pure_ (i := 2) (N := some 50) (v := ?_) (a' := ?_) #[true, false, true, false, false, false, false, false] rfl rfl (any_of HT_.out (by kernel_rfl)) (fun _ _ _ h => h) (Or.inl ⟨by rfl, ?_⟩) ?_ ?_
            rotate_left
            · intro w'
              go_simp
              with_reducible rfl
            rotate_left
            · simp only [Act.put, List.setIfInBounds_toArray, List.set_cons_zero, List.set_cons_succ, i64_w, i32_w]
              rfl
            refine take_ (i := 4) (N := some 52) (v := ?_) (a' := ?_) #[true, false, true, false, true, false, false, false] rfl rfl (take_ofW HT_.out HW_.out (by kernel_rfl)) (fun _ _ _ h => h) (Or.inl ⟨by rfl, ?_⟩) hHeld ?_ ?_
            rotate_left
            · rintro w' ⟨s0, s1, s2, s3, s4, s5, s6, s7⟩
              go_simp
              with_reducible rfl
            rotate_left
            · simp only [Act.put, List.setIfInBounds_toArray, List.set_cons_zero, List.set_cons_succ, i64_w, i32_w]
              rfl
            refine take_ (i := 5) (N := some 53) (v := ?_) (a' := ?_) #[true, false, true, false, true, true, false, false] rfl rfl (take_ofW HT_.out HW_.out (by kernel_rfl)) (fun _ _ _ h => h) (Or.inl ⟨by rfl, ?_⟩) hHeld ?_ ?_
            rotate_left
            · rintro w' ⟨s0, s1, s2, s3, s4, s5, s6, s7⟩
              go_simp
              with_reducible rfl
            rotate_left
            · simp only [Act.put, List.setIfInBounds_toArray, List.set_cons_zero, List.set_cons_succ, i64_w, i32_w]
              rfl
            refine one_ (i := 1) (N := some 49) #[true, true, true, false, true, true, false, false] rfl rfl (one_of HT_.out (by kernel_rfl)) (by decide) (fun K hK => ?_)
            refine goes_ Try.func22 (by kernel_rfl) rfl #[.pointer (some ⟨g, 0, none⟩)] (by rfl) rfl rfl (by (try simp only [List.map_toArray, List.map_cons, List.map_nil]); first | done | rfl | (simp only [List.length_drop, List.length_take]; rfl)) ?_
            with_reducible refine (kauditmill_Case_Key.calls g s0_0 t145 t156 t157 t158 w0 _ ?side1 ?side2 A72.out).mono ?_
            (case side1 => repeat (first | (with_reducible first | exact HI0.out | apply IsS54.alloc | apply IsS54.drewN | apply IsS54.drew | apply IsS54.set_1 | refine IsS54.far ?_ NB0_125.out _ | refine IsS54.far ?_ NB0_141.out _ | refine IsS54.far ?_ NB0_146.out _) | exact HI0.out))
            (case side2 => repeat (first | (with_reducible first | exact HB.out | apply below_alloc | apply pw_below_drewN | apply below_drew1 | refine below_set ?_ (IsS54.ge HI0.out) | refine below_set ?_ GE125.out | refine below_set ?_ GE141.out | refine below_set ?_ GE146.out) | exact HB.out))
            rintro e w75 ⟨rfl, hi, hb, hk⟩
            refine ⟨_, rfl, ?_⟩
            have n0_ := Aside0.mk (KeepBut.blk hk (g' := gb125) (o := .cells #[.int .u64 0, .int .u64 0, .int .i64 0, .int .i64 0, .int .i64 0, .int .i64 0, .int .i64 0, .int .i64 0, .int .i64 0, .int .i64 0, .int .i64 0, .int .i64 0, .int .i64 0] 35 (0, 0)) (by (with_reducible repeat (first | refine blk_drewN ?_ _ | refine blk_drew ?_ | refine blk_alloc ?_ _)); exact BK125.out) NB125_0.out (by simp))
            have n1_ := Aside0.mk (KeepBut.blk hk (g' := gb141) (o := .cells #[.int .i64 t129, .int .i64 (wrap64 (Int.tdiv (wrap64 (t129 * t131)) 2)), .int .i64 x142002_8, .int .i64 x142003_8, .int .i64 (wrap64 (1 + t137)), .int .i64 (wrap64 (1 + t139))] 24 (0, 0)) (by (with_reducible repeat (first | refine blk_drewN ?_ _ | refine blk_drew ?_ | refine blk_alloc ?_ _)); exact BK141.out) NB141_0.out (by simp))
            have n2_ := Aside0.mk (KeepBut.blk hk (g' := gb146) (o := .cells #[.int .i64 (wrap64 (1 + t144)), .int .i64 0] 33 (0, 0)) (by (with_reducible repeat (first | refine blk_drewN ?_ _ | refine blk_drew ?_ | refine blk_alloc ?_ _)); exact BK146.out) NB146_0.out (by simp))
            have n3_ := Aside0.mk (KeepBut.trans (by repeat (first | (with_reducible first | exact HK.out | apply KeepBut.set_ | apply keep_drewN | apply keep_drew | apply keep_alloc | refine keep_far ?_ GW125.out _ | refine keep_far ?_ GW141.out _ | refine keep_far ?_ GW146.out _) | exact HK.out)) hk (.inl rfl))
            have n4_ := Aside0.mk (hb)
            have n5_ := Aside0.mk (hi)
            clear BK125
            clear BK141
            clear BK146
            clear HK
            clear HB
            clear HI0
            have BK125 := n0_
            have BK141 := n1_
            have BK146 := n2_
            have HK := n3_
            have HB := n4_
            have HI0 := n5_
            clear n0_ n1_ n2_ n3_ n4_ n5_
            (try clear hb)
            (try clear hb2)
            (try clear hk)
            (try clear hi)
            refine hK.out _ _ ⟨(blk_cell BK141.out 0).trans rfl, (blk_cell BK141.out 1).trans rfl, (blk_cell BK141.out 2).trans rfl, (blk_cell BK141.out 3).trans rfl, (blk_cell BK141.out 4).trans rfl, (blk_cell BK141.out 5).trans rfl, (blk_cell BK146.out 0).trans rfl, (blk_cell BK146.out 1).trans rfl⟩ (fun hHeld => ?_)
            clear hK K
            refine norm_ (a' := ?_) ?_ ?_
            rotate_left
            · show Act.put _ (some 49) _ = _
              simp only [Act.put, List.setIfInBounds_toArray, List.set_cons_zero, List.set_cons_succ, i64_w, i32_w]
              rfl
            refine one_ (i := 3) (N := some 51) #[true, true, true, true, true, true, false, false] rfl rfl (one_of HT_.out (by kernel_rfl)) (by decide) (fun K hK => ?_)
            refine goes_ Try.func23 (by kernel_rfl) rfl #[.pointer (some ⟨g, 0, none⟩)] (by rfl) rfl rfl (by (try simp only [List.map_toArray, List.map_cons, List.map_nil]); first | done | rfl | (simp only [List.length_drop, List.length_take]; rfl)) ?_
            with_reducible refine (kauditmill_Case_Rotation.calls g s0_0 t158 t159 t160 t161 t162 w0 _ ?side1 ?side2 A73.out).mono ?_
            (case side1 => repeat (first | (with_reducible first | exact HI0.out | apply IsS54.alloc | apply IsS54.drewN | apply IsS54.drew | apply IsS54.set_1 | refine IsS54.far ?_ NB0_125.out _ | refine IsS54.far ?_ NB0_141.out _ | refine IsS54.far ?_ NB0_146.out _) | exact HI0.out))
            (case side2 => repeat (first | (with_reducible first | exact HB.out | apply below_alloc | apply pw_below_drewN | apply below_drew1 | refine below_set ?_ (IsS54.ge HI0.out) | refine below_set ?_ GE125.out | refine below_set ?_ GE141.out | refine below_set ?_ GE146.out) | exact HB.out))
            rintro e w76 ⟨rfl, hi, hb, hk⟩
            refine ⟨_, rfl, ?_⟩
            have n0_ := Aside0.mk (KeepBut.blk hk (g' := gb125) (o := .cells #[.int .u64 0, .int .u64 0, .int .i64 0, .int .i64 0, .int .i64 0, .int .i64 0, .int .i64 0, .int .i64 0, .int .i64 0, .int .i64 0, .int .i64 0, .int .i64 0, .int .i64 0] 35 (0, 0)) (by (with_reducible repeat (first | refine blk_drewN ?_ _ | refine blk_drew ?_ | refine blk_alloc ?_ _)); exact BK125.out) NB125_0.out (by simp))
            have n1_ := Aside0.mk (KeepBut.blk hk (g' := gb141) (o := .cells #[.int .i64 t129, .int .i64 (wrap64 (Int.tdiv (wrap64 (t129 * t131)) 2)), .int .i64 x142002_8, .int .i64 x142003_8, .int .i64 (wrap64 (1 + t137)), .int .i64 (wrap64 (1 + t139))] 24 (0, 0)) (by (with_reducible repeat (first | refine blk_drewN ?_ _ | refine blk_drew ?_ | refine blk_alloc ?_ _)); exact BK141.out) NB141_0.out (by simp))
            have n2_ := Aside0.mk (KeepBut.blk hk (g' := gb146) (o := .cells #[.int .i64 (wrap64 (1 + t144)), .int .i64 0] 33 (0, 0)) (by (with_reducible repeat (first | refine blk_drewN ?_ _ | refine blk_drew ?_ | refine blk_alloc ?_ _)); exact BK146.out) NB146_0.out (by simp))
            have n3_ := Aside0.mk (KeepBut.trans (by repeat (first | (with_reducible first | exact HK.out | apply KeepBut.set_ | apply keep_drewN | apply keep_drew | apply keep_alloc | refine keep_far ?_ GW125.out _ | refine keep_far ?_ GW141.out _ | refine keep_far ?_ GW146.out _) | exact HK.out)) hk (.inl rfl))
            have n4_ := Aside0.mk (hb)
            have n5_ := Aside0.mk (hi)
            clear BK125
            clear BK141
            clear BK146
            clear HK
            clear HB
            clear HI0
            have BK125 := n0_
            have BK141 := n1_
            have BK146 := n2_
            have HK := n3_
            have HB := n4_
            have HI0 := n5_
            clear n0_ n1_ n2_ n3_ n4_ n5_
            (try clear hb)
            (try clear hb2)
            (try clear hk)
            (try clear hi)
            refine hK.out _ _ ⟨(blk_cell BK141.out 0).trans rfl, (blk_cell BK141.out 1).trans rfl, (blk_cell BK141.out 2).trans rfl, (blk_cell BK141.out 3).trans rfl, (blk_cell BK141.out 4).trans rfl, (blk_cell BK141.out 5).trans rfl, (blk_cell BK146.out 0).trans rfl, (blk_cell BK146.out 1).trans rfl⟩ (fun hHeld => ?_)
            clear hK K
            refine norm_ (a' := ?_) ?_ ?_
            rotate_left
            · show Act.put _ (some 51) _ = _
              simp only [Act.put, List.setIfInBounds_toArray, List.set_cons_zero, List.set_cons_succ, i64_w, i32_w]
              rfl
            refine pure_ (i := 6) (N := some 54) (v := ?_) (a' := ?_) #[true, true, true, true, true, true, true, false] rfl rfl (any_of HT_.out (by kernel_rfl)) (fun _ _ _ h => h) (Or.inl ⟨by rfl, ?_⟩) ?_ ?_
            rotate_left
            · intro w'
              go_simp
              with_reducible rfl
            rotate_left
            · simp only [Act.put, List.setIfInBounds_toArray, List.set_cons_zero, List.set_cons_succ, i64_w, i32_w]
              rfl
            refine one_ (i := 7) (N := none) #[true, true, true, true, true, true, true, true] rfl rfl (one_of HT_.out (by kernel_rfl)) (by decide) (fun K hK => ?_)
            have hs77 : w76.cell? ⟨gb125, 0, none⟩ = some (.int .u64 0) := (blk_cell BK125.out 0).trans rfl
            have hfs77 := blk_frozen BK125.out 0
            have hns77_1 := NB141_125.out
            have hns77_2 := NB146_125.out
            have hms77_1 := NB125_141.out
            have hms77_2 := NB125_146.out
            have hs78 : w76.cell? ⟨gb125, 1, none⟩ = some (.int .u64 0) := (blk_cell BK125.out 1).trans rfl
            have hfs78 := blk_frozen BK125.out 1
            have hns78_1 := NB141_125.out
            have hns78_2 := NB146_125.out
            have hms78_1 := NB125_141.out
            have hms78_2 := NB125_146.out
            have hs79 : w76.cell? ⟨gb125, 2, none⟩ = some (.int .i64 0) := (blk_cell BK125.out 2).trans rfl
            have hfs79 := blk_frozen BK125.out 2
            have hns79_1 := NB141_125.out
            have hns79_2 := NB146_125.out
            have hms79_1 := NB125_141.out
            have hms79_2 := NB125_146.out
            have hs80 : w76.cell? ⟨gb125, 3, none⟩ = some (.int .i64 0) := (blk_cell BK125.out 3).trans rfl
            have hfs80 := blk_frozen BK125.out 3
            have hns80_1 := NB141_125.out
            have hns80_2 := NB146_125.out
            have hms80_1 := NB125_141.out
            have hms80_2 := NB125_146.out
            have hs81 : w76.cell? ⟨gb125, 4, none⟩ = some (.int .i64 0) := (blk_cell BK125.out 4).trans rfl
            have hfs81 := blk_frozen BK125.out 4
            have hns81_1 := NB141_125.out
            have hns81_2 := NB146_125.out
            have hms81_1 := NB125_141.out
            have hms81_2 := NB125_146.out
            have hs82 : w76.cell? ⟨gb125, 5, none⟩ = some (.int .i64 0) := (blk_cell BK125.out 5).trans rfl
            have hfs82 := blk_frozen BK125.out 5
            have hns82_1 := NB141_125.out
            have hns82_2 := NB146_125.out
            have hms82_1 := NB125_141.out
            have hms82_2 := NB125_146.out
            have hs83 : w76.cell? ⟨gb125, 6, none⟩ = some (.int .i64 0) := (blk_cell BK125.out 6).trans rfl
            have hfs83 := blk_frozen BK125.out 6
            have hns83_1 := NB141_125.out
            have hns83_2 := NB146_125.out
            have hms83_1 := NB125_141.out
            have hms83_2 := NB125_146.out
            have hs84 : w76.cell? ⟨gb125, 7, none⟩ = some (.int .i64 0) := (blk_cell BK125.out 7).trans rfl
            have hfs84 := blk_frozen BK125.out 7
            have hns84_1 := NB141_125.out
            have hns84_2 := NB146_125.out
            have hms84_1 := NB125_141.out
            have hms84_2 := NB125_146.out
            have hs85 : w76.cell? ⟨gb125, 8, none⟩ = some (.int .i64 0) := (blk_cell BK125.out 8).trans rfl
            have hfs85 := blk_frozen BK125.out 8
            have hns85_1 := NB141_125.out
            have hns85_2 := NB146_125.out
            have hms85_1 := NB125_141.out
            have hms85_2 := NB125_146.out
            have hs86 : w76.cell? ⟨gb125, 9, none⟩ = some (.int .i64 0) := (blk_cell BK125.out 9).trans rfl
            have hfs86 := blk_frozen BK125.out 9
            have hns86_1 := NB141_125.out
            have hns86_2 := NB146_125.out
            have hms86_1 := NB125_141.out
            have hms86_2 := NB125_146.out
            have hs87 : w76.cell? ⟨gb125, 10, none⟩ = some (.int .i64 0) := (blk_cell BK125.out 10).trans rfl
            have hfs87 := blk_frozen BK125.out 10
            have hns87_1 := NB141_125.out
            have hns87_2 := NB146_125.out
            have hms87_1 := NB125_141.out
            have hms87_2 := NB125_146.out
            have hs88 : w76.cell? ⟨gb125, 11, none⟩ = some (.int .i64 0) := (blk_cell BK125.out 11).trans rfl
            have hfs88 := blk_frozen BK125.out 11
            have hns88_1 := NB141_125.out
            have hns88_2 := NB146_125.out
            have hms88_1 := NB125_141.out
            have hms88_2 := NB125_146.out
            have hs89 : w76.cell? ⟨gb125, 12, none⟩ = some (.int .i64 0) := (blk_cell BK125.out 12).trans rfl
            have hfs89 := blk_frozen BK125.out 12
            have hns89_1 := NB141_125.out
            have hns89_2 := NB146_125.out
            have hms89_1 := NB125_141.out
            have hms89_2 := NB125_146.out
            refine skip_ (w1 := ?_) (by rfl) rfl ?_ ?_
            rotate_left
            · go_simp
              rfl
            refine hK.out _ _ ⟨((cell_far (p := ⟨gb125, _, none⟩) NB141_125.out _).trans (((cell_far (p := ⟨gb125, _, none⟩) NB141_125.out _).trans (((cell_far (p := ⟨gb125, _, none⟩) NB141_125.out _).trans (((cell_far (p := ⟨gb125, _, none⟩) NB141_125.out _).trans (((cell_far (p := ⟨gb125, _, none⟩) NB141_125.out _).trans (((cell_far (p := ⟨gb125, _, none⟩) NB141_125.out _).trans (((cell_far (p := ⟨gb125, _, none⟩) NB141_125.out _).trans (((cell_far (p := ⟨gb125, _, none⟩) NB141_125.out _).trans (((cell_far (p := ⟨gb125, _, none⟩) NB141_125.out _).trans (((cell_far (p := ⟨gb125, _, none⟩) NB141_125.out _).trans (((cell_far (p := ⟨gb125, _, none⟩) NB141_125.out _).trans (((cell_far (p := ⟨gb125, _, none⟩) NB141_125.out _).trans (((cell_far (p := ⟨gb125, _, none⟩) NB141_125.out _).trans (hHeld.1)))))))))))))))))))))))))), ((cell_far (p := ⟨gb125, _, none⟩) NB141_125.out _).trans (((cell_far (p := ⟨gb125, _, none⟩) NB141_125.out _).trans (((cell_far (p := ⟨gb125, _, none⟩) NB141_125.out _).trans (((cell_far (p := ⟨gb125, _, none⟩) NB141_125.out _).trans (((cell_far (p := ⟨gb125, _, none⟩) NB141_125.out _).trans (((cell_far (p := ⟨gb125, _, none⟩) NB141_125.out _).trans (((cell_far (p := ⟨gb125, _, none⟩) NB141_125.out _).trans (((cell_far (p := ⟨gb125, _, none⟩) NB141_125.out _).trans (((cell_far (p := ⟨gb125, _, none⟩) NB141_125.out _).trans (((cell_far (p := ⟨gb125, _, none⟩) NB141_125.out _).trans (((cell_far (p := ⟨gb125, _, none⟩) NB141_125.out _).trans (((cell_far (p := ⟨gb125, _, none⟩) NB141_125.out _).trans (((cell_far (p := ⟨gb125, _, none⟩) NB141_125.out _).trans (hHeld.2.1)))))))))))))))))))))))))), ((cell_far (p := ⟨gb125, _, none⟩) NB141_125.out _).trans (((cell_far (p := ⟨gb125, _, none⟩) NB141_125.out _).trans (((cell_far (p := ⟨gb125, _, none⟩) NB141_125.out _).trans (((cell_far (p := ⟨gb125, _, none⟩) NB141_125.out _).trans (((cell_far (p := ⟨gb125, _, none⟩) NB141_125.out _).trans (((cell_far (p := ⟨gb125, _, none⟩) NB141_125.out _).trans (((cell_far (p := ⟨gb125, _, none⟩) NB141_125.out _).trans (((cell_far (p := ⟨gb125, _, none⟩) NB141_125.out _).trans (((cell_far (p := ⟨gb125, _, none⟩) NB141_125.out _).trans (((cell_far (p := ⟨gb125, _, none⟩) NB141_125.out _).trans (((cell_far (p := ⟨gb125, _, none⟩) NB141_125.out _).trans (((cell_far (p := ⟨gb125, _, none⟩) NB141_125.out _).trans (((cell_far (p := ⟨gb125, _, none⟩) NB141_125.out _).trans (hHeld.2.2.1)))))))))))))))))))))))))), ((cell_far (p := ⟨gb125, _, none⟩) NB141_125.out _).trans (((cell_far (p := ⟨gb125, _, none⟩) NB141_125.out _).trans (((cell_far (p := ⟨gb125, _, none⟩) NB141_125.out _).trans (((cell_far (p := ⟨gb125, _, none⟩) NB141_125.out _).trans (((cell_far (p := ⟨gb125, _, none⟩) NB141_125.out _).trans (((cell_far (p := ⟨gb125, _, none⟩) NB141_125.out _).trans (((cell_far (p := ⟨gb125, _, none⟩) NB141_125.out _).trans (((cell_far (p := ⟨gb125, _, none⟩) NB141_125.out _).trans (((cell_far (p := ⟨gb125, _, none⟩) NB141_125.out _).trans (((cell_far (p := ⟨gb125, _, none⟩) NB141_125.out _).trans (((cell_far (p := ⟨gb125, _, none⟩) NB141_125.out _).trans (((cell_far (p := ⟨gb125, _, none⟩) NB141_125.out _).trans (((cell_far (p := ⟨gb125, _, none⟩) NB141_125.out _).trans (hHeld.2.2.2.1)))))))))))))))))))))))))), ((cell_far (p := ⟨gb125, _, none⟩) NB141_125.out _).trans (((cell_far (p := ⟨gb125, _, none⟩) NB141_125.out _).trans (((cell_far (p := ⟨gb125, _, none⟩) NB141_125.out _).trans (((cell_far (p := ⟨gb125, _, none⟩) NB141_125.out _).trans (((cell_far (p := ⟨gb125, _, none⟩) NB141_125.out _).trans (((cell_far (p := ⟨gb125, _, none⟩) NB141_125.out _).trans (((cell_far (p := ⟨gb125, _, none⟩) NB141_125.out _).trans (((cell_far (p := ⟨gb125, _, none⟩) NB141_125.out _).trans (((cell_far (p := ⟨gb125, _, none⟩) NB141_125.out _).trans (((cell_far (p := ⟨gb125, _, none⟩) NB141_125.out _).trans (((cell_far (p := ⟨gb125, _, none⟩) NB141_125.out _).trans (((cell_far (p := ⟨gb125, _, none⟩) NB141_125.out _).trans (((cell_far (p := ⟨gb125, _, none⟩) NB141_125.out _).trans (hHeld.2.2.2.2.1)))))))))))))))))))))))))), ((cell_far (p := ⟨gb125, _, none⟩) NB141_125.out _).trans (((cell_far (p := ⟨gb125, _, none⟩) NB141_125.out _).trans (((cell_far (p := ⟨gb125, _, none⟩) NB141_125.out _).trans (((cell_far (p := ⟨gb125, _, none⟩) NB141_125.out _).trans (((cell_far (p := ⟨gb125, _, none⟩) NB141_125.out _).trans (((cell_far (p := ⟨gb125, _, none⟩) NB141_125.out _).trans (((cell_far (p := ⟨gb125, _, none⟩) NB141_125.out _).trans (((cell_far (p := ⟨gb125, _, none⟩) NB141_125.out _).trans (((cell_far (p := ⟨gb125, _, none⟩) NB141_125.out _).trans (((cell_far (p := ⟨gb125, _, none⟩) NB141_125.out _).trans (((cell_far (p := ⟨gb125, _, none⟩) NB141_125.out _).trans (((cell_far (p := ⟨gb125, _, none⟩) NB141_125.out _).trans (((cell_far (p := ⟨gb125, _, none⟩) NB141_125.out _).trans (hHeld.2.2.2.2.2.1)))))))))))))))))))))))))), ((cell_far (p := ⟨gb125, _, none⟩) NB146_125.out _).trans (((cell_far (p := ⟨gb125, _, none⟩) NB146_125.out _).trans (((cell_far (p := ⟨gb125, _, none⟩) NB146_125.out _).trans (((cell_far (p := ⟨gb125, _, none⟩) NB146_125.out _).trans (((cell_far (p := ⟨gb125, _, none⟩) NB146_125.out _).trans (((cell_far (p := ⟨gb125, _, none⟩) NB146_125.out _).trans (((cell_far (p := ⟨gb125, _, none⟩) NB146_125.out _).trans (((cell_far (p := ⟨gb125, _, none⟩) NB146_125.out _).trans (((cell_far (p := ⟨gb125, _, none⟩) NB146_125.out _).trans (((cell_far (p := ⟨gb125, _, none⟩) NB146_125.out _).trans (((cell_far (p := ⟨gb125, _, none⟩) NB146_125.out _).trans (((cell_far (p := ⟨gb125, _, none⟩) NB146_125.out _).trans (((cell_far (p := ⟨gb125, _, none⟩) NB146_125.out _).trans (hHeld.2.2.2.2.2.2.1)))))))))))))))))))))))))), ((cell_far (p := ⟨gb125, _, none⟩) NB146_125.out _).trans (((cell_far (p := ⟨gb125, _, none⟩) NB146_125.out _).trans (((cell_far (p := ⟨gb125, _, none⟩) NB146_125.out _).trans (((cell_far (p := ⟨gb125, _, none⟩) NB146_125.out _).trans (((cell_far (p := ⟨gb125, _, none⟩) NB146_125.out _).trans (((cell_far (p := ⟨gb125, _, none⟩) NB146_125.out _).trans (((cell_far (p := ⟨gb125, _, none⟩) NB146_125.out _).trans (((cell_far (p := ⟨gb125, _, none⟩) NB146_125.out _).trans (((cell_far (p := ⟨gb125, _, none⟩) NB146_125.out _).trans (((cell_far (p := ⟨gb125, _, none⟩) NB146_125.out _).trans (((cell_far (p := ⟨gb125, _, none⟩) NB146_125.out _).trans (((cell_far (p := ⟨gb125, _, none⟩) NB146_125.out _).trans (((cell_far (p := ⟨gb125, _, none⟩) NB146_125.out _).trans (hHeld.2.2.2.2.2.2.2))))))))))))))))))))))))))⟩ (fun hHeld => ?_)
            clear hK K
            refine done_ (done_of HT_.out (by kernel_rfl)) ?_
            try go_wp2
            refine bodyPost_ret (results_cell_row rfl _ _ gb125 35 #[.int .u64 t156, .int .u64 t157, .int .i64 t159, .int .i64 t160, .int .i64 t161, .int .i64 t129, .int .i64 (wrap64 (Int.tdiv (wrap64 (t129 * t131)) 2)), .int .i64 x142002_8, .int .i64 x142003_8, .int .i64 (wrap64 (1 + t137)), .int .i64 (wrap64 (1 + t139)), .int .i64 (wrap64 (1 + t144)), .int .i64 0] (0, 0) _ rfl (by (with_reducible repeat (first | refine blk_drewN ?_ _ | refine blk_drew ?_ | refine blk_alloc ?_ _)); refine blk_put (cs := #[.int .u64 t156, .int .u64 t157, .int .i64 t159, .int .i64 t160, .int .i64 t161, .int .i64 t129, .int .i64 (wrap64 (Int.tdiv (wrap64 (t129 * t131)) 2)), .int .i64 x142002_8, .int .i64 x142003_8, .int .i64 (wrap64 (1 + t137)), .int .i64 (wrap64 (1 + t139)), .int .i64 (wrap64 (1 + t144)), .int .i64 0]) ?_ 12 _ rfl; (with_reducible repeat (first | refine blk_drewN ?_ _ | refine blk_drew ?_ | refine blk_alloc ?_ _)); refine blk_put (cs := #[.int .u64 t156, .int .u64 t157, .int .i64 t159, .int .i64 t160, .int .i64 t161, .int .i64 t129, .int .i64 (wrap64 (Int.tdiv (wrap64 (t129 * t131)) 2)), .int .i64 x142002_8, .int .i64 x142003_8, .int .i64 (wrap64 (1 + t137)), .int .i64 (wrap64 (1 + t139)), .int .i64 0, .int .i64 0]) ?_ 11 _ rfl; (with_reducible repeat (first | refine blk_drewN ?_ _ | refine blk_drew ?_ | refine blk_alloc ?_ _)); refine blk_put (cs := #[.int .u64 t156, .int .u64 t157, .int .i64 t159, .int .i64 t160, .int .i64 t161, .int .i64 t129, .int .i64 (wrap64 (Int.tdiv (wrap64 (t129 * t131)) 2)), .int .i64 x142002_8, .int .i64 x142003_8, .int .i64 (wrap64 (1 + t137)), .int .i64 0, .int .i64 0, .int .i64 0]) ?_ 10 _ rfl; (with_reducible repeat (first | refine blk_drewN ?_ _ | refine blk_drew ?_ | refine blk_alloc ?_ _)); refine blk_put (cs := #[.int .u64 t156, .int .u64 t157, .int .i64 t159, .int .i64 t160, .int .i64 t161, .int .i64 t129, .int .i64 (wrap64 (Int.tdiv (wrap64 (t129 * t131)) 2)), .int .i64 x142002_8, .int .i64 x142003_8, .int .i64 0, .int .i64 0, .int .i64 0, .int .i64 0]) ?_ 9 _ rfl; (with_reducible repeat (first | refine blk_drewN ?_ _ | refine blk_drew ?_ | refine blk_alloc ?_ _)); refine blk_put (cs := #[.int .u64 t156, .int .u64 t157, .int .i64 t159, .int .i64 t160, .int .i64 t161, .int .i64 t129, .int .i64 (wrap64 (Int.tdiv (wrap64 (t129 * t131)) 2)), .int .i64 x142002_8, .int .i64 0, .int .i64 0, .int .i64 0, .int .i64 0, .int .i64 0]) ?_ 8 _ rfl; (with_reducible repeat (first | refine blk_drewN ?_ _ | refine blk_drew ?_ | refine blk_alloc ?_ _)); refine blk_put (cs := #[.int .u64 t156, .int .u64 t157, .int .i64 t159, .int .i64 t160, .int .i64 t161, .int .i64 t129, .int .i64 (wrap64 (Int.tdiv (wrap64 (t129 * t131)) 2)), .int .i64 0, .int .i64 0, .int .i64 0, .int .i64 0, .int .i64 0, .int .i64 0]) ?_ 7 _ rfl; (with_reducible repeat (first | refine blk_drewN ?_ _ | refine blk_drew ?_ | refine blk_alloc ?_ _)); refine blk_put (cs := #[.int .u64 t156, .int .u64 t157, .int .i64 t159, .int .i64 t160, .int .i64 t161, .int .i64 t129, .int .i64 0, .int .i64 0, .int .i64 0, .int .i64 0, .int .i64 0, .int .i64 0, .int .i64 0]) ?_ 6 _ rfl; (with_reducible repeat (first | refine blk_drewN ?_ _ | refine blk_drew ?_ | refine blk_alloc ?_ _)); refine blk_put (cs := #[.int .u64 t156, .int .u64 t157, .int .i64 t159, .int .i64 t160, .int .i64 t161, .int .i64 0, .int .i64 0, .int .i64 0, .int .i64 0, .int .i64 0, .int .i64 0, .int .i64 0, .int .i64 0]) ?_ 5 _ rfl; (with_reducible repeat (first | refine blk_drewN ?_ _ | refine blk_drew ?_ | refine blk_alloc ?_ _)); refine blk_put (cs := #[.int .u64 t156, .int .u64 t157, .int .i64 t159, .int .i64 t160, .int .i64 0, .int .i64 0, .int .i64 0, .int .i64 0, .int .i64 0, .int .i64 0, .int .i64 0, .int .i64 0, .int .i64 0]) ?_ 4 _ rfl; (with_reducible repeat (first | refine blk_drewN ?_ _ | refine blk_drew ?_ | refine blk_alloc ?_ _)); refine blk_put (cs := #[.int .u64 t156, .int .u64 t157, .int .i64 t159, .int .i64 0, .int .i64 0, .int .i64 0, .int .i64 0, .int .i64 0, .int .i64 0, .int .i64 0, .int .i64 0, .int .i64 0, .int .i64 0]) ?_ 3 _ rfl; (with_reducible repeat (first | refine blk_drewN ?_ _ | refine blk_drew ?_ | refine blk_alloc ?_ _)); refine blk_put (cs := #[.int .u64 t156, .int .u64 t157, .int .i64 0, .int .i64 0, .int .i64 0, .int .i64 0, .int .i64 0, .int .i64 0, .int .i64 0, .int .i64 0, .int .i64 0, .int .i64 0, .int .i64 0]) ?_ 2 _ rfl; (with_reducible repeat (first | refine blk_drewN ?_ _ | refine blk_drew ?_ | refine blk_alloc ?_ _)); refine blk_put (cs := #[.int .u64 t156, .int .u64 0, .int .i64 0, .int .i64 0, .int .i64 0, .int .i64 0, .int .i64 0, .int .i64 0, .int .i64 0, .int .i64 0, .int .i64 0, .int .i64 0, .int .i64 0]) ?_ 1 _ rfl; (with_reducible repeat (first | refine blk_drewN ?_ _ | refine blk_drew ?_ | refine blk_alloc ?_ _)); refine blk_put (cs := #[.int .u64 0, .int .u64 0, .int .i64 0, .int .i64 0, .int .i64 0, .int .i64 0, .int .i64 0, .int .i64 0, .int .i64 0, .int .i64 0, .int .i64 0, .int .i64 0, .int .i64 0]) ?_ 0 _ rfl; (with_reducible repeat (first | refine blk_drewN ?_ _ | refine blk_drew ?_ | refine blk_alloc ?_ _)); exact BK125.out) Try.underlying35 rfl (by kernel_rfl)) rfl ?_
            exact ⟨by first | rfl | (simp [errW_none, errW_some] <;> rfl) | (simp [*, errW_none, errW_some] <;> rfl), by repeat (first | (with_reducible first | exact HI0.out | apply IsS54.alloc | apply IsS54.drewN | apply IsS54.drew | apply IsS54.set_1 | refine IsS54.far ?_ NB0_125.out _ | refine IsS54.far ?_ NB0_141.out _ | refine IsS54.far ?_ NB0_146.out _) | exact HI0.out), by repeat (first | (with_reducible first | exact HB.out | apply below_alloc | apply pw_below_drewN | apply below_drew1 | refine below_set ?_ (IsS54.ge HI0.out) | refine below_set ?_ GE125.out | refine below_set ?_ GE141.out | refine below_set ?_ GE146.out) | exact HB.out), by repeat (first | (with_reducible first | exact HK.out | apply KeepBut.set_ | apply keep_drewN | apply keep_drew | apply keep_alloc | refine keep_far ?_ GW125.out _ | refine keep_far ?_ GW141.out _ | refine keep_far ?_ GW146.out _) | exact HK.out)⟩

end Go.Proofs.Ytlojfepfnmoclaa.PAll
