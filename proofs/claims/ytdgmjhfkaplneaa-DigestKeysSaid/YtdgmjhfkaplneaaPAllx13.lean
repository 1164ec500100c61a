-- Written by a program of this place's prover (wip/turn_print.py): not by hand.
import Derived.Test.YtdgmjhfkaplneaaPAllx0
import Derived.Test.YtdgmjhfkaplneaaHand
namespace Go.Proofs.Ytdgmjhfkaplneaa.PAll
open Go.RowKit Go.Proofs.YtdgmjhfkaplneaaW.PrintWords Go.Proofs.YtdgmjhfkaplneaaW.PrintLast Go.Proofs.YtdgmjhfkaplneaaW.PrintMore
attribute [local go_sem] max2_int min2_int max_two min_two max_three min_three max_four min_four   -- for this text's walks alone
set_option linter.unusedVariables false
set_option linter.unusedSimpArgs false

/-! ### kauditlaw23_begun: function 13 -/
def kauditlaw23_begun.l0 : Nat → List Int → Int → Option (Bool)
  | 0, _, _ => none
  | k + 1, x1, x2 => if x2 < 15 then (if x1.length < 140737488355328 then (kauditlaw23_begun.l0 k (x1 ++ [(x2) % 256]) (wrap64 (x2 + 1))) else (none)) else ((digest_Sum.f 506097522914230528 1084818905618843912 x1).bind fun t136 => (some (t136 == 11613035633349379557)))
def kauditlaw23_begun.f (k : Nat)  : Option (Bool) := kauditlaw23_begun.l0 k ([] : List Int) 0
theorem kauditlaw23_begun.mono_l : ∀ k, (∀ y0 y1, LeO (kauditlaw23_begun.l0 k y0 y1) (kauditlaw23_begun.l0 (k + 1) y0 y1))
  | 0 => fun _ _ r h => by simp [kauditlaw23_begun.l0] at h
  | k + 1 => by
    have ih0 := kauditlaw23_begun.mono_l k
    · intro y0 y1
      unfold kauditlaw23_begun.l0
      repeat' first
      | (with_reducible exact ih0 _ _)
      | (with_reducible exact LeO.refl _)
      | (with_reducible exact LeO.none _)
      | (with_reducible refine LeO.ite ?_ ?_)
      | (with_reducible refine LeO.bind ?_ (fun _ => ?_))
      | exact ih0 _ _
      | exact LeO.none _
      | refine LeO.ite ?_ ?_
      | refine LeO.bind ?_ (fun _ => ?_)
theorem kauditlaw23_begun.mono : ∀ k, LeO (kauditlaw23_begun.f k ) (kauditlaw23_begun.f (k + 1) ) := by
  intro  k
  have ih0 := kauditlaw23_begun.mono_l k
  unfold kauditlaw23_begun.f
  repeat' first
      | (with_reducible exact ih0 _ _)
      | (with_reducible exact LeO.refl _)
      | (with_reducible exact LeO.none _)
      | (with_reducible refine LeO.ite ?_ ?_)
      | (with_reducible refine LeO.bind ?_ (fun _ => ?_))
      | exact ih0 _ _
      | exact LeO.none _
      | refine LeO.ite ?_ ?_
      | refine LeO.bind ?_ (fun _ => ?_)
set_option maxHeartbeats 8000000 in
set_option maxRecDepth 100000 in
theorem kauditlaw23_begun.calls (k : Nat)  (r : Bool) (w : World) (h : kauditlaw23_begun.f k  = some r) :
    Calls Try.prog 13 #[] w fun e w' => e = .returned (.bool r) ∧ Below w.heap.size w w' := by
  have hu24 := Try.underlying24
  have HB := Aside0.mk (Below.refl w.heap.size w)
  have H : (kauditlaw23_begun.l0 k ([] : List Int) 0) = some r := h
  clear h
  have H' := Aside0.mk H
  clear H
  go_enter Try.func13, Try.ntmps13
  go_wp2
  (first | go_loopg [1, 2] k (fun kq v1 v2 w' => ∃ (x1_1 : List Int) (x2_1 : Int), v2 = .int .i64 x2_1 ∧ Aside0 (kauditlaw23_begun.l0 kq x1_1 x2_1 = some r) ∧ Aside0 (kq ≤ k) ∧ Aside0 (Kd.R (Kd.int .u8) 5 w' w.heap.size (fun _ => True) v1 x1_1) ∧ Aside0 (Below w.heap.size w w')) | (go_simp; go_loopg [1, 2] k (fun kq v1 v2 w' => ∃ (x1_1 : List Int) (x2_1 : Int), v2 = .int .i64 x2_1 ∧ Aside0 (kauditlaw23_begun.l0 kq x1_1 x2_1 = some r) ∧ Aside0 (kq ≤ k) ∧ Aside0 (Kd.R (Kd.int .u8) 5 w' w.heap.size (fun _ => True) v1 x1_1) ∧ Aside0 (Below w.heap.size w w'))))
  case atStart => exact ⟨(([] : List Int)), (0), (by first | rfl | (simp; done) | (simp [*]; done)), H', ⟨Nat.le_refl _⟩, ⟨by first | exact Kd.R_nil _ _ _ _ _ | exact Kd.N_nil _ _ _ _ _ | exact Kd.V_nil _ _ _ _ _ | exact Kd.Q_nil _ _ _ _ _ | exact Kd.S_nil _ _ _ _ _⟩, ⟨by repeat (first | (with_reducible first | exact HB.out | apply below_alloc | apply pw_below_drewN | apply below_drew1) | exact HB.out)⟩⟩
  case round =>
    clear H'
    obtain ⟨x1_1, x2_1, rfl, HA, HK1, HO_1, HB⟩ := hrel
    cases gk with
    | zero => exact absurd HA.out (by simp [kauditlaw23_begun.l0])
    | succ k1 =>
      have H := HA.out
      clear HA
      simp only [kauditlaw23_begun.l0] at H
      by_cases c1 : x2_1 < 15
      · rw [if_pos c1] at H
        have c1b0 : decide (x2_1 < 15) = true := decide_eq_true c1
        clear c1
        by_cases c2 : x1_1.length < 140737488355328
        · rw [if_pos c2] at H
          have LMc2 := Aside0.mk c2
          clear c2
          obtain ⟨y133, hy133⟩ : ∃ y_ : List Int, y_ = (x1_1 ++ [(x2_1) % 256]) := ⟨_, rfl⟩
          replace H : (kauditlaw23_begun.l0 k1 y133 (wrap64 (x2_1 + 1))) = some r := by first | (rw [hy133]; with_reducible exact H) | (have H2_ := (Option.bind_some _ _).symm.trans H; rw [hy133]; with_reducible exact H2_) | (have H2_ := (Option.bind_some _ _).symm.trans H; with_reducible exact H2_) | with_reducible exact H | (rw [hy133]; exact H) | exact H
          have Ny133 := Aside0.mk hy133
          clear hy133
          have H' := Aside0.mk H
          clear H
          go_wp2_with (first | ((with_reducible refine gate_builtin (b := .append) (xs := #[.tmp 7, .tmp 10]) rfl ?_); at_builtin; refine Kd.R_append (Kd.int .u8) (w0 := w) w.heap.size rfl (.tmp 7) (.tmp 10) 25 5 (.int .u8 0) 1 rfl Try.underlying25 info5 rfl (by decide) (by omega) u1 x1_1 ((x2_1) % 256) [.int .u8 ((x2_1) % 256)] (fun _ => True) (fun _ => False) rfl rfl ?aP (fun _ hk => hk.elim) ?aF ?aO ?aB ?aS ?aL ?_; (case aP => exact rfl); (case aB => exact (by repeat (first | (with_reducible first | exact HB.out | apply below_alloc | apply pw_below_drewN | apply below_drew1) | exact HB.out))); (case aF => exact (fun _ _ => trivial)); (case aO => exact (by (with_reducible repeat (first | apply Kd.R_alloc | apply Kd.R_drewN | apply Kd.R_drew)); exact HO_1.out)); (case aS => exact (below_size (by repeat (first | (with_reducible first | exact HB.out | apply below_alloc | apply pw_below_drewN | apply below_drew1) | exact HB.out)))); (case aL => have := LMc2.out; omega); intro v134 w3 ho hb hg hat; rw [← Ny133.out] at ho; have n0_ := Aside0.mk (hb); have n1_ := Aside0.mk (ho); clear HB; clear HO_1; have HB := n0_; have HO135 := n1_; clear n0_ n1_; clear ho hb hg hat))
          go_roundg k1
          case measure => have := HK1.out; omega
          case rel => exact ⟨(y133), (wrap64 (x2_1 + 1)), (by first | rfl | (simp; done) | (simp [*]; done)), H', ⟨by have := HK1.out; omega⟩, ⟨by (with_reducible repeat (first | apply Kd.R_alloc | apply Kd.R_drewN | apply Kd.R_drew)); exact HO135.out⟩, ⟨by repeat (first | (with_reducible first | exact HB.out | apply below_alloc | apply pw_below_drewN | apply below_drew1) | exact HB.out)⟩⟩
        · rw [if_neg c2] at H
          exact absurd H (by simp)
      · rw [if_neg c1] at H
        have c1b0 : decide (x2_1 < 15) = false := decide_eq_false c1
        clear c1
        replace H := Option.bind_eq_some_iff.mp H
        obtain ⟨t136, A40, H⟩ := H
        replace H : (some (t136 == 11613035633349379557)) = some r := H
        have A4 := Aside0.mk A40
        clear A40
        obtain rfl := Option.some.inj H
        obtain ⟨Ao5, co5, eo5⟩ := Kd.R_slice HO_1.out
        subst eo5
        go_wp2_with (first | ((with_reducible refine gate_callee (f := 9) rfl ?_); refine goesL_ (some 14) rfl rfl Try.func9 (by kernel_rfl) rfl #[.agg #[.int .u64 506097522914230528, .int .u64 1084818905618843912], .slice Ao5 x1_1.length co5] rfl (by (try simp only [List.map_toArray, List.map_cons, List.map_nil]); first | done | rfl | (simp only [List.length_drop, List.length_take]; rfl)) ?_; (with_reducible refine (digest_Sum.calls 506097522914230528 1084818905618843912 _ _ x1_1 t136 _ ?side1 ?side2 A4.out).mono ?_); (case side1 => repeat (first | exact (Kd.R_reads' HO_1.out).2.2 | (with_reducible refine Kd.C_alloc ?_ _) | (with_reducible refine Kd.C_drewN ?_ _) | (with_reducible refine Kd.C_drew ?_))); (case side2 => exact (Kd.R_reads' HO_1.out).2.1); rintro e w6 ⟨rfl, hb⟩; refine ⟨_, rfl, ?_⟩; have n0_ := Aside0.mk (Kd.R_below (by (with_reducible repeat (first | apply Kd.R_alloc | apply Kd.R_drewN | apply Kd.R_drew)); exact HO_1.out) hb); have n1_ := Aside0.mk (below_step (by repeat (first | (with_reducible first | exact HB.out | apply below_alloc | apply pw_below_drewN | apply below_drew1) | exact HB.out)) hb); clear HO_1; clear HB; have HO_1 := n0_; have HB := n1_; clear n0_ n1_; (try clear hb); (try clear hb2); (try clear hk); (try clear hi)))
        go_ret
        exact ⟨by first | rfl | (simp [errW_none, errW_some] <;> rfl) | (simp [*, errW_none, errW_some] <;> rfl), by repeat (first | (with_reducible first | exact HB.out | apply below_alloc | apply pw_below_drewN | apply below_drew1) | exact HB.out)⟩

end Go.Proofs.Ytdgmjhfkaplneaa.PAll
