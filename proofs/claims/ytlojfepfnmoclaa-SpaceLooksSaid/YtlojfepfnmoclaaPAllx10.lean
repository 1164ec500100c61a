-- Written by a program of this place's prover (wip/turn_print.py): not by hand.
import Derived.Test.YtlojfepfnmoclaaPAllx0
namespace Go.Proofs.Ytlojfepfnmoclaa.PAll
open Go.RowKit Go.Proofs.YtlojfepfnmoclaaW.PrintWords Go.Proofs.YtlojfepfnmoclaaW.PrintLast Go.Proofs.YtlojfepfnmoclaaW.PrintMore
attribute [local go_sem] max2_int min2_int max_two min_two max_three min_three max_four min_four   -- for this text's walks alone
set_option linter.unusedVariables false
set_option linter.unusedSimpArgs false

/-! ### kauditref26_SpaceValid: function 16 -/
def kauditref26_SpaceValid.l0 : Nat → List Int → Int → Int → Int → Int → Int → Int → Int → Int → Option (Bool)
  | 0, _, _, _, _, _, _, _, _, _ => none
  | k + 1, x13, x14, x15, x168000, x168001, x168002, x168003, x168004, x168005 => if x15 < x14 then (if 0 ≤ x15 then (if x15 < (x13.length : Int) then (if (rd x13 x15) < 1 then (some false) else (if (rd x13 x15) > 5 then (some false) else (kauditref26_SpaceValid.l0 k x13 x14 (wrap64 (x15 + 1)) x168000 x168001 x168002 x168003 x168004 x168005))) else (none)) else (none)) else (if x168001 ≥ 0 then (if x168001 ≤ x168000 then (some (decide (x168000 ≤ 1048576))) else (some false)) else (some false))
def kauditref26_SpaceValid.f (k : Nat) (a0_0 : Int) (a0_1 : Int) (a0_2 : Int) (a0_3 : Int) (a0_4 : Int) (a0_5 : Int) : Option (Bool) := (some (([a0_2, a0_3, a0_4, a0_5] : List Int) : List Int)).bind fun y168 => (kauditref26_SpaceValid.l0 k y168 (y168.length : Int) 0 a0_0 a0_1 a0_2 a0_3 a0_4 a0_5)
theorem kauditref26_SpaceValid.mono_l : ∀ k, (∀ y0 y1 y2 y3 y4 y5 y6 y7 y8, LeO (kauditref26_SpaceValid.l0 k y0 y1 y2 y3 y4 y5 y6 y7 y8) (kauditref26_SpaceValid.l0 (k + 1) y0 y1 y2 y3 y4 y5 y6 y7 y8))
  | 0 => fun _ _ _ _ _ _ _ _ _ r h => by simp [kauditref26_SpaceValid.l0] at h
  | k + 1 => by
    have ih0 := kauditref26_SpaceValid.mono_l k
    · intro y0 y1 y2 y3 y4 y5 y6 y7 y8
      unfold kauditref26_SpaceValid.l0
      repeat' first
      | (with_reducible exact ih0 _ _ _ _ _ _ _ _ _)
      | (with_reducible exact LeO.refl _)
      | (with_reducible exact LeO.none _)
      | (with_reducible refine LeO.ite ?_ ?_)
      | (with_reducible refine LeO.bind ?_ (fun _ => ?_))
      | exact ih0 _ _ _ _ _ _ _ _ _
      | exact LeO.none _
      | refine LeO.ite ?_ ?_
      | refine LeO.bind ?_ (fun _ => ?_)
theorem kauditref26_SpaceValid.mono : ∀ a0 a1 a2 a3 a4 a5 k, LeO (kauditref26_SpaceValid.f k a0 a1 a2 a3 a4 a5) (kauditref26_SpaceValid.f (k + 1) a0 a1 a2 a3 a4 a5) := by
  intro a0 a1 a2 a3 a4 a5 k
  have ih0 := kauditref26_SpaceValid.mono_l k
  unfold kauditref26_SpaceValid.f
  repeat' first
      | (with_reducible exact ih0 _ _ _ _ _ _ _ _ _)
      | (with_reducible exact LeO.refl _)
      | (with_reducible exact LeO.none _)
      | (with_reducible refine LeO.ite ?_ ?_)
      | (with_reducible refine LeO.bind ?_ (fun _ => ?_))
      | exact ih0 _ _ _ _ _ _ _ _ _
      | exact LeO.none _
      | refine LeO.ite ?_ ?_
      | refine LeO.bind ?_ (fun _ => ?_)
set_option maxHeartbeats 8000000 in
set_option maxRecDepth 100000 in
theorem kauditref26_SpaceValid.calls (k : Nat) (a0_0 : Int) (a0_1 : Int) (a0_2 : Int) (a0_3 : Int) (a0_4 : Int) (a0_5 : Int) (r : Bool) (w : World) (h : kauditref26_SpaceValid.f k a0_0 a0_1 a0_2 a0_3 a0_4 a0_5 = some r) :
    Calls Try.prog 16 #[.agg #[.int .i64 a0_0, .int .i64 a0_1, .int .i64 a0_2, .int .i64 a0_3, .int .i64 a0_4, .int .i64 a0_5]] w fun e w' => e = .returned (.bool r) ∧ Below w.heap.size w w' := by
  have hu24 := Try.underlying24
  have HB := Aside0.mk (Below.refl w.heap.size w)
  have H : ((some (([a0_2, a0_3, a0_4, a0_5] : List Int) : List Int)).bind fun y168 => (kauditref26_SpaceValid.l0 k y168 (y168.length : Int) 0 a0_0 a0_1 a0_2 a0_3 a0_4 a0_5)) = some r := h
  clear h
  obtain ⟨y168, hy168⟩ : ∃ y_ : List Int, y_ = (([a0_2, a0_3, a0_4, a0_5] : List Int)) := ⟨_, rfl⟩
  replace H : (kauditref26_SpaceValid.l0 k y168 (y168.length : Int) 0 a0_0 a0_1 a0_2 a0_3 a0_4 a0_5) = some r := by first | (rw [hy168]; with_reducible exact H) | (have H2_ := (Option.bind_some _ _).symm.trans H; rw [hy168]; with_reducible exact H2_) | (have H2_ := (Option.bind_some _ _).symm.trans H; with_reducible exact H2_) | with_reducible exact H | (rw [hy168]; exact H) | exact H
  have Ny168 := Aside0.mk hy168
  clear hy168
  have H' := Aside0.mk H
  clear H
  go_enter Try.func16, Try.ntmps16
  go_wp2_with (first | ((with_reducible refine gate_dst (N := 1) rfl ?_); refine box_event ?hg (N := 1) ?hd (cs := #[.int .i64 a0_0, .int .i64 a0_1, .int .i64 a0_2, .int .i64 a0_3, .int .i64 a0_4, .int .i64 a0_5]) (t := 24) ?hr ?_; (case hd => rfl); (case hg => rfl); (case hr => first | (go_simp; done) | (go_simp; rfl)); intro gb167 hg w2 hbox hb; have n0_ := Aside0.mk (below_step (by repeat (first | (with_reducible first | exact HB.out | apply below_alloc | apply pw_below_drewN | apply below_drew1) | exact HB.out)) hb); have n1_ := Aside0.mk (hbox); have n2_ := Aside0.mk ((by rw [hg]; exact (below_size (by repeat (first | (with_reducible first | exact HB.out | apply below_alloc | apply pw_below_drewN | apply below_drew1) | exact HB.out))) : w.heap.size ≤ gb167)); have n3_ := Aside0.mk ((by rw [hg]; exact (below_size (by repeat (first | (with_reducible first | exact HB.out | apply below_alloc | apply pw_below_drewN | apply below_drew1) | exact HB.out))) : w.heap.size ≤ gb167)); clear HB; have HB := n0_; have BK167 := n1_; have GW167 := n2_; have GE167 := n3_; clear n0_ n1_ n2_ n3_; clear hb hbox hg; have hcz3_0 : w2.cell? ⟨gb167, 0, none⟩ = some (.int .i64 a0_0) := (blk_cell BK167.out 0).trans rfl; have hcz3_1 : w2.cell? ⟨gb167, 1, none⟩ = some (.int .i64 a0_1) := (blk_cell BK167.out 1).trans rfl; have hcz3_2 : w2.cell? ⟨gb167, 2, none⟩ = some (.int .i64 a0_2) := (blk_cell BK167.out 2).trans rfl; have hcz3_3 : w2.cell? ⟨gb167, 3, none⟩ = some (.int .i64 a0_3) := (blk_cell BK167.out 3).trans rfl; have hcz3_4 : w2.cell? ⟨gb167, 4, none⟩ = some (.int .i64 a0_4) := (blk_cell BK167.out 4).trans rfl; have hcz3_5 : w2.cell? ⟨gb167, 5, none⟩ = some (.int .i64 a0_5) := (blk_cell BK167.out 5).trans rfl; have hfz3_0 := blk_frozen BK167.out 0; have hfz3_1 := blk_frozen BK167.out 1; have hfz3_2 := blk_frozen BK167.out 2; have hfz3_3 := blk_frozen BK167.out 3; have hfz3_4 := blk_frozen BK167.out 4; have hfz3_5 := blk_frozen BK167.out 5) | ((with_reducible refine gate_dst (N := 13) rfl ?_); refine Kd.R_lit (Kd.int .i64) _ 3 ?hg (N := 13) ?hd (xs := ([a0_2, a0_3, a0_4, a0_5] : List Int)) (inner := [.int .i64 a0_2, .int .i64 a0_3, .int .i64 a0_4, .int .i64 a0_5]) (ok := fun _ => True) (okp := fun _ => True) ?hr ?hp (fun _ hk => hk) trivial (Below.refl _ _) (Nat.le_refl _) (by simp) ?_; (case hd => rfl); (case hg => rfl); (case hr => first | (go_simp; done) | (go_simp; rfl)); (case hp => exact (Reps.one (show Kd.M (Kd.int .i64) _ _ _ a0_2 [.int .i64 a0_2] from rfl) (Reps.one (show Kd.M (Kd.int .i64) _ _ _ a0_3 [.int .i64 a0_3] from rfl) (Reps.one (show Kd.M (Kd.int .i64) _ _ _ a0_4 [.int .i64 a0_4] from rfl) (Reps.one (show Kd.M (Kd.int .i64) _ _ _ a0_5 [.int .i64 a0_5] from rfl) (Reps.none _ _)))))); intro v169 w4 ho5 hb hg_ hnew_; clear hg_ hnew_; (first | rw [← Ny168.out] at ho5 | (simp only [Int.reduceToNat] at ho5; rw [← Ny168.out] at ho5)); have n0_ := Aside0.mk (Kd.R_lower ho5 (below_size (by repeat (first | (with_reducible first | exact HB.out | apply below_alloc | apply pw_below_drewN | apply below_drew1 | refine below_set ?_ GE167.out) | exact HB.out)))); have n1_ := Aside0.mk (blk_below (g := gb167) (o := .cells #[.int .i64 a0_0, .int .i64 a0_1, .int .i64 a0_2, .int .i64 a0_3, .int .i64 a0_4, .int .i64 a0_5] 24 (0, 0)) (by (with_reducible repeat (first | refine blk_drewN ?_ _ | refine blk_drew ?_ | refine blk_alloc ?_ _)); exact BK167.out) hb); have n2_ := Aside0.mk (below_step (by repeat (first | (with_reducible first | exact HB.out | apply below_alloc | apply pw_below_drewN | apply below_drew1 | refine below_set ?_ GE167.out) | exact HB.out)) hb); clear BK167; clear HB; have HO170 := n0_; have BK167 := n1_; have HB := n2_; clear n0_ n1_ n2_; clear hb ho5; obtain ⟨Ao6, co6, eo6⟩ := Kd.R_slice HO170.out; subst eo6))
  go_loopg [15] k (fun kq v15 w' => ∃ (x15_1 : Int), v15 = .int .i64 x15_1 ∧ Aside0 (kauditref26_SpaceValid.l0 kq y168 (y168.length : Int) x15_1 a0_0 a0_1 a0_2 a0_3 a0_4 a0_5 = some r) ∧ Aside0 (kq ≤ k) ∧ Aside0 (Kd.R (Kd.int .i64) 3 w' w.heap.size (fun _ => True) (.slice Ao6 y168.length co6) y168) ∧ Aside0 (w'.heap[gb167]? = some (.cells #[.int .i64 a0_0, .int .i64 a0_1, .int .i64 a0_2, .int .i64 a0_3, .int .i64 a0_4, .int .i64 a0_5] 24 (0, 0))) ∧ Aside0 (Below w.heap.size w w'))
  case atStart => exact ⟨(0), (by first | rfl | (simp; done) | (simp [*]; done)), H', ⟨Nat.le_refl _⟩, ⟨by (with_reducible repeat (first | apply Kd.R_alloc | apply Kd.R_drewN | apply Kd.R_drew)); exact HO170.out⟩, ⟨by (with_reducible repeat (first | refine blk_drewN ?_ _ | refine blk_drew ?_ | refine blk_alloc ?_ _)); exact BK167.out⟩, ⟨by repeat (first | (with_reducible first | exact HB.out | apply below_alloc | apply pw_below_drewN | apply below_drew1 | refine below_set ?_ GE167.out) | exact HB.out)⟩⟩
  case round =>
    clear H'
    try clear c1
    try clear p2
    try clear hcz3_0
    try clear hcz3_1
    try clear hcz3_2
    try clear hcz3_3
    try clear hcz3_4
    try clear hcz3_5
    try clear hfz3_0
    try clear hfz3_1
    try clear hfz3_2
    try clear hfz3_3
    try clear hfz3_4
    try clear hfz3_5
    obtain ⟨x15_1, rfl, HA, HK1, HO_13, BK167, HB⟩ := hrel
    cases gk with
    | zero => exact absurd HA.out (by simp [kauditref26_SpaceValid.l0])
    | succ k1 =>
      have H := HA.out
      clear HA
      simp only [kauditref26_SpaceValid.l0] at H
      by_cases c7 : x15_1 < (y168.length : Int)
      · rw [if_pos c7] at H
        have c7b0 : decide (x15_1 < (y168.length : Int)) = true := decide_eq_true c7
        clear c7
        by_cases c8 : 0 ≤ x15_1
        · rw [if_pos c8] at H
          have c8b0 : decide (0 ≤ x15_1) = true := decide_eq_true c8
          clear c8
          by_cases c9 : x15_1 < (y168.length : Int)
          · rw [if_pos c9] at H
            have c9b0 : decide (x15_1 < (y168.length : Int)) = true := decide_eq_true c9
            clear c9
            by_cases c10 : (rd y168 x15_1) < 1
            · rw [if_pos c10] at H
              have c10b0 : decide ((rd y168 x15_1) < 1) = true := decide_eq_true c10
              clear c10
              obtain rfl := Option.some.inj H
              have p171 : 0 ≤ (x15_1 : Int) := of_decide_eq_true (by first | (with_reducible assumption) | assumption)
              have q171 : x15_1 < (y168.length : Int) := of_decide_eq_true (by first | (with_reducible assumption) | assumption)
              obtain ⟨ad171, e171, hx171_0⟩ := Kd.at_int (Kd.R_reads' HO_13.out).2.2 x15_1 p171 q171
              cases e171
              replace p171 := eq_true p171
              replace q171 := eq_true q171
              go_wp2
              go_ret
              exact ⟨by first | rfl | (simp [errW_none, errW_some] <;> rfl) | (simp [*, errW_none, errW_some] <;> rfl), by repeat (first | (with_reducible first | exact HB.out | apply below_alloc | apply pw_below_drewN | apply below_drew1 | refine below_set ?_ GE167.out) | exact HB.out)⟩
            · rw [if_neg c10] at H
              have c10b0 : decide ((rd y168 x15_1) < 1) = false := decide_eq_false c10
              clear c10
              by_cases c11 : (rd y168 x15_1) > 5
              · rw [if_pos c11] at H
                have c11b0 : decide (5 < (rd y168 x15_1)) = true := decide_eq_true c11
                clear c11
                obtain rfl := Option.some.inj H
                have p171 : 0 ≤ (x15_1 : Int) := of_decide_eq_true (by first | (with_reducible assumption) | assumption)
                have q171 : x15_1 < (y168.length : Int) := of_decide_eq_true (by first | (with_reducible assumption) | assumption)
                obtain ⟨ad171, e171, hx171_0⟩ := Kd.at_int (Kd.R_reads' HO_13.out).2.2 x15_1 p171 q171
                cases e171
                replace p171 := eq_true p171
                replace q171 := eq_true q171
                go_wp2
                go_ret
                exact ⟨by first | rfl | (simp [errW_none, errW_some] <;> rfl) | (simp [*, errW_none, errW_some] <;> rfl), by repeat (first | (with_reducible first | exact HB.out | apply below_alloc | apply pw_below_drewN | apply below_drew1 | refine below_set ?_ GE167.out) | exact HB.out)⟩
              · rw [if_neg c11] at H
                have c11b0 : decide (5 < (rd y168 x15_1)) = false := decide_eq_false c11
                clear c11
                have H' := Aside0.mk H
                clear H
                have p171 : 0 ≤ (x15_1 : Int) := of_decide_eq_true (by first | (with_reducible assumption) | assumption)
                have q171 : x15_1 < (y168.length : Int) := of_decide_eq_true (by first | (with_reducible assumption) | assumption)
                obtain ⟨ad171, e171, hx171_0⟩ := Kd.at_int (Kd.R_reads' HO_13.out).2.2 x15_1 p171 q171
                cases e171
                replace p171 := eq_true p171
                replace q171 := eq_true q171
                go_wp2
                go_roundg k1
                case measure => have := HK1.out; omega
                case rel => exact ⟨(wrap64 (x15_1 + 1)), (by first | rfl | (simp; done) | (simp [*]; done)), H', ⟨by have := HK1.out; omega⟩, ⟨by (with_reducible repeat (first | apply Kd.R_alloc | apply Kd.R_drewN | apply Kd.R_drew)); exact HO_13.out⟩, ⟨by (with_reducible repeat (first | refine blk_drewN ?_ _ | refine blk_drew ?_ | refine blk_alloc ?_ _)); exact BK167.out⟩, ⟨by repeat (first | (with_reducible first | exact HB.out | apply below_alloc | apply pw_below_drewN | apply below_drew1 | refine below_set ?_ GE167.out) | exact HB.out)⟩⟩
          · rw [if_neg c9] at H
            exact absurd H (by simp)
        · rw [if_neg c8] at H
          exact absurd H (by simp)
      · rw [if_neg c7] at H
        have c7b0 : decide (x15_1 < (y168.length : Int)) = false := decide_eq_false c7
        clear c7
        by_cases c12 : a0_1 ≥ 0
        · rw [if_pos c12] at H
          have c12b0 : decide (0 ≤ a0_1) = true := decide_eq_true c12
          clear c12
          by_cases c13 : a0_1 ≤ a0_0
          · rw [if_pos c13] at H
            have c13b0 : decide (a0_1 ≤ a0_0) = true := decide_eq_true c13
            clear c13
            obtain rfl := Option.some.inj H
            have hcz14_0 : wr.cell? ⟨gb167, 0, none⟩ = some (.int .i64 a0_0) := (blk_cell BK167.out 0).trans rfl
            have hcz14_1 : wr.cell? ⟨gb167, 1, none⟩ = some (.int .i64 a0_1) := (blk_cell BK167.out 1).trans rfl
            have hcz14_2 : wr.cell? ⟨gb167, 2, none⟩ = some (.int .i64 a0_2) := (blk_cell BK167.out 2).trans rfl
            have hcz14_3 : wr.cell? ⟨gb167, 3, none⟩ = some (.int .i64 a0_3) := (blk_cell BK167.out 3).trans rfl
            have hcz14_4 : wr.cell? ⟨gb167, 4, none⟩ = some (.int .i64 a0_4) := (blk_cell BK167.out 4).trans rfl
            have hcz14_5 : wr.cell? ⟨gb167, 5, none⟩ = some (.int .i64 a0_5) := (blk_cell BK167.out 5).trans rfl
            have hfz14_0 := blk_frozen BK167.out 0
            have hfz14_1 := blk_frozen BK167.out 1
            have hfz14_2 := blk_frozen BK167.out 2
            have hfz14_3 := blk_frozen BK167.out 3
            have hfz14_4 := blk_frozen BK167.out 4
            have hfz14_5 := blk_frozen BK167.out 5
            go_wp2
            go_ret
            exact ⟨by first | rfl | (simp [errW_none, errW_some] <;> rfl) | (simp [*, errW_none, errW_some] <;> rfl), by repeat (first | (with_reducible first | exact HB.out | apply below_alloc | apply pw_below_drewN | apply below_drew1 | refine below_set ?_ GE167.out) | exact HB.out)⟩
          · rw [if_neg c13] at H
            have c13b0 : decide (a0_1 ≤ a0_0) = false := decide_eq_false c13
            clear c13
            obtain rfl := Option.some.inj H
            have hcz15_0 : wr.cell? ⟨gb167, 0, none⟩ = some (.int .i64 a0_0) := (blk_cell BK167.out 0).trans rfl
            have hcz15_1 : wr.cell? ⟨gb167, 1, none⟩ = some (.int .i64 a0_1) := (blk_cell BK167.out 1).trans rfl
            have hcz15_2 : wr.cell? ⟨gb167, 2, none⟩ = some (.int .i64 a0_2) := (blk_cell BK167.out 2).trans rfl
            have hcz15_3 : wr.cell? ⟨gb167, 3, none⟩ = some (.int .i64 a0_3) := (blk_cell BK167.out 3).trans rfl
            have hcz15_4 : wr.cell? ⟨gb167, 4, none⟩ = some (.int .i64 a0_4) := (blk_cell BK167.out 4).trans rfl
            have hcz15_5 : wr.cell? ⟨gb167, 5, none⟩ = some (.int .i64 a0_5) := (blk_cell BK167.out 5).trans rfl
            have hfz15_0 := blk_frozen BK167.out 0
            have hfz15_1 := blk_frozen BK167.out 1
            have hfz15_2 := blk_frozen BK167.out 2
            have hfz15_3 := blk_frozen BK167.out 3
            have hfz15_4 := blk_frozen BK167.out 4
            have hfz15_5 := blk_frozen BK167.out 5
            go_wp2
            go_ret
            exact ⟨by first | rfl | (simp [errW_none, errW_some] <;> rfl) | (simp [*, errW_none, errW_some] <;> rfl), by repeat (first | (with_reducible first | exact HB.out | apply below_alloc | apply pw_below_drewN | apply below_drew1 | refine below_set ?_ GE167.out) | exact HB.out)⟩
        · rw [if_neg c12] at H
          have c12b0 : decide (0 ≤ a0_1) = false := decide_eq_false c12
          clear c12
          obtain rfl := Option.some.inj H
          have hcz16_0 : wr.cell? ⟨gb167, 0, none⟩ = some (.int .i64 a0_0) := (blk_cell BK167.out 0).trans rfl
          have hcz16_1 : wr.cell? ⟨gb167, 1, none⟩ = some (.int .i64 a0_1) := (blk_cell BK167.out 1).trans rfl
          have hcz16_2 : wr.cell? ⟨gb167, 2, none⟩ = some (.int .i64 a0_2) := (blk_cell BK167.out 2).trans rfl
          have hcz16_3 : wr.cell? ⟨gb167, 3, none⟩ = some (.int .i64 a0_3) := (blk_cell BK167.out 3).trans rfl
          have hcz16_4 : wr.cell? ⟨gb167, 4, none⟩ = some (.int .i64 a0_4) := (blk_cell BK167.out 4).trans rfl
          have hcz16_5 : wr.cell? ⟨gb167, 5, none⟩ = some (.int .i64 a0_5) := (blk_cell BK167.out 5).trans rfl
          have hfz16_0 := blk_frozen BK167.out 0
          have hfz16_1 := blk_frozen BK167.out 1
          have hfz16_2 := blk_frozen BK167.out 2
          have hfz16_3 := blk_frozen BK167.out 3
          have hfz16_4 := blk_frozen BK167.out 4
          have hfz16_5 := blk_frozen BK167.out 5
          go_wp2
          go_ret
          exact ⟨by first | rfl | (simp [errW_none, errW_some] <;> rfl) | (simp [*, errW_none, errW_some] <;> rfl), by repeat (first | (with_reducible first | exact HB.out | apply below_alloc | apply pw_below_drewN | apply below_drew1 | refine below_set ?_ GE167.out) | exact HB.out)⟩

end Go.Proofs.Ytlojfepfnmoclaa.PAll
