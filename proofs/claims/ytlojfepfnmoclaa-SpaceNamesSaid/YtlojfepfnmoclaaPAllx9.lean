-- Written by a program of this place's prover (wip/turn_print.py): not by hand.
import Derived.Test.YtlojfepfnmoclaaPAllx0
import Derived.Test.YtlojfepfnmoclaaPAllx8
namespace Go.Proofs.Ytlojfepfnmoclaa.PAll
open Go.RowKit Go.Proofs.YtlojfepfnmoclaaW.PrintWords Go.Proofs.YtlojfepfnmoclaaW.PrintLast Go.Proofs.YtlojfepfnmoclaaW.PrintMore
attribute [local go_sem] max2_int min2_int max_two min_two max_three min_three max_four min_four   -- for this text's walks alone
set_option linter.unusedVariables false
set_option linter.unusedSimpArgs false

/-! ### space_Look: function 11 -/
def space_Look.j0 : Nat → Int → Int → Bool → Int → Int → Int → Int → Int → Int → Option (Int × Int)
  | 0, _, _, _, _, _, _, _, _, _ => none
  | k + 1, x1, x8, x12, x166000, x166001, x166002, x166003, x166004, x166005 => if x12 = true then (some (x8, x166003)) else (if x8 = 1 then (if x1 < 1 then (some (x8, x166002)) else (some (x8, 0))) else (some (x8, 0)))
def space_Look.f (k : Nat) (a0_0 : Int) (a0_1 : Int) (a0_2 : Int) (a0_3 : Int) (a0_4 : Int) (a0_5 : Int) (a1 : Int) (a2 : Int) : Option (Int × Int) := (space_Level.f a0_0 a0_1 a0_2 a0_3 a0_4 a0_5 a2).bind fun t166 => (if t166 = 2 then (space_Look.j0 k a1 t166 (decide (a1 < 2)) a0_0 a0_1 a0_2 a0_3 a0_4 a0_5) else (space_Look.j0 k a1 t166 false a0_0 a0_1 a0_2 a0_3 a0_4 a0_5))
theorem space_Look.mono_l : ∀ k, (∀ y0 y1 y2 y3 y4 y5 y6 y7 y8, LeO (space_Look.j0 k y0 y1 y2 y3 y4 y5 y6 y7 y8) (space_Look.j0 (k + 1) y0 y1 y2 y3 y4 y5 y6 y7 y8))
  | 0 => fun _ _ _ _ _ _ _ _ _ r h => by simp [space_Look.j0] at h
  | k + 1 => by
    have ih0 := space_Look.mono_l k
    · intro y0 y1 y2 y3 y4 y5 y6 y7 y8
      unfold space_Look.j0
      repeat' first
      | (with_reducible exact ih0 _ _ _ _ _ _ _ _ _)
      | (with_reducible exact LeO.refl _)
      | (with_reducible exact LeO.none _)
      | (with_reducible refine LeO.ite ?_ ?_)
      | (with_reducible refine LeO.bind ?_ (fun _ => ?_))
      | exact ih0 _ _ _ _ _ _ _ _ _
      | exact LeO.none _
      | refine LeO.ite ?_ ?_
      | refine LeO.bind ?_ (fun _ => ?_)
theorem space_Look.mono : ∀ a0 a1 a2 a3 a4 a5 a6 a7 k, LeO (space_Look.f k a0 a1 a2 a3 a4 a5 a6 a7) (space_Look.f (k + 1) a0 a1 a2 a3 a4 a5 a6 a7) := by
  intro a0 a1 a2 a3 a4 a5 a6 a7 k
  have ih0 := space_Look.mono_l k
  unfold space_Look.f
  repeat' first
      | (with_reducible exact ih0 _ _ _ _ _ _ _ _ _)
      | (with_reducible exact LeO.refl _)
      | (with_reducible exact LeO.none _)
      | (with_reducible refine LeO.ite ?_ ?_)
      | (with_reducible refine LeO.bind ?_ (fun _ => ?_))
      | exact ih0 _ _ _ _ _ _ _ _ _
      | exact LeO.none _
      | refine LeO.ite ?_ ?_
      | refine LeO.bind ?_ (fun _ => ?_)
set_option maxHeartbeats 8000000 in
set_option maxRecDepth 100000 in
theorem space_Look.calls (k : Nat) (a0_0 : Int) (a0_1 : Int) (a0_2 : Int) (a0_3 : Int) (a0_4 : Int) (a0_5 : Int) (a1 : Int) (a2 : Int) (r1 : Int) (r2 : Int) (w : World) (h : space_Look.f k a0_0 a0_1 a0_2 a0_3 a0_4 a0_5 a1 a2 = some (r1, r2)) :
    Calls Try.prog 11 #[.agg #[.int .i64 a0_0, .int .i64 a0_1, .int .i64 a0_2, .int .i64 a0_3, .int .i64 a0_4, .int .i64 a0_5], .int .i64 a1, .int .i64 a2] w fun e w' => e = .returned (.tuple #[.int .i64 r1, .int .i64 r2]) ∧ Below w.heap.size w w' := by
  have hu24 := Try.underlying24
  have HB := Aside0.mk (Below.refl w.heap.size w)
  have H : ((space_Level.f a0_0 a0_1 a0_2 a0_3 a0_4 a0_5 a2).bind fun t166 => (if t166 = 2 then (space_Look.j0 k a1 t166 (decide (a1 < 2)) a0_0 a0_1 a0_2 a0_3 a0_4 a0_5) else (space_Look.j0 k a1 t166 false a0_0 a0_1 a0_2 a0_3 a0_4 a0_5))) = some (r1, r2) := h
  clear h
  replace H := Option.bind_eq_some_iff.mp H
  obtain ⟨t166, A40, H⟩ := H
  replace H : (if t166 = 2 then (space_Look.j0 k a1 t166 (decide (a1 < 2)) a0_0 a0_1 a0_2 a0_3 a0_4 a0_5) else (space_Look.j0 k a1 t166 false a0_0 a0_1 a0_2 a0_3 a0_4 a0_5)) = some (r1, r2) := H
  have A4 := Aside0.mk A40
  clear A40
  have HC5 := Aside0.mk H
  clear H
  go_enter Try.func11, Try.ntmps11
  go_upto_region 2 with (first | ((with_reducible refine gate_dst (N := 3) rfl ?_); refine box_event ?hg (N := 3) ?hd (cs := #[.int .i64 a0_0, .int .i64 a0_1, .int .i64 a0_2, .int .i64 a0_3, .int .i64 a0_4, .int .i64 a0_5]) (t := 24) ?hr ?_; (case hd => rfl); (case hg => rfl); (case hr => first | (go_simp; done) | (go_simp; rfl)); intro gb165 hg w6 hbox hb; have n0_ := Aside0.mk (below_step (by repeat (first | (with_reducible first | exact HB.out | apply below_alloc | apply pw_below_drewN | apply below_drew1) | exact HB.out)) hb); have n1_ := Aside0.mk (hbox); have n2_ := Aside0.mk ((by rw [hg]; exact (below_size (by repeat (first | (with_reducible first | exact HB.out | apply below_alloc | apply pw_below_drewN | apply below_drew1) | exact HB.out))) : w.heap.size ≤ gb165)); have n3_ := Aside0.mk ((by rw [hg]; exact (below_size (by repeat (first | (with_reducible first | exact HB.out | apply below_alloc | apply pw_below_drewN | apply below_drew1) | exact HB.out))) : w.heap.size ≤ gb165)); clear HB; have HB := n0_; have BK165 := n1_; have GW165 := n2_; have GE165 := n3_; clear n0_ n1_ n2_ n3_; clear hb hbox hg; have hcz7_0 : w6.cell? ⟨gb165, 0, none⟩ = some (.int .i64 a0_0) := (blk_cell BK165.out 0).trans rfl; have hcz7_1 : w6.cell? ⟨gb165, 1, none⟩ = some (.int .i64 a0_1) := (blk_cell BK165.out 1).trans rfl; have hcz7_2 : w6.cell? ⟨gb165, 2, none⟩ = some (.int .i64 a0_2) := (blk_cell BK165.out 2).trans rfl; have hcz7_3 : w6.cell? ⟨gb165, 3, none⟩ = some (.int .i64 a0_3) := (blk_cell BK165.out 3).trans rfl; have hcz7_4 : w6.cell? ⟨gb165, 4, none⟩ = some (.int .i64 a0_4) := (blk_cell BK165.out 4).trans rfl; have hcz7_5 : w6.cell? ⟨gb165, 5, none⟩ = some (.int .i64 a0_5) := (blk_cell BK165.out 5).trans rfl; have hfz7_0 := blk_frozen BK165.out 0; have hfz7_1 := blk_frozen BK165.out 1; have hfz7_2 := blk_frozen BK165.out 2; have hfz7_3 := blk_frozen BK165.out 3; have hfz7_4 := blk_frozen BK165.out 4; have hfz7_5 := blk_frozen BK165.out 5) | (go_at_call 13; (with_reducible refine (space_Level.calls a0_0 a0_1 a0_2 a0_3 a0_4 a0_5 a2 t166 _ A4.out).mono ?_); rintro e w8 ⟨rfl, hb⟩; have n0_ := Aside0.mk (blk_below (g := gb165) (o := .cells #[.int .i64 a0_0, .int .i64 a0_1, .int .i64 a0_2, .int .i64 a0_3, .int .i64 a0_4, .int .i64 a0_5] 24 (0, 0)) (by (with_reducible repeat (first | refine blk_drewN ?_ _ | refine blk_drew ?_ | refine blk_alloc ?_ _)); exact BK165.out) hb); have n1_ := Aside0.mk (below_step (by repeat (first | (with_reducible first | exact HB.out | apply below_alloc | apply pw_below_drewN | apply below_drew1 | refine below_set ?_ GE165.out) | exact HB.out)) hb); clear BK165; clear HB; have BK165 := n0_; have HB := n1_; clear n0_ n1_; (try clear hb); (try clear hb2); (try clear hk); (try clear hi)))
  repeat (go_quiet (first | ((with_reducible refine gate_dst (N := 3) rfl ?_); refine box_event ?hg (N := 3) ?hd (cs := #[.int .i64 a0_0, .int .i64 a0_1, .int .i64 a0_2, .int .i64 a0_3, .int .i64 a0_4, .int .i64 a0_5]) (t := 24) ?hr ?_; (case hd => rfl); (case hg => rfl); (case hr => first | (go_simp; done) | (go_simp; rfl)); intro gb165 hg w6 hbox hb; have n0_ := Aside0.mk (below_step (by repeat (first | (with_reducible first | exact HB.out | apply below_alloc | apply pw_below_drewN | apply below_drew1) | exact HB.out)) hb); have n1_ := Aside0.mk (hbox); have n2_ := Aside0.mk ((by rw [hg]; exact (below_size (by repeat (first | (with_reducible first | exact HB.out | apply below_alloc | apply pw_below_drewN | apply below_drew1) | exact HB.out))) : w.heap.size ≤ gb165)); have n3_ := Aside0.mk ((by rw [hg]; exact (below_size (by repeat (first | (with_reducible first | exact HB.out | apply below_alloc | apply pw_below_drewN | apply below_drew1) | exact HB.out))) : w.heap.size ≤ gb165)); clear HB; have HB := n0_; have BK165 := n1_; have GW165 := n2_; have GE165 := n3_; clear n0_ n1_ n2_ n3_; clear hb hbox hg; have hcz7_0 : w6.cell? ⟨gb165, 0, none⟩ = some (.int .i64 a0_0) := (blk_cell BK165.out 0).trans rfl; have hcz7_1 : w6.cell? ⟨gb165, 1, none⟩ = some (.int .i64 a0_1) := (blk_cell BK165.out 1).trans rfl; have hcz7_2 : w6.cell? ⟨gb165, 2, none⟩ = some (.int .i64 a0_2) := (blk_cell BK165.out 2).trans rfl; have hcz7_3 : w6.cell? ⟨gb165, 3, none⟩ = some (.int .i64 a0_3) := (blk_cell BK165.out 3).trans rfl; have hcz7_4 : w6.cell? ⟨gb165, 4, none⟩ = some (.int .i64 a0_4) := (blk_cell BK165.out 4).trans rfl; have hcz7_5 : w6.cell? ⟨gb165, 5, none⟩ = some (.int .i64 a0_5) := (blk_cell BK165.out 5).trans rfl; have hfz7_0 := blk_frozen BK165.out 0; have hfz7_1 := blk_frozen BK165.out 1; have hfz7_2 := blk_frozen BK165.out 2; have hfz7_3 := blk_frozen BK165.out 3; have hfz7_4 := blk_frozen BK165.out 4; have hfz7_5 := blk_frozen BK165.out 5) | (go_at_call 13; (with_reducible refine (space_Level.calls a0_0 a0_1 a0_2 a0_3 a0_4 a0_5 a2 t166 _ A4.out).mono ?_); rintro e w8 ⟨rfl, hb⟩; have n0_ := Aside0.mk (blk_below (g := gb165) (o := .cells #[.int .i64 a0_0, .int .i64 a0_1, .int .i64 a0_2, .int .i64 a0_3, .int .i64 a0_4, .int .i64 a0_5] 24 (0, 0)) (by (with_reducible repeat (first | refine blk_drewN ?_ _ | refine blk_drew ?_ | refine blk_alloc ?_ _)); exact BK165.out) hb); have n1_ := Aside0.mk (below_step (by repeat (first | (with_reducible first | exact HB.out | apply below_alloc | apply pw_below_drewN | apply below_drew1 | refine below_set ?_ GE165.out) | exact HB.out)) hb); clear BK165; clear HB; have BK165 := n0_; have HB := n1_; clear n0_ n1_; (try clear hb); (try clear hb2); (try clear hk); (try clear hi))); go_upto_region 2 with (first | ((with_reducible refine gate_dst (N := 3) rfl ?_); refine box_event ?hg (N := 3) ?hd (cs := #[.int .i64 a0_0, .int .i64 a0_1, .int .i64 a0_2, .int .i64 a0_3, .int .i64 a0_4, .int .i64 a0_5]) (t := 24) ?hr ?_; (case hd => rfl); (case hg => rfl); (case hr => first | (go_simp; done) | (go_simp; rfl)); intro gb165 hg w6 hbox hb; have n0_ := Aside0.mk (below_step (by repeat (first | (with_reducible first | exact HB.out | apply below_alloc | apply pw_below_drewN | apply below_drew1) | exact HB.out)) hb); have n1_ := Aside0.mk (hbox); have n2_ := Aside0.mk ((by rw [hg]; exact (below_size (by repeat (first | (with_reducible first | exact HB.out | apply below_alloc | apply pw_below_drewN | apply below_drew1) | exact HB.out))) : w.heap.size ≤ gb165)); have n3_ := Aside0.mk ((by rw [hg]; exact (below_size (by repeat (first | (with_reducible first | exact HB.out | apply below_alloc | apply pw_below_drewN | apply below_drew1) | exact HB.out))) : w.heap.size ≤ gb165)); clear HB; have HB := n0_; have BK165 := n1_; have GW165 := n2_; have GE165 := n3_; clear n0_ n1_ n2_ n3_; clear hb hbox hg; have hcz7_0 : w6.cell? ⟨gb165, 0, none⟩ = some (.int .i64 a0_0) := (blk_cell BK165.out 0).trans rfl; have hcz7_1 : w6.cell? ⟨gb165, 1, none⟩ = some (.int .i64 a0_1) := (blk_cell BK165.out 1).trans rfl; have hcz7_2 : w6.cell? ⟨gb165, 2, none⟩ = some (.int .i64 a0_2) := (blk_cell BK165.out 2).trans rfl; have hcz7_3 : w6.cell? ⟨gb165, 3, none⟩ = some (.int .i64 a0_3) := (blk_cell BK165.out 3).trans rfl; have hcz7_4 : w6.cell? ⟨gb165, 4, none⟩ = some (.int .i64 a0_4) := (blk_cell BK165.out 4).trans rfl; have hcz7_5 : w6.cell? ⟨gb165, 5, none⟩ = some (.int .i64 a0_5) := (blk_cell BK165.out 5).trans rfl; have hfz7_0 := blk_frozen BK165.out 0; have hfz7_1 := blk_frozen BK165.out 1; have hfz7_2 := blk_frozen BK165.out 2; have hfz7_3 := blk_frozen BK165.out 3; have hfz7_4 := blk_frozen BK165.out 4; have hfz7_5 := blk_frozen BK165.out 5) | (go_at_call 13; (with_reducible refine (space_Level.calls a0_0 a0_1 a0_2 a0_3 a0_4 a0_5 a2 t166 _ A4.out).mono ?_); rintro e w8 ⟨rfl, hb⟩; have n0_ := Aside0.mk (blk_below (g := gb165) (o := .cells #[.int .i64 a0_0, .int .i64 a0_1, .int .i64 a0_2, .int .i64 a0_3, .int .i64 a0_4, .int .i64 a0_5] 24 (0, 0)) (by (with_reducible repeat (first | refine blk_drewN ?_ _ | refine blk_drew ?_ | refine blk_alloc ?_ _)); exact BK165.out) hb); have n1_ := Aside0.mk (below_step (by repeat (first | (with_reducible first | exact HB.out | apply below_alloc | apply pw_below_drewN | apply below_drew1 | refine below_set ?_ GE165.out) | exact HB.out)) hb); clear BK165; clear HB; have BK165 := n0_; have HB := n1_; clear n0_ n1_; (try clear hb); (try clear hb2); (try clear hk); (try clear hi))))
  (try simp only [Act.put, List.setIfInBounds_toArray, List.set_cons_zero, List.set_cons_succ])
  go_cut [12] (fun v12 wc => ∃ (kq : Nat) (x12_4 : Bool), v12 = .bool x12_4 ∧ Aside0 (space_Look.j0 kq a1 t166 x12_4 a0_0 a0_1 a0_2 a0_3 a0_4 a0_5 = some (r1, r2)) ∧ Aside0 (kq ≤ k) ∧ Aside0 (wc.heap[gb165]? = some (.cells #[.int .i64 a0_0, .int .i64 a0_1, .int .i64 a0_2, .int .i64 a0_3, .int .i64 a0_4, .int .i64 a0_5] 24 (0, 0))) ∧ Aside0 (Below w.heap.size w wc))
  case first =>
    have H := HC5.out
    clear HC5
    by_cases c9 : t166 = 2
    · rw [if_pos c9] at H
      have c9b0 : (t166 == 2) = true := beq_iff_eq.mpr c9
      have c9b1 : (t166 != 2) = false := bne_eq_false_iff_eq.mpr c9
      clear c9
      (first | rw [c9b0] | (simp only [i64_w, i32_w]; rw [c9b0]) | skip)
      have H' := Aside0.mk H
      clear H
      go_wp2
      repeat (go_quiet (fail); try go_wp2)
      go_meet
      case rel => exact ⟨_, (decide (a1 < 2)), (by first | rfl | (simp; done) | (simp [*]; done)), H', ⟨by first | omega | exact Nat.le_refl _⟩, ⟨by (with_reducible repeat (first | refine blk_drewN ?_ _ | refine blk_drew ?_ | refine blk_alloc ?_ _)); exact BK165.out⟩, ⟨by repeat (first | (with_reducible first | exact HB.out | apply below_alloc | apply pw_below_drewN | apply below_drew1 | refine below_set ?_ GE165.out) | exact HB.out)⟩⟩
    · rw [if_neg c9] at H
      have c9b0 : (t166 == 2) = false := beq_eq_false_iff_ne.mpr c9
      have c9b1 : (t166 != 2) = true := bne_iff_ne.mpr c9
      (first | rw [c9b0] | (simp only [i64_w, i32_w]; rw [c9b0]) | skip)
      have H' := Aside0.mk H
      clear H
      go_wp2
      repeat (go_quiet (fail); try go_wp2)
      go_meet
      case rel => exact ⟨_, (false), (by first | rfl | (simp; done) | (simp [*]; done)), H', ⟨by first | omega | exact Nat.le_refl _⟩, ⟨by (with_reducible repeat (first | refine blk_drewN ?_ _ | refine blk_drew ?_ | refine blk_alloc ?_ _)); exact BK165.out⟩, ⟨by repeat (first | (with_reducible first | exact HB.out | apply below_alloc | apply pw_below_drewN | apply below_drew1 | refine below_set ?_ GE165.out) | exact HB.out)⟩⟩
  case rest =>
    clear HC5
    try clear c1
    try clear p2
    try clear c9
    try clear c9b0
    try clear c9b1
    try clear hcz7_0
    try clear hcz7_1
    try clear hcz7_2
    try clear hcz7_3
    try clear hcz7_4
    try clear hcz7_5
    try clear hfz7_0
    try clear hfz7_1
    try clear hfz7_2
    try clear hfz7_3
    try clear hfz7_4
    try clear hfz7_5
    obtain ⟨kq, x12_4, rfl, HA, HJ4, BK165, HB⟩ := hcut
    cases kq with
    | zero => exact absurd HA.out (by simp [space_Look.j0])
    | succ kj4 =>
      have H := HA.out
      clear HA
      simp only [space_Look.j0] at H
      by_cases c10 : x12_4 = true
      · subst c10
        have H1 : (some (t166, a0_3)) = some (r1, r2) := by rw [if_pos rfl] at H; exact H
        clear H
        have H := H1
        clear H1
        simp only [Option.some.injEq, Prod.mk.injEq] at H
        obtain ⟨rfl, rfl⟩ := H
        have hcz11_0 : wc.cell? ⟨gb165, 0, none⟩ = some (.int .i64 a0_0) := (blk_cell BK165.out 0).trans rfl
        have hcz11_1 : wc.cell? ⟨gb165, 1, none⟩ = some (.int .i64 a0_1) := (blk_cell BK165.out 1).trans rfl
        have hcz11_2 : wc.cell? ⟨gb165, 2, none⟩ = some (.int .i64 a0_2) := (blk_cell BK165.out 2).trans rfl
        have hcz11_3 : wc.cell? ⟨gb165, 3, none⟩ = some (.int .i64 a0_3) := (blk_cell BK165.out 3).trans rfl
        have hcz11_4 : wc.cell? ⟨gb165, 4, none⟩ = some (.int .i64 a0_4) := (blk_cell BK165.out 4).trans rfl
        have hcz11_5 : wc.cell? ⟨gb165, 5, none⟩ = some (.int .i64 a0_5) := (blk_cell BK165.out 5).trans rfl
        have hfz11_0 := blk_frozen BK165.out 0
        have hfz11_1 := blk_frozen BK165.out 1
        have hfz11_2 := blk_frozen BK165.out 2
        have hfz11_3 := blk_frozen BK165.out 3
        have hfz11_4 := blk_frozen BK165.out 4
        have hfz11_5 := blk_frozen BK165.out 5
        go_wp2
        repeat (go_quiet (fail); try go_wp2)
        go_ret2
        exact ⟨by first | rfl | (simp [errW_none, errW_some] <;> rfl) | (simp [*, errW_none, errW_some] <;> rfl), by repeat (first | (with_reducible first | exact HB.out | apply below_alloc | apply pw_below_drewN | apply below_drew1 | refine below_set ?_ GE165.out) | exact HB.out)⟩
      · replace c10 := Bool.eq_false_iff.mpr c10
        subst c10
        have H1 : (if t166 = 1 then (if a1 < 1 then (some (t166, a0_2)) else (some (t166, 0))) else (some (t166, 0))) = some (r1, r2) := by rw [if_neg (show ¬ (false = true) by decide)] at H; exact H
        clear H
        have H := H1
        clear H1
        by_cases c12 : t166 = 1
        · rw [if_pos c12] at H
          have c12b0 : (t166 == 1) = true := beq_iff_eq.mpr c12
          have c12b1 : (t166 != 1) = false := bne_eq_false_iff_eq.mpr c12
          clear c12
          by_cases c13 : a1 < 1
          · rw [if_pos c13] at H
            have c13b0 : decide (a1 < 1) = true := decide_eq_true c13
            clear c13
            simp only [Option.some.injEq, Prod.mk.injEq] at H
            obtain ⟨rfl, rfl⟩ := H
            have hcz14_0 : wc.cell? ⟨gb165, 0, none⟩ = some (.int .i64 a0_0) := (blk_cell BK165.out 0).trans rfl
            have hcz14_1 : wc.cell? ⟨gb165, 1, none⟩ = some (.int .i64 a0_1) := (blk_cell BK165.out 1).trans rfl
            have hcz14_2 : wc.cell? ⟨gb165, 2, none⟩ = some (.int .i64 a0_2) := (blk_cell BK165.out 2).trans rfl
            have hcz14_3 : wc.cell? ⟨gb165, 3, none⟩ = some (.int .i64 a0_3) := (blk_cell BK165.out 3).trans rfl
            have hcz14_4 : wc.cell? ⟨gb165, 4, none⟩ = some (.int .i64 a0_4) := (blk_cell BK165.out 4).trans rfl
            have hcz14_5 : wc.cell? ⟨gb165, 5, none⟩ = some (.int .i64 a0_5) := (blk_cell BK165.out 5).trans rfl
            have hfz14_0 := blk_frozen BK165.out 0
            have hfz14_1 := blk_frozen BK165.out 1
            have hfz14_2 := blk_frozen BK165.out 2
            have hfz14_3 := blk_frozen BK165.out 3
            have hfz14_4 := blk_frozen BK165.out 4
            have hfz14_5 := blk_frozen BK165.out 5
            go_wp2
            repeat (go_quiet (fail); try go_wp2)
            go_ret2
            exact ⟨by first | rfl | (simp [errW_none, errW_some] <;> rfl) | (simp [*, errW_none, errW_some] <;> rfl), by repeat (first | (with_reducible first | exact HB.out | apply below_alloc | apply pw_below_drewN | apply below_drew1 | refine below_set ?_ GE165.out) | exact HB.out)⟩
          · rw [if_neg c13] at H
            have c13b0 : decide (a1 < 1) = false := decide_eq_false c13
            clear c13
            simp only [Option.some.injEq, Prod.mk.injEq] at H
            obtain ⟨rfl, rfl⟩ := H
            go_wp2
            repeat (go_quiet (fail); try go_wp2)
            go_ret2
            exact ⟨by first | rfl | (simp [errW_none, errW_some] <;> rfl) | (simp [*, errW_none, errW_some] <;> rfl), by repeat (first | (with_reducible first | exact HB.out | apply below_alloc | apply pw_below_drewN | apply below_drew1 | refine below_set ?_ GE165.out) | exact HB.out)⟩
        · rw [if_neg c12] at H
          have c12b0 : (t166 == 1) = false := beq_eq_false_iff_ne.mpr c12
          have c12b1 : (t166 != 1) = true := bne_iff_ne.mpr c12
          simp only [Option.some.injEq, Prod.mk.injEq] at H
          obtain ⟨rfl, rfl⟩ := H
          go_wp2
          repeat (go_quiet (fail); try go_wp2)
          go_ret2
          exact ⟨by first | rfl | (simp [errW_none, errW_some] <;> rfl) | (simp [*, errW_none, errW_some] <;> rfl), by repeat (first | (with_reducible first | exact HB.out | apply below_alloc | apply pw_below_drewN | apply below_drew1 | refine below_set ?_ GE165.out) | exact HB.out)⟩

end Go.Proofs.Ytlojfepfnmoclaa.PAll
