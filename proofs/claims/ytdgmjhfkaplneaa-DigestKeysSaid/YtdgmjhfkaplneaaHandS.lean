/- The contract of the reference's Sum, told by the turned print but for the loop's end, which is by hand. Condition: the slice reads as a list of bytes. -/
import Derived.Test.YtdgmjhfkaplneaaPAllx0
import Derived.Test.YtdgmjhfkaplneaaPAllx7
import Derived.Test.YtdgmjhfkaplneaaHandA
import Derived.Deep.DeepCutAuto
import Derived.Deep.CutRange
namespace Go.Proofs.Ytdgmjhfkaplneaa.PAll
open Go.RowKit Go.Proofs.YtdgmjhfkaplneaaW.PrintWords Go.Proofs.YtdgmjhfkaplneaaW.PrintLast Go.Proofs.YtdgmjhfkaplneaaW.PrintMore
attribute [local go_sem] max2_int min2_int max_two min_two max_three min_three max_four min_four   -- for this text's walks alone
set_option linter.unusedVariables false
set_option linter.unusedSimpArgs false

/-! ### kauditref23_Sum: function 10 -/
def kauditref23_Sum.l0 : Nat → List Int → Int → List Int → Int → Int → Int → Int → Int → Int → Option (Int)
  | 0, _, _, _, _, _, _, _, _, _ => none
  | k + 1, x1, x6, x22, x23, x24, x112000, x112001, x112002, x112003 => if x24 < x23 then (if 0 ≤ x24 then (if x24 < (x22.length : Int) then (if 0 ≤ (wrap64 (8 * (Int.tmod x24 8))) then (if (Int.tmod x24 8) = 7 then ((kauditref23_words_take.f x112000 x112001 x112002 x112003 (Go.bits .or .u64 x6 (shl .u64 (IntKind.u64.wrap (rd x22 x24)) (wrap64 (8 * (Int.tmod x24 8)))))).bind fun bt113 => (kauditref23_Sum.l0 k x1 0 x22 x23 (wrap64 (x24 + 1)) bt113.1 bt113.2.1 bt113.2.2.1 bt113.2.2.2)) else (kauditref23_Sum.l0 k x1 (Go.bits .or .u64 x6 (shl .u64 (IntKind.u64.wrap (rd x22 x24)) (wrap64 (8 * (Int.tmod x24 8))))) x22 x23 (wrap64 (x24 + 1)) x112000 x112001 x112002 x112003)) else (none)) else (none)) else (none)) else ((kauditref23_words_take.f x112000 x112001 x112002 x112003 (Go.bits .or .u64 x6 (((x1.length : Int) % 256) * 72057594037927936))).bind fun bt117 => ((kauditref23_words_rounds.f bt117.1 bt117.2.1 (Go.bits .xor .u64 bt117.2.2.1 255) bt117.2.2.2 4).bind fun bt121 => (some (Go.bits .xor .u64 (Go.bits .xor .u64 (Go.bits .xor .u64 bt121.1 bt121.2.1) bt121.2.2.1) bt121.2.2.2))))
def kauditref23_Sum.f (k : Nat) (a0_0 : Int) (a0_1 : Int) (l1 : List Int) : Option (Int) := kauditref23_Sum.l0 k l1 0 l1 (l1.length : Int) 0 (Go.bits .xor .u64 a0_0 8317987319222330741) (Go.bits .xor .u64 a0_1 7237128888997146477) (Go.bits .xor .u64 a0_0 7816392313619706465) (Go.bits .xor .u64 a0_1 8387220255154660723)
theorem kauditref23_Sum.mono_l : ∀ k, (∀ y0 y1 y2 y3 y4 y5 y6 y7 y8, LeO (kauditref23_Sum.l0 k y0 y1 y2 y3 y4 y5 y6 y7 y8) (kauditref23_Sum.l0 (k + 1) y0 y1 y2 y3 y4 y5 y6 y7 y8))
  | 0 => fun _ _ _ _ _ _ _ _ _ r h => by simp [kauditref23_Sum.l0] at h
  | k + 1 => by
    have ih0 := kauditref23_Sum.mono_l k
    · intro y0 y1 y2 y3 y4 y5 y6 y7 y8
      unfold kauditref23_Sum.l0
      repeat' first
      | (with_reducible exact ih0 _ _ _ _ _ _ _ _ _)
      | (with_reducible exact LeO.refl _)
      | (with_reducible exact LeO.none _)
      | (with_reducible refine LeO.ite ?_ ?_)
      | (with_reducible refine LeO.bind ?_ (fun _ => ?_))
      | exact ih0 _ _ _ _ _ _ _ _ _
      | exact LeO.none _
      | refine LeO.ite ?_ ?_
      | refine LeO.bind ?_ (fun _ => ?_)
theorem kauditref23_Sum.mono : ∀ a0 a1 a2 k, LeO (kauditref23_Sum.f k a0 a1 a2) (kauditref23_Sum.f (k + 1) a0 a1 a2) := by
  intro a0 a1 a2 k
  have ih0 := kauditref23_Sum.mono_l k
  unfold kauditref23_Sum.f
  repeat' first
      | (with_reducible exact ih0 _ _ _ _ _ _ _ _ _)
      | (with_reducible exact LeO.refl _)
      | (with_reducible exact LeO.none _)
      | (with_reducible refine LeO.ite ?_ ?_)
      | (with_reducible refine LeO.bind ?_ (fun _ => ?_))
      | exact ih0 _ _ _ _ _ _ _ _ _
      | exact LeO.none _
      | refine LeO.ite ?_ ?_
      | refine LeO.bind ?_ (fun _ => ?_)
set_option maxHeartbeats 8000000 in
set_option maxRecDepth 100000 in
theorem kauditref23_Sum.calls (k : Nat) (a0_0 : Int) (a0_1 : Int) (A1 : Option Addr) (c1 : Nat) (l1 : List Int) (r : Int) (w : World) (hr1 : Kd.C (Kd.int .u8) w A1 l1.length l1) (hc1 : l1.length ≤ c1) (h : kauditref23_Sum.f k a0_0 a0_1 l1 = some r) :
    Calls Try.prog 10 #[.agg #[.int .u64 a0_0, .int .u64 a0_1], .slice A1 l1.length c1] w fun e w' => e = .returned (.int .u64 r) ∧ Below w.heap.size w w' := by
  have hu24 := Try.underlying24
  have hu53 := Try.underlying53
  have HR1 := Aside0.mk hr1
  have HC1 := Aside0.mk hc1
  clear hr1 hc1
  have HB := Aside0.mk (Below.refl w.heap.size w)
  have H : (kauditref23_Sum.l0 k l1 0 l1 (l1.length : Int) 0 (Go.bits .xor .u64 a0_0 8317987319222330741) (Go.bits .xor .u64 a0_1 7237128888997146477) (Go.bits .xor .u64 a0_0 7816392313619706465) (Go.bits .xor .u64 a0_1 8387220255154660723)) = some r := h
  clear h
  have H' := Aside0.mk H
  clear H
  go_enter Try.func10, Try.ntmps10
  go_wp2_with (first | ((with_reducible refine gate_dst (N := 2) rfl ?_); refine box_event ?hg (N := 2) ?hd (cs := #[.int .u64 a0_0, .int .u64 a0_1]) (t := 24) ?hr ?_; (case hd => rfl); (case hg => rfl); (case hr => first | (go_simp; done) | (go_simp; rfl)); intro gb110 hg w3 hbox hb; have n0_ := Aside0.mk (below_step (by repeat (first | (with_reducible first | exact HB.out | apply below_alloc | apply pw_below_drewN | apply below_drew1) | exact HB.out)) hb); have n1_ := Aside0.mk (hbox); have n2_ := Aside0.mk ((by rw [hg]; exact (below_size (by repeat (first | (with_reducible first | exact HB.out | apply below_alloc | apply pw_below_drewN | apply below_drew1) | exact HB.out))) : w.heap.size ≤ gb110)); have n3_ := Aside0.mk ((by rw [hg]; exact (below_size (by repeat (first | (with_reducible first | exact HB.out | apply below_alloc | apply pw_below_drewN | apply below_drew1) | exact HB.out))) : w.heap.size ≤ gb110)); clear HB; have HB := n0_; have BK110 := n1_; have GW110 := n2_; have GE110 := n3_; clear n0_ n1_ n2_ n3_; clear hb hbox hg; have hcz4_0 : w3.cell? ⟨gb110, 0, none⟩ = some (.int .u64 a0_0) := (blk_cell BK110.out 0).trans rfl; have hcz4_1 : w3.cell? ⟨gb110, 1, none⟩ = some (.int .u64 a0_1) := (blk_cell BK110.out 1).trans rfl; have hfz4_0 := blk_frozen BK110.out 0; have hfz4_1 := blk_frozen BK110.out 1) | ((with_reducible refine gate_dst (N := 5) rfl ?_); refine box_event ?hg (N := 5) ?hd (cs := #[.int .u64 0, .int .u64 0, .int .u64 0, .int .u64 0]) (t := 53) ?hr ?_; (case hd => rfl); (case hg => rfl); (case hr => first | (go_simp; done) | (go_simp; rfl)); intro gb111 hg w5 hbox hb; have n0_ := Aside0.mk (blk_below (g := gb110) (o := .cells #[.int .u64 a0_0, .int .u64 a0_1] 24 (0, 0)) (by (with_reducible repeat (first | refine blk_drewN ?_ _ | refine blk_drew ?_ | refine blk_alloc ?_ _)); exact BK110.out) hb); have n1_ := Aside0.mk (below_step (by repeat (first | (with_reducible first | exact HB.out | apply below_alloc | apply pw_below_drewN | apply below_drew1 | refine below_set ?_ GE110.out) | exact HB.out)) hb); have n2_ := Aside0.mk (hbox); have n3_ := Aside0.mk ((by rw [hg]; exact (below_size (by repeat (first | (with_reducible first | exact HB.out | apply below_alloc | apply pw_below_drewN | apply below_drew1 | refine below_set ?_ GE110.out) | exact HB.out))) : w.heap.size ≤ gb111)); have n4_ := Aside0.mk ((by rw [hg]; exact (below_size (by repeat (first | (with_reducible first | exact HB.out | apply below_alloc | apply pw_below_drewN | apply below_drew1 | refine below_set ?_ GE110.out) | exact HB.out))) : w.heap.size ≤ gb111)); have n5_ := Aside0.mk ((by rw [hg]; exact Nat.ne_of_lt (blk_lt (g := gb110) (o := .cells #[.int .u64 a0_0, .int .u64 a0_1] 24 (0, 0)) (by (with_reducible repeat (first | refine blk_drewN ?_ _ | refine blk_drew ?_ | refine blk_alloc ?_ _)); exact BK110.out)) : gb110 ≠ gb111)); have n6_ := Aside0.mk ((by rw [hg]; exact Nat.ne_of_gt (blk_lt (g := gb110) (o := .cells #[.int .u64 a0_0, .int .u64 a0_1] 24 (0, 0)) (by (with_reducible repeat (first | refine blk_drewN ?_ _ | refine blk_drew ?_ | refine blk_alloc ?_ _)); exact BK110.out)) : gb111 ≠ gb110)); clear BK110; clear HB; have BK110 := n0_; have HB := n1_; have BK111 := n2_; have GW111 := n3_; have GE111 := n4_; have NB110_111 := n5_; have NB111_110 := n6_; clear n0_ n1_ n2_ n3_ n4_ n5_ n6_; clear hb hbox hg; have hnb6 := NB111_110.out; have hnc6 := NB110_111.out; have hcz7_0 : w5.cell? ⟨gb111, 0, none⟩ = some (.int .u64 0) := (blk_cell BK111.out 0).trans rfl; have hcz7_1 : w5.cell? ⟨gb111, 1, none⟩ = some (.int .u64 0) := (blk_cell BK111.out 1).trans rfl; have hcz7_2 : w5.cell? ⟨gb111, 2, none⟩ = some (.int .u64 0) := (blk_cell BK111.out 2).trans rfl; have hcz7_3 : w5.cell? ⟨gb111, 3, none⟩ = some (.int .u64 0) := (blk_cell BK111.out 3).trans rfl; have hfz7_0 := blk_frozen BK111.out 0; have hfz7_1 := blk_frozen BK111.out 1; have hfz7_2 := blk_frozen BK111.out 2; have hfz7_3 := blk_frozen BK111.out 3))
  (first | go_loopg [6, 24] k (fun kq v6 v24 w' => ∃ (x6_1 : Int) (x24_1 : Int) (x112000_1 : Int) (x112001_1 : Int) (x112002_1 : Int) (x112003_1 : Int), v6 = .int .u64 x6_1 ∧ v24 = .int .i64 x24_1 ∧ Aside0 (kauditref23_Sum.l0 kq l1 x6_1 l1 (l1.length : Int) x24_1 x112000_1 x112001_1 x112002_1 x112003_1 = some r) ∧ Aside0 (kq ≤ k) ∧ Aside0 (w'.heap[gb110]? = some (.cells #[.int .u64 a0_0, .int .u64 a0_1] 24 (0, 0))) ∧ Aside0 (w'.heap[gb111]? = some (.cells #[.int .u64 x112000_1, .int .u64 x112001_1, .int .u64 x112002_1, .int .u64 x112003_1] 53 (0, 0))) ∧ Aside0 (Below w.heap.size w w')) | (go_simp; go_loopg [6, 24] k (fun kq v6 v24 w' => ∃ (x6_1 : Int) (x24_1 : Int) (x112000_1 : Int) (x112001_1 : Int) (x112002_1 : Int) (x112003_1 : Int), v6 = .int .u64 x6_1 ∧ v24 = .int .i64 x24_1 ∧ Aside0 (kauditref23_Sum.l0 kq l1 x6_1 l1 (l1.length : Int) x24_1 x112000_1 x112001_1 x112002_1 x112003_1 = some r) ∧ Aside0 (kq ≤ k) ∧ Aside0 (w'.heap[gb110]? = some (.cells #[.int .u64 a0_0, .int .u64 a0_1] 24 (0, 0))) ∧ Aside0 (w'.heap[gb111]? = some (.cells #[.int .u64 x112000_1, .int .u64 x112001_1, .int .u64 x112002_1, .int .u64 x112003_1] 53 (0, 0))) ∧ Aside0 (Below w.heap.size w w'))))
  case atStart => exact ⟨(0), (0), (Go.bits .xor .u64 a0_0 8317987319222330741), (Go.bits .xor .u64 a0_1 7237128888997146477), (Go.bits .xor .u64 a0_0 7816392313619706465), (Go.bits .xor .u64 a0_1 8387220255154660723), (by first | rfl | (simp; done) | (simp [*]; done)), (by first | rfl | (simp; done) | (simp [*]; done)), H', ⟨Nat.le_refl _⟩, ⟨by (with_reducible repeat (first | refine blk_drewN ?_ _ | refine blk_drew ?_ | refine blk_alloc ?_ _)); refine blk_far ?_ NB110_111.out _; (with_reducible repeat (first | refine blk_drewN ?_ _ | refine blk_drew ?_ | refine blk_alloc ?_ _)); refine blk_far ?_ NB110_111.out _; (with_reducible repeat (first | refine blk_drewN ?_ _ | refine blk_drew ?_ | refine blk_alloc ?_ _)); refine blk_far ?_ NB110_111.out _; (with_reducible repeat (first | refine blk_drewN ?_ _ | refine blk_drew ?_ | refine blk_alloc ?_ _)); refine blk_far ?_ NB110_111.out _; (with_reducible repeat (first | refine blk_drewN ?_ _ | refine blk_drew ?_ | refine blk_alloc ?_ _)); exact BK110.out⟩, ⟨by (with_reducible repeat (first | refine blk_drewN ?_ _ | refine blk_drew ?_ | refine blk_alloc ?_ _)); refine blk_put (cs := #[.int .u64 (Go.bits .xor .u64 a0_0 8317987319222330741), .int .u64 (Go.bits .xor .u64 a0_1 7237128888997146477), .int .u64 (Go.bits .xor .u64 a0_0 7816392313619706465), .int .u64 0]) ?_ 3 _ rfl; (with_reducible repeat (first | refine blk_drewN ?_ _ | refine blk_drew ?_ | refine blk_alloc ?_ _)); refine blk_put (cs := #[.int .u64 (Go.bits .xor .u64 a0_0 8317987319222330741), .int .u64 (Go.bits .xor .u64 a0_1 7237128888997146477), .int .u64 0, .int .u64 0]) ?_ 2 _ rfl; (with_reducible repeat (first | refine blk_drewN ?_ _ | refine blk_drew ?_ | refine blk_alloc ?_ _)); refine blk_put (cs := #[.int .u64 (Go.bits .xor .u64 a0_0 8317987319222330741), .int .u64 0, .int .u64 0, .int .u64 0]) ?_ 1 _ rfl; (with_reducible repeat (first | refine blk_drewN ?_ _ | refine blk_drew ?_ | refine blk_alloc ?_ _)); refine blk_put (cs := #[.int .u64 0, .int .u64 0, .int .u64 0, .int .u64 0]) ?_ 0 _ rfl; (with_reducible repeat (first | refine blk_drewN ?_ _ | refine blk_drew ?_ | refine blk_alloc ?_ _)); exact BK111.out⟩, ⟨by repeat (first | (with_reducible first | exact HB.out | apply below_alloc | apply pw_below_drewN | apply below_drew1 | refine below_set ?_ GE110.out | refine below_set ?_ GE111.out) | exact HB.out)⟩⟩
  case round =>
    clear H'
    try clear c1
    try clear p2
    try clear c6
    try clear hcz4_0
    try clear hcz4_1
    try clear hcz7_0
    try clear hcz7_1
    try clear hcz7_2
    try clear hcz7_3
    try clear hfz4_0
    try clear hfz4_1
    try clear hfz7_0
    try clear hfz7_1
    try clear hfz7_2
    try clear hfz7_3
    obtain ⟨x6_1, x24_1, x112000_1, x112001_1, x112002_1, x112003_1, rfl, rfl, HA, HK1, BK110, BK111, HB⟩ := hrel
    cases gk with
    | zero => exact absurd HA.out (by simp [kauditref23_Sum.l0])
    | succ k1 =>
      have H := HA.out
      clear HA
      simp only [kauditref23_Sum.l0] at H
      by_cases c8 : x24_1 < (l1.length : Int)
      · rw [if_pos c8] at H
        have c8b0 : decide (x24_1 < (l1.length : Int)) = true := decide_eq_true c8
        clear c8
        by_cases c9 : 0 ≤ x24_1
        · rw [if_pos c9] at H
          have c9b0 : decide (0 ≤ x24_1) = true := decide_eq_true c9
          clear c9
          by_cases c10 : x24_1 < (l1.length : Int)
          · rw [if_pos c10] at H
            have c10b0 : decide (x24_1 < (l1.length : Int)) = true := decide_eq_true c10
            clear c10
            obtain ⟨ji11, hji11⟩ : ∃ j_ : Int, (wrap64 (8 * (Int.tmod x24_1 8))) = j_ := ⟨_, rfl⟩
            replace H : (if 0 ≤ (ji11) then (if (Int.tmod x24_1 8) = 7 then ((kauditref23_words_take.f x112000_1 x112001_1 x112002_1 x112003_1 (Go.bits .or .u64 x6_1 (shl .u64 (IntKind.u64.wrap (rd l1 x24_1)) (ji11)))).bind fun bt113 => (kauditref23_Sum.l0 k1 l1 0 l1 (l1.length : Int) (wrap64 (x24_1 + 1)) bt113.1 bt113.2.1 bt113.2.2.1 bt113.2.2.2)) else (kauditref23_Sum.l0 k1 l1 (Go.bits .or .u64 x6_1 (shl .u64 (IntKind.u64.wrap (rd l1 x24_1)) (ji11))) l1 (l1.length : Int) (wrap64 (x24_1 + 1)) x112000_1 x112001_1 x112002_1 x112003_1)) else (none)) = some r := by first | (rw [hji11] at H; exact H) | (simp only [hji11] at H ⊢; exact H)
            have hji11w : (IntKind.i64.wrap (8 * (Int.tmod x24_1 8))) = ji11 := (i64_w _).trans hji11
            by_cases c12 : 0 ≤ (ji11)
            · rw [if_pos c12] at H
              have c12b0 := eq_true c12
              have c12b1 : decide (0 ≤ (ji11)) = true := decide_eq_true c12
              clear c12
              obtain ⟨ji13, hji13⟩ : ∃ j_ : Int, (shl .u64 (IntKind.u64.wrap (rd l1 x24_1)) (ji11)) = j_ := ⟨_, rfl⟩
              replace H : (if (Int.tmod x24_1 8) = 7 then ((kauditref23_words_take.f x112000_1 x112001_1 x112002_1 x112003_1 (Go.bits .or .u64 x6_1 (ji13))).bind fun bt113 => (kauditref23_Sum.l0 k1 l1 0 l1 (l1.length : Int) (wrap64 (x24_1 + 1)) bt113.1 bt113.2.1 bt113.2.2.1 bt113.2.2.2)) else (kauditref23_Sum.l0 k1 l1 (Go.bits .or .u64 x6_1 (ji13)) l1 (l1.length : Int) (wrap64 (x24_1 + 1)) x112000_1 x112001_1 x112002_1 x112003_1)) = some r := by first | (rw [hji13] at H; exact H) | (simp only [hji13] at H ⊢; exact H)
              have hji13_ : (IntKind.u64.wrap ((IntKind.u64.wrap (rd l1 x24_1)) * 2 ^ min (ji11).toNat 64)) = ji13 := hji13
              have hji13z : (ji11) ≤ 64 → (IntKind.u64.wrap ((IntKind.u64.wrap (rd l1 x24_1)) * 2 ^ (ji11).toNat)) = ji13 := shl_small hji13
              by_cases c14 : (Int.tmod x24_1 8) = 7
              · rw [if_pos c14] at H
                have c14b0 : ((Int.tmod x24_1 8) == 7) = true := beq_iff_eq.mpr c14
                have c14b1 : ((Int.tmod x24_1 8) != 7) = false := bne_eq_false_iff_eq.mpr c14
                clear c14
                replace H := Option.bind_eq_some_iff.mp H
                obtain ⟨⟨t113, t114, t115, t116⟩, A150, H⟩ := H
                replace H : (kauditref23_Sum.l0 k1 l1 0 l1 (l1.length : Int) (wrap64 (x24_1 + 1)) t113 t114 t115 t116) = some r := H
                have A15 := Aside0.mk A150
                clear A150
                have H' := Aside0.mk H
                clear H
                have p112 : 0 ≤ (x24_1 : Int) := of_decide_eq_true (by first | (with_reducible assumption) | assumption)
                have q112 : x24_1 < (l1.length : Int) := of_decide_eq_true (by first | (with_reducible assumption) | assumption)
                obtain ⟨ad112, e112, hx112_0⟩ := Kd.at_int HR1.out x24_1 p112 q112
                cases e112
                replace hx112_0 := (HB.out.cell (World.block_lt_of_cell? w _ hx112_0)).trans hx112_0
                replace p112 := eq_true p112
                replace q112 := eq_true q112
                have hnb16 := NB111_110.out
                have hnc16 := NB110_111.out
                have hcz17_0 : wr.cell? ⟨gb111, 0, none⟩ = some (.int .u64 x112000_1) := (blk_cell BK111.out 0).trans rfl
                have hcz17_1 : wr.cell? ⟨gb111, 1, none⟩ = some (.int .u64 x112001_1) := (blk_cell BK111.out 1).trans rfl
                have hcz17_2 : wr.cell? ⟨gb111, 2, none⟩ = some (.int .u64 x112002_1) := (blk_cell BK111.out 2).trans rfl
                have hcz17_3 : wr.cell? ⟨gb111, 3, none⟩ = some (.int .u64 x112003_1) := (blk_cell BK111.out 3).trans rfl
                have hfz17_0 := blk_frozen BK111.out 0
                have hfz17_1 := blk_frozen BK111.out 1
                have hfz17_2 := blk_frozen BK111.out 2
                have hfz17_3 := blk_frozen BK111.out 3
                go_wp2_with (first | ((with_reducible refine gate_callee (f := 32) rfl ?_); refine goesL_ (some 42) rfl rfl Try.func32 (by kernel_rfl) rfl #[.agg #[.int .u64 x112000_1, .int .u64 x112001_1, .int .u64 x112002_1, .int .u64 x112003_1], .int .u64 (Go.bits .or .u64 x6_1 (ji13))] rfl (by (try simp only [List.map_toArray, List.map_cons, List.map_nil]); first | done | (simp only [hji13]; rfl) | rfl | (simp only [List.length_drop, List.length_take]; rfl)) ?_; (with_reducible refine (kauditref23_words_take.calls x112000_1 x112001_1 x112002_1 x112003_1 (Go.bits .or .u64 x6_1 (ji13)) t113 t114 t115 t116 _ A15.out).mono ?_); rintro e w18 ⟨rfl, hb⟩; refine ⟨_, rfl, ?_⟩; have n0_ := Aside0.mk (blk_below (g := gb110) (o := .cells #[.int .u64 a0_0, .int .u64 a0_1] 24 (0, 0)) (by (with_reducible repeat (first | refine blk_drewN ?_ _ | refine blk_drew ?_ | refine blk_alloc ?_ _)); exact BK110.out) hb); have n1_ := Aside0.mk (blk_below (g := gb111) (o := .cells #[.int .u64 x112000_1, .int .u64 x112001_1, .int .u64 x112002_1, .int .u64 x112003_1] 53 (0, 0)) (by (with_reducible repeat (first | refine blk_drewN ?_ _ | refine blk_drew ?_ | refine blk_alloc ?_ _)); exact BK111.out) hb); have n2_ := Aside0.mk (below_step (by repeat (first | (with_reducible first | exact HB.out | apply below_alloc | apply pw_below_drewN | apply below_drew1 | refine below_set ?_ GE110.out | refine below_set ?_ GE111.out) | exact HB.out)) hb); clear BK110; clear BK111; clear HB; have BK110 := n0_; have BK111 := n1_; have HB := n2_; clear n0_ n1_ n2_; (try clear hb); (try clear hb2); (try clear hk); (try clear hi); have hcz19_0 : w18.cell? ⟨gb111, 0, none⟩ = some (.int .u64 x112000_1) := (blk_cell BK111.out 0).trans rfl; have hcz19_1 : w18.cell? ⟨gb111, 1, none⟩ = some (.int .u64 x112001_1) := (blk_cell BK111.out 1).trans rfl; have hcz19_2 : w18.cell? ⟨gb111, 2, none⟩ = some (.int .u64 x112002_1) := (blk_cell BK111.out 2).trans rfl; have hcz19_3 : w18.cell? ⟨gb111, 3, none⟩ = some (.int .u64 x112003_1) := (blk_cell BK111.out 3).trans rfl; have hfz19_0 := blk_frozen BK111.out 0; have hfz19_1 := blk_frozen BK111.out 1; have hfz19_2 := blk_frozen BK111.out 2; have hfz19_3 := blk_frozen BK111.out 3))
                go_roundg k1
                case measure => have := HK1.out; omega
                case rel => exact ⟨(0), (wrap64 (x24_1 + 1)), (t113), (t114), (t115), (t116), (by first | rfl | (simp; done) | (simp [*]; done)), (by first | rfl | (simp; done) | (simp [*]; done)), H', ⟨by have := HK1.out; omega⟩, ⟨by (with_reducible repeat (first | refine blk_drewN ?_ _ | refine blk_drew ?_ | refine blk_alloc ?_ _)); refine blk_far ?_ NB110_111.out _; (with_reducible repeat (first | refine blk_drewN ?_ _ | refine blk_drew ?_ | refine blk_alloc ?_ _)); refine blk_far ?_ NB110_111.out _; (with_reducible repeat (first | refine blk_drewN ?_ _ | refine blk_drew ?_ | refine blk_alloc ?_ _)); refine blk_far ?_ NB110_111.out _; (with_reducible repeat (first | refine blk_drewN ?_ _ | refine blk_drew ?_ | refine blk_alloc ?_ _)); refine blk_far ?_ NB110_111.out _; (with_reducible repeat (first | refine blk_drewN ?_ _ | refine blk_drew ?_ | refine blk_alloc ?_ _)); exact BK110.out⟩, ⟨by (with_reducible repeat (first | refine blk_drewN ?_ _ | refine blk_drew ?_ | refine blk_alloc ?_ _)); refine blk_put (cs := #[.int .u64 t113, .int .u64 t114, .int .u64 t115, .int .u64 x112003_1]) ?_ 3 _ rfl; (with_reducible repeat (first | refine blk_drewN ?_ _ | refine blk_drew ?_ | refine blk_alloc ?_ _)); refine blk_put (cs := #[.int .u64 t113, .int .u64 t114, .int .u64 x112002_1, .int .u64 x112003_1]) ?_ 2 _ rfl; (with_reducible repeat (first | refine blk_drewN ?_ _ | refine blk_drew ?_ | refine blk_alloc ?_ _)); refine blk_put (cs := #[.int .u64 t113, .int .u64 x112001_1, .int .u64 x112002_1, .int .u64 x112003_1]) ?_ 1 _ rfl; (with_reducible repeat (first | refine blk_drewN ?_ _ | refine blk_drew ?_ | refine blk_alloc ?_ _)); refine blk_put (cs := #[.int .u64 x112000_1, .int .u64 x112001_1, .int .u64 x112002_1, .int .u64 x112003_1]) ?_ 0 _ rfl; (with_reducible repeat (first | refine blk_drewN ?_ _ | refine blk_drew ?_ | refine blk_alloc ?_ _)); exact BK111.out⟩, ⟨by repeat (first | (with_reducible first | exact HB.out | apply below_alloc | apply pw_below_drewN | apply below_drew1 | refine below_set ?_ GE110.out | refine below_set ?_ GE111.out) | exact HB.out)⟩⟩
              · rw [if_neg c14] at H
                have c14b0 : ((Int.tmod x24_1 8) == 7) = false := beq_eq_false_iff_ne.mpr c14
                have c14b1 : ((Int.tmod x24_1 8) != 7) = true := bne_iff_ne.mpr c14
                have H' := Aside0.mk H
                clear H
                have p112 : 0 ≤ (x24_1 : Int) := of_decide_eq_true (by first | (with_reducible assumption) | assumption)
                have q112 : x24_1 < (l1.length : Int) := of_decide_eq_true (by first | (with_reducible assumption) | assumption)
                obtain ⟨ad112, e112, hx112_0⟩ := Kd.at_int HR1.out x24_1 p112 q112
                cases e112
                replace hx112_0 := (HB.out.cell (World.block_lt_of_cell? w _ hx112_0)).trans hx112_0
                replace p112 := eq_true p112
                replace q112 := eq_true q112
                go_wp2
                go_roundg k1
                case measure => have := HK1.out; omega
                case rel => exact ⟨(Go.bits .or .u64 x6_1 (ji13)), (wrap64 (x24_1 + 1)), (x112000_1), (x112001_1), (x112002_1), (x112003_1), (by first | rfl | (simp; done) | (simp only [← hji13] <;> (first | rfl | simp)) | (simp [*]; done)), (by first | rfl | (simp; done) | (simp [*]; done)), H', ⟨by have := HK1.out; omega⟩, ⟨by (with_reducible repeat (first | refine blk_drewN ?_ _ | refine blk_drew ?_ | refine blk_alloc ?_ _)); exact BK110.out⟩, ⟨by (with_reducible repeat (first | refine blk_drewN ?_ _ | refine blk_drew ?_ | refine blk_alloc ?_ _)); exact BK111.out⟩, ⟨by repeat (first | (with_reducible first | exact HB.out | apply below_alloc | apply pw_below_drewN | apply below_drew1 | refine below_set ?_ GE110.out | refine below_set ?_ GE111.out) | exact HB.out)⟩⟩
            · rw [if_neg c12] at H
              exact absurd H (by simp)
          · rw [if_neg c10] at H
            exact absurd H (by simp)
        · rw [if_neg c9] at H
          exact absurd H (by simp)
      · rw [if_neg c8] at H
        have c8b0 : decide (x24_1 < (l1.length : Int)) = false := decide_eq_false c8
        clear c8
        replace H := Option.bind_eq_some_iff.mp H
        obtain ⟨⟨t117, t118, t119, t120⟩, A200, H⟩ := H
        replace H : ((kauditref23_words_rounds.f t117 t118 (Go.bits .xor .u64 t119 255) t120 4).bind fun bt121 => (some (Go.bits .xor .u64 (Go.bits .xor .u64 (Go.bits .xor .u64 bt121.1 bt121.2.1) bt121.2.2.1) bt121.2.2.2))) = some r := H
        have A20 := Aside0.mk A200
        clear A200
        replace H := Option.bind_eq_some_iff.mp H
        obtain ⟨⟨t121, t122, t123, t124⟩, A210, H⟩ := H
        replace H : (some (Go.bits .xor .u64 (Go.bits .xor .u64 (Go.bits .xor .u64 t121 t122) t123) t124)) = some r := H
        have A21 := Aside0.mk A210
        clear A210
        obtain rfl := Option.some.inj H
        have hnb22 := NB111_110.out
        have hnc22 := NB110_111.out
        have hcz23_0 : wr.cell? ⟨gb111, 0, none⟩ = some (.int .u64 x112000_1) := (blk_cell BK111.out 0).trans rfl
        have hcz23_1 : wr.cell? ⟨gb111, 1, none⟩ = some (.int .u64 x112001_1) := (blk_cell BK111.out 1).trans rfl
        have hcz23_2 : wr.cell? ⟨gb111, 2, none⟩ = some (.int .u64 x112002_1) := (blk_cell BK111.out 2).trans rfl
        have hcz23_3 : wr.cell? ⟨gb111, 3, none⟩ = some (.int .u64 x112003_1) := (blk_cell BK111.out 3).trans rfl
        have hfz23_0 := blk_frozen BK111.out 0
        have hfz23_1 := blk_frozen BK111.out 1
        have hfz23_2 := blk_frozen BK111.out 2
        have hfz23_3 := blk_frozen BK111.out 3
        have tc0_ := Aside0.mk (fun w0_ => kauditref23_words_take.calls x112000_1 x112001_1 x112002_1 x112003_1 (Go.bits .or .u64 x6_1 (((l1.length : Int) % 256) * 72057594037927936)) t117 t118 t119 t120 w0_ A20.out)
        have tc1_ := Aside0.mk (fun w0_ => kauditref23_words_rounds.calls t117 t118 (Go.bits .xor .u64 t119 255) t120 4 t121 t122 t123 t124 w0_ A21.out)
        go_upto_region 11 with ((go_at_call 32; refine (tc0_.out _).mono ?_; rintro e w24 ⟨rfl, hb⟩; have n0_ := Aside0.mk (blk_below (g := gb110) (o := .cells #[.int .u64 a0_0, .int .u64 a0_1] 24 (0, 0)) (by (with_reducible repeat (first | refine blk_drewN ?_ _ | refine blk_drew ?_ | refine blk_alloc ?_ _)); exact BK110.out) hb); have n1_ := Aside0.mk (blk_below (g := gb111) (o := .cells #[.int .u64 x112000_1, .int .u64 x112001_1, .int .u64 x112002_1, .int .u64 x112003_1] 53 (0, 0)) (by (with_reducible repeat (first | refine blk_drewN ?_ _ | refine blk_drew ?_ | refine blk_alloc ?_ _)); exact BK111.out) hb); have n2_ := Aside0.mk (below_step (by repeat (first | (with_reducible first | exact HB.out | apply below_alloc | apply pw_below_drewN | apply below_drew1 | refine below_set ?_ GE110.out | refine below_set ?_ GE111.out) | exact HB.out)) hb); clear BK110; clear BK111; clear HB; have BK110 := n0_; have BK111 := n1_; have HB := n2_; clear n0_ n1_ n2_; (try clear hb); (try clear hb2); (try clear hk); (try clear hi); have hcz25_0 : w24.cell? ⟨gb111, 0, none⟩ = some (.int .u64 x112000_1) := (blk_cell BK111.out 0).trans rfl; have hcz25_1 : w24.cell? ⟨gb111, 1, none⟩ = some (.int .u64 x112001_1) := (blk_cell BK111.out 1).trans rfl; have hcz25_2 : w24.cell? ⟨gb111, 2, none⟩ = some (.int .u64 x112002_1) := (blk_cell BK111.out 2).trans rfl; have hcz25_3 : w24.cell? ⟨gb111, 3, none⟩ = some (.int .u64 x112003_1) := (blk_cell BK111.out 3).trans rfl; have hfz25_0 := blk_frozen BK111.out 0; have hfz25_1 := blk_frozen BK111.out 1; have hfz25_2 := blk_frozen BK111.out 2; have hfz25_3 := blk_frozen BK111.out 3))
        have e2 : ((((w24.setCell ⟨gb111, 0, none⟩ (.int .u64 t117)).setCell ⟨gb111, 1, none⟩ (.int .u64 t118)).setCell ⟨gb111, 2, none⟩ (.int .u64 t119)).setCell ⟨gb111, 3, none⟩ (.int .u64 t120)).heap[gb111]? = some (.cells #[.int .u64 t117, .int .u64 t118, .int .u64 t119, .int .u64 t120] 53 (0, 0)) := blk_put (blk_put (blk_put (blk_put BK111.out 0 _ rfl) 1 _ rfl) 2 _ rfl) 3 _ rfl
        go_upto_region 12 with fail
        have e3 : (((((w24.setCell ⟨gb111, 0, none⟩ (.int .u64 t117)).setCell ⟨gb111, 1, none⟩ (.int .u64 t118)).setCell ⟨gb111, 2, none⟩ (.int .u64 t119)).setCell ⟨gb111, 3, none⟩ (.int .u64 t120)).setCell ⟨gb111, 2, none⟩ (.int .u64 (Go.bits .xor .u64 t119 255))).heap[gb111]? = some (.cells #[.int .u64 t117, .int .u64 t118, .int .u64 (Go.bits .xor .u64 t119 255), .int .u64 t120] 53 (0, 0)) := blk_put e2 2 _ rfl
        have hBn : Below w.heap.size w (((((w24.setCell ⟨gb111, 0, none⟩ (.int .u64 t117)).setCell ⟨gb111, 1, none⟩ (.int .u64 t118)).setCell ⟨gb111, 2, none⟩ (.int .u64 t119)).setCell ⟨gb111, 3, none⟩ (.int .u64 t120)).setCell ⟨gb111, 2, none⟩ (.int .u64 (Go.bits .xor .u64 t119 255))) := below_set (below_set (below_set (below_set (below_set HB.out GE111.out) GE111.out) GE111.out) GE111.out) GE111.out
        clear e2
        generalize (((((w24.setCell ⟨gb111, 0, none⟩ (.int .u64 t117)).setCell ⟨gb111, 1, none⟩ (.int .u64 t118)).setCell ⟨gb111, 2, none⟩ (.int .u64 t119)).setCell ⟨gb111, 3, none⟩ (.int .u64 t120)).setCell ⟨gb111, 2, none⟩ (.int .u64 (Go.bits .xor .u64 t119 255))) = w25 at e3 hBn ⊢
        clear hcz25_0 hcz25_1 hcz25_2 hcz25_3 hfz25_0 hfz25_1 hfz25_2 hfz25_3
        generalize Go.bits .xor .u64 t119 255 = x119 at e3 tc1_ ⊢
        have c0 := (blk_cell e3 0).trans rfl
        have c1 := (blk_cell e3 1).trans rfl
        have c2 := (blk_cell e3 2).trans rfl
        have c3 := (blk_cell e3 3).trans rfl
        have E3 := Aside0.mk e3
        have HBn := Aside0.mk hBn
        clear e3 hBn
        go_upto_region 13 with (go_at_call 33; refine (tc1_.out _).mono ?_; rintro e w26 ⟨rfl, hb26⟩; have E4 := Aside0.mk (blk_below E3.out hb26); have HB26 := Aside0.mk (below_step HBn.out hb26); have f0 := blk_frozen E4.out 0; have f1 := blk_frozen E4.out 1; have f2 := blk_frozen E4.out 2; have f3 := blk_frozen E4.out 3; have d0 := (blk_cell E4.out 0).trans rfl; have d1 := (blk_cell E4.out 1).trans rfl; have d2 := (blk_cell E4.out 2).trans rfl; have d3 := (blk_cell E4.out 3).trans rfl; clear hb26)
        have e5 : ((((w26.setCell ⟨gb111, 0, none⟩ (.int .u64 t121)).setCell ⟨gb111, 1, none⟩ (.int .u64 t122)).setCell ⟨gb111, 2, none⟩ (.int .u64 t123)).setCell ⟨gb111, 3, none⟩ (.int .u64 t124)).heap[gb111]? = some (.cells #[.int .u64 t121, .int .u64 t122, .int .u64 t123, .int .u64 t124] 53 (0, 0)) := blk_put (blk_put (blk_put (blk_put E4.out 0 _ rfl) 1 _ rfl) 2 _ rfl) 3 _ rfl
        have hBm : Below w.heap.size w ((((w26.setCell ⟨gb111, 0, none⟩ (.int .u64 t121)).setCell ⟨gb111, 1, none⟩ (.int .u64 t122)).setCell ⟨gb111, 2, none⟩ (.int .u64 t123)).setCell ⟨gb111, 3, none⟩ (.int .u64 t124)) := below_set (below_set (below_set (below_set HB26.out GE111.out) GE111.out) GE111.out) GE111.out
        generalize ((((w26.setCell ⟨gb111, 0, none⟩ (.int .u64 t121)).setCell ⟨gb111, 1, none⟩ (.int .u64 t122)).setCell ⟨gb111, 2, none⟩ (.int .u64 t123)).setCell ⟨gb111, 3, none⟩ (.int .u64 t124)) = w27 at e5 hBm ⊢
        clear c0 c1 c2 c3 f0 f1 f2 f3 d0 d1 d2 d3
        have c0 := (blk_cell e5 0).trans rfl
        have c1 := (blk_cell e5 1).trans rfl
        have c2 := (blk_cell e5 2).trans rfl
        have c3 := (blk_cell e5 3).trans rfl
        have E5 := Aside0.mk e5
        have HBm := Aside0.mk hBm
        clear e5 hBm
        go_wp2
        go_ret
        exact ⟨rfl, HBm.out⟩
end Go.Proofs.Ytdgmjhfkaplneaa.PAll
