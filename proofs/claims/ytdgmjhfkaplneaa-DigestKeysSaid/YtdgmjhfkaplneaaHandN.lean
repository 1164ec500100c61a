-- Written by a program of this place's prover (wip/turn_print.py): not by hand.
import Derived.Test.YtdgmjhfkaplneaaPAllx0
import Derived.Test.YtdgmjhfkaplneaaHandM
import Derived.Test.YtdgmjhfkaplneaaHand
namespace Go.Proofs.Ytdgmjhfkaplneaa.PAll
open Go.RowKit Go.Proofs.YtdgmjhfkaplneaaW.PrintWords Go.Proofs.YtdgmjhfkaplneaaW.PrintLast Go.Proofs.YtdgmjhfkaplneaaW.PrintMore
attribute [local go_sem] max2_int min2_int max_two min_two max_three min_three max_four min_four   -- for this text's walks alone
set_option linter.unusedVariables false
set_option linter.unusedSimpArgs false

/-! ### digest_Next: function 16 -/
def digest_Next.f (a0_0 : Int) (a0_1 : Int) : Option (Int × Int) := (digest_Sum.f a0_0 a0_1 (([107, 101, 121, 32, 48] : List Int))).bind fun t158 => ((digest_Sum.f a0_0 a0_1 (([107, 101, 121, 32, 49] : List Int))).bind fun t162 => (some (t158, t162)))
def digest_Next.T1 : Bool × List (List Nat × List Nat) := (true, [([], []), ([], []), ([1], [1]), ([0, 2], [0, 2]), ([], []), ([], []), ([5], [5]), ([4, 6, 3], [4, 6]), ([3, 7], [3, 7]), ([8, 7, 0, 1, 2, 3, 4, 5, 6, 7, 8], [8])])
def digest_Next.B1 : List Nat := [0, 0, 2, 7, 0, 0, 32, 127, 255, 511]
theorem digest_Next.tab1 : rtab .any (opsOf Try.f16 1) = digest_Next.T1 := by kernel_rfl
theorem digest_Next.bits1 : waitsOk digest_Next.T1.2 digest_Next.B1 = true := by kernel_rfl
set_option maxHeartbeats 8000000 in
set_option maxRecDepth 100000 in
theorem digest_Next.calls (a0_0 : Int) (a0_1 : Int) (r1 : Int) (r2 : Int) (w : World) (h : digest_Next.f a0_0 a0_1 = some (r1, r2)) :
    Calls Try.prog 16 #[.agg #[.int .u64 a0_0, .int .u64 a0_1]] w fun e w' => e = .returned (.agg #[.int .u64 r1, .int .u64 r2]) ∧ Below w.heap.size w w' := by
  have hu24 := Try.underlying24
  have HB := Aside0.mk (Below.refl w.heap.size w)
  have H : ((digest_Sum.f a0_0 a0_1 (([107, 101, 121, 32, 48] : List Int))).bind fun t158 => ((digest_Sum.f a0_0 a0_1 (([107, 101, 121, 32, 49] : List Int))).bind fun t162 => (some (t158, t162)))) = some (r1, r2) := h
  clear h
  obtain ⟨y155, hy155⟩ : ∃ y_ : List Int, y_ = (([107, 101, 121, 32, 48] : List Int)) := ⟨_, rfl⟩
  replace H : ((digest_Sum.f a0_0 a0_1 y155).bind fun t158 => ((digest_Sum.f a0_0 a0_1 (([107, 101, 121, 32, 49] : List Int))).bind fun t162 => (some (t158, t162)))) = some (r1, r2) := by first | (rw [hy155]; with_reducible exact H) | (have H2_ := (Option.bind_some _ _).symm.trans H; rw [hy155]; with_reducible exact H2_) | (have H2_ := (Option.bind_some _ _).symm.trans H; with_reducible exact H2_) | with_reducible exact H | (rw [hy155]; exact H) | exact H
  have Ny155 := Aside0.mk hy155
  clear hy155
  replace H := Option.bind_eq_some_iff.mp H
  obtain ⟨t158, A20, H⟩ := H
  replace H : ((digest_Sum.f a0_0 a0_1 (([107, 101, 121, 32, 49] : List Int))).bind fun t162 => (some (t158, t162))) = some (r1, r2) := H
  have A2 := Aside0.mk A20
  clear A20
  obtain ⟨y159, hy159⟩ : ∃ y_ : List Int, y_ = (([107, 101, 121, 32, 49] : List Int)) := ⟨_, rfl⟩
  replace H : ((digest_Sum.f a0_0 a0_1 y159).bind fun t162 => (some (t158, t162))) = some (r1, r2) := by first | (rw [hy159]; with_reducible exact H) | (have H2_ := (Option.bind_some _ _).symm.trans H; rw [hy159]; with_reducible exact H2_) | (have H2_ := (Option.bind_some _ _).symm.trans H; with_reducible exact H2_) | with_reducible exact H | (rw [hy159]; exact H) | exact H
  have Ny159 := Aside0.mk hy159
  clear hy159
  replace H := Option.bind_eq_some_iff.mp H
  obtain ⟨t162, A30, H⟩ := H
  replace H : (some (t158, t162)) = some (r1, r2) := H
  have A3 := Aside0.mk A30
  clear A30
  simp only [Option.some.injEq, Prod.mk.injEq] at H
  obtain ⟨rfl, rfl⟩ := H
  go_enter Try.func16, Try.ntmps16
  try go_wp2_with (first | ((with_reducible refine gate_dst (N := 1) rfl ?_); refine box_event ?hg (N := 1) ?hd (cs := #[.int .u64 a0_0, .int .u64 a0_1]) (t := 24) ?hr ?_; (case hd => rfl); (case hg => rfl); (case hr => first | (go_simp; done) | (go_simp; rfl)); intro gb153 hg w4 hbox hb; have n0_ := Aside0.mk (below_step (by repeat (first | (with_reducible first | exact HB.out | apply below_alloc | apply pw_below_drewN | apply below_drew1) | exact HB.out)) hb); have n1_ := Aside0.mk (hbox); have n2_ := Aside0.mk ((by rw [hg]; exact (below_size (by repeat (first | (with_reducible first | exact HB.out | apply below_alloc | apply pw_below_drewN | apply below_drew1) | exact HB.out))) : w.heap.size ≤ gb153)); have n3_ := Aside0.mk ((by rw [hg]; exact (below_size (by repeat (first | (with_reducible first | exact HB.out | apply below_alloc | apply pw_below_drewN | apply below_drew1) | exact HB.out))) : w.heap.size ≤ gb153)); clear HB; have HB := n0_; have BK153 := n1_; have GW153 := n2_; have GE153 := n3_; clear n0_ n1_ n2_ n3_; clear hb hbox hg) | ((with_reducible refine gate_dst (N := 2) rfl ?_); refine box_event ?hg (N := 2) ?hd (cs := #[.int .u64 0, .int .u64 0]) (t := 24) ?hr ?_; (case hd => rfl); (case hg => rfl); (case hr => first | (go_simp; done) | (go_simp; rfl)); intro gb154 hg w5 hbox hb; have n0_ := Aside0.mk (blk_below (g := gb153) (o := .cells #[.int .u64 a0_0, .int .u64 a0_1] 24 (0, 0)) (by (with_reducible repeat (first | refine blk_drewN ?_ _ | refine blk_drew ?_ | refine blk_alloc ?_ _)); exact BK153.out) hb); have n1_ := Aside0.mk (below_step (by repeat (first | (with_reducible first | exact HB.out | apply below_alloc | apply pw_below_drewN | apply below_drew1 | refine below_set ?_ GE153.out) | exact HB.out)) hb); have n2_ := Aside0.mk (hbox); have n3_ := Aside0.mk ((by rw [hg]; exact (below_size (by repeat (first | (with_reducible first | exact HB.out | apply below_alloc | apply pw_below_drewN | apply below_drew1 | refine below_set ?_ GE153.out) | exact HB.out))) : w.heap.size ≤ gb154)); have n4_ := Aside0.mk ((by rw [hg]; exact (below_size (by repeat (first | (with_reducible first | exact HB.out | apply below_alloc | apply pw_below_drewN | apply below_drew1 | refine below_set ?_ GE153.out) | exact HB.out))) : w.heap.size ≤ gb154)); have n5_ := Aside0.mk ((by rw [hg]; exact Nat.ne_of_lt (blk_lt (g := gb153) (o := .cells #[.int .u64 a0_0, .int .u64 a0_1] 24 (0, 0)) (by (with_reducible repeat (first | refine blk_drewN ?_ _ | refine blk_drew ?_ | refine blk_alloc ?_ _)); exact BK153.out)) : gb153 ≠ gb154)); have n6_ := Aside0.mk ((by rw [hg]; exact Nat.ne_of_gt (blk_lt (g := gb153) (o := .cells #[.int .u64 a0_0, .int .u64 a0_1] 24 (0, 0)) (by (with_reducible repeat (first | refine blk_drewN ?_ _ | refine blk_drew ?_ | refine blk_alloc ?_ _)); exact BK153.out)) : gb154 ≠ gb153)); clear BK153; clear HB; have BK153 := n0_; have HB := n1_; have BK154 := n2_; have GW154 := n3_; have GE154 := n4_; have NB153_154 := n5_; have NB154_153 := n6_; clear n0_ n1_ n2_ n3_ n4_ n5_ n6_; clear hb hbox hg))
  have n0_ := Aside0.mk (blk_drew BK153.out)
  have n1_ := Aside0.mk (blk_drew BK154.out)
  have n2_ := Aside0.mk (below_drew1 HB.out)
  clear BK153
  clear BK154
  clear HB
  have BK153 := n0_
  have BK154 := n1_
  have HB := n2_
  clear n0_ n1_ n2_
  refine start_ (n := 10) (S := fun w' => True) (ds := []) #[false, false, false, false, false, false, false, false, false, false] (by kernel_rfl) rfl rfl trivial (fun hHeld => ?_); refine with_tabW digest_Next.tab1 digest_Next.bits1 (fun HT_ HW_ => ?_)
  generalize w5.drew = w6 at BK153 BK154 HB hHeld ⊢
  refine inv_at [0, 1, 2, 3, 4, 5, 6, 7, 8, 9] (fun a0_ b a w' => ∃ (v156 : Value) (v160 : Value) (m2_ : Value) (m6_ : Value), a = putSel a0_ b [(0, 3, .agg #[.int .u64 a0_0, .int .u64 a0_1]), (1, 4, v156), (2, 5, m2_), (3, 6, .int .u64 t158), (4, 7, .agg #[.int .u64 a0_0, .int .u64 a0_1]), (5, 8, v160), (6, 9, m6_), (7, 10, .int .u64 t162), (8, 11, .agg #[.int .u64 t158, .int .u64 t162])] ∧ (w'.heap[gb153]? = some (.cells #[.int .u64 a0_0, .int .u64 a0_1] 24 (0, 0))) ∧ (b 9 = false → w'.heap[gb154]? = some (.cells #[.int .u64 0, .int .u64 0] 24 (0, 0))) ∧ (Below w.heap.size w w') ∧ (b 1 = true → Rw 5 w' w.heap.size v156 y155) ∧ (b 5 = true → Rw 5 w' w.heap.size v160 y159) ∧ (b 9 = true → w'.heap[gb154]? = some (.cells #[.int .u64 t158, .int .u64 t162] 24 (0, 0))) ∧ (b 2 = true → (m2_ : Value) = v156) ∧ (b 6 = true → (m6_ : Value) = v160)) HT_.out HW_.out (by kernel_rfl) (by kernel_rfl) ?_ ?_ ?_
  · exact ⟨.bool false, .bool false, .bool false, .bool false, by simp only [putSel, Bool.false_eq_true, if_false], BK153.out, fun _ => BK154.out, HB.out, fun h_ => absurd h_ (by decide), fun h_ => absurd h_ (by decide), fun h_ => absurd h_ (by decide), fun h_ => absurd h_ (by decide), fun h_ => absurd h_ (by decide)⟩
  · skip
    clear BK153 BK154 HB
    refine steps_cons ?_ ?_
    · rintro b a w' ⟨v156, v160, m2_, m6_, ha, Q_BK153, Q_BK154, Q_HB, Q_HO157, Q_HO161, Q_BK154_e9, Q_X2_, Q_X6_⟩ hb_ hon hoff
      refine ⟨_, rfl, fun K hK => ?_⟩
      have e1 : a.tmps[1]? = some (.pointer (some ⟨gb153, 0, none⟩)) := by rw [ha]; exact (putSel_off rfl).trans rfl
      replace ha := Aside0.mk ha
      have BK153 := Aside0.mk Q_BK153
      have BK154 := Aside0.mk (Q_BK154 (hoff 9 (by kernel_rfl)))
      have HB := Aside0.mk Q_HB
      have hc0_ : w'.cell? ⟨gb153, 0, none⟩ = some (.int .u64 a0_0) := (blk_cell BK153.out 0).trans rfl
      have hc1_ : w'.cell? ⟨gb153, 1, none⟩ = some (.int .u64 a0_1) := (blk_cell BK153.out 1).trans rfl
      refine value_ (w1 := w') (v := .agg #[.int .u64 a0_0, .int .u64 a0_1]) (by rfl) rfl ?_ ?_
      · go_simp
        (try simp only [i64_w])
        try rfl
      refine hK.out _ _ ⟨v156, v160, m2_, m6_, (by rw [ha.out]; exact putSel_upk 0 hb_ rfl rfl rfl), Q_BK153, Q_BK154, Q_HB, Q_HO157, Q_HO161, fun h0_ => absurd ((hoff 9 (by kernel_rfl)).symm.trans h0_) (by decide), Q_X2_, Q_X6_⟩
    refine steps_cons ?_ ?_
    · rintro b a w' ⟨v156, v160, m2_, m6_, ha, Q_BK153, Q_BK154, Q_HB, Q_HO157, Q_HO161, Q_BK154_e9, Q_X2_, Q_X6_⟩ hb_ hon hoff
      refine ⟨_, rfl, fun K hK => ?_⟩
      replace ha := Aside0.mk ha
      have BK153 := Aside0.mk Q_BK153
      have BK154 := Aside0.mk (Q_BK154 (hoff 9 (by kernel_rfl)))
      have HB := Aside0.mk Q_HB
      refine Kd.R_lit_step (Kd.int .u8) _ 5 ?hg (N := 4) ?hd (xs := ([107, 101, 121, 32, 48] : List Int)) (inner := [.int .u8 107, .int .u8 101, .int .u8 121, .int .u8 32, .int .u8 48]) (ok := fun _ => True) (okp := fun _ => True) ?hr ?hp (fun _ hk => hk) trivial (Below.refl _ _) (Nat.le_refl _) (by simp) ?_; (case hd => rfl); (case hg => rfl); (case hr => first | (go_simp; done) | (go_simp; rfl)); (case hp => exact (Reps.one (show Kd.M (Kd.int .u8) _ _ _ 107 [.int .u8 107] from rfl) (Reps.one (show Kd.M (Kd.int .u8) _ _ _ 101 [.int .u8 101] from rfl) (Reps.one (show Kd.M (Kd.int .u8) _ _ _ 121 [.int .u8 121] from rfl) (Reps.one (show Kd.M (Kd.int .u8) _ _ _ 32 [.int .u8 32] from rfl) (Reps.one (show Kd.M (Kd.int .u8) _ _ _ 48 [.int .u8 48] from rfl) (Reps.none _ _)))))))
      intro v156 w7 ho8 hb hg_ hnew_
      clear hg_
      obtain ⟨nb_, hn_, _⟩ := hnew_
      (first | rw [← Ny155.out] at ho8 | (simp only [Int.reduceToNat] at ho8; rw [← Ny155.out] at ho8))
      have n0_ := Aside0.mk (Rw_of_R (Kd.R_lower ho8 (below_size (by repeat (first | (with_reducible first | exact HB.out | apply below_alloc | apply pw_below_drewN | apply below_drew1 | refine below_set ?_ GE153.out | refine below_set ?_ GE154.out) | exact HB.out)))) hn_)
      have n1_ := Aside0.mk (blk_below (g := gb153) (o := .cells #[.int .u64 a0_0, .int .u64 a0_1] 24 (0, 0)) (by (with_reducible repeat (first | refine blk_drewN ?_ _ | refine blk_drew ?_ | refine blk_alloc ?_ _)); exact BK153.out) hb)
      have n2_ := Aside0.mk (blk_below (g := gb154) (o := .cells #[.int .u64 0, .int .u64 0] 24 (0, 0)) (by (with_reducible repeat (first | refine blk_drewN ?_ _ | refine blk_drew ?_ | refine blk_alloc ?_ _)); exact BK154.out) hb)
      have n3_ := Aside0.mk (below_step (by repeat (first | (with_reducible first | exact HB.out | apply below_alloc | apply pw_below_drewN | apply below_drew1 | refine below_set ?_ GE153.out | refine below_set ?_ GE154.out) | exact HB.out)) hb)
      have z_HO161 := fun (h0_ : b 5 = true) => Rw_below (Q_HO161 h0_) hb
      clear BK153
      clear BK154
      clear HB
      have HO157 := n0_
      have BK153 := n1_
      have BK154 := n2_
      have HB := n3_
      clear n0_ n1_ n2_ n3_
      clear hb ho8 hn_
      refine hK.out _ _ ⟨v156, v160, m2_, m6_, (by rw [ha.out]; exact putSel_upk 1 hb_ rfl rfl rfl), (by (with_reducible repeat (first | refine blk_drewN ?_ _ | refine blk_drew ?_ | refine blk_alloc ?_ _)); exact BK153.out), fun _ => (by (with_reducible repeat (first | refine blk_drewN ?_ _ | refine blk_drew ?_ | refine blk_alloc ?_ _)); exact BK154.out), (by repeat (first | (with_reducible first | exact HB.out | apply below_alloc | apply pw_below_drewN | apply below_drew1 | refine below_set ?_ GE153.out | refine below_set ?_ GE154.out) | exact HB.out)), fun _ => (by (with_reducible repeat (first | apply Kd.R_alloc | apply Kd.R_drewN | apply Kd.R_drew)); exact HO157.out), z_HO161, fun h0_ => absurd ((hoff 9 (by kernel_rfl)).symm.trans h0_) (by decide), fun h0_ => absurd ((hoff 2 (by kernel_rfl)).symm.trans h0_) (by decide), Q_X6_⟩
    refine steps_cons ?_ ?_
    · rintro b a w' ⟨v156, v160, m2_, m6_, ha, Q_BK153, Q_BK154, Q_HB, Q_HO157, Q_HO161, Q_BK154_e9, Q_X2_, Q_X6_⟩ hb_ hon hoff
      refine ⟨_, rfl, fun K hK => ?_⟩
      have e4 : a.tmps[4]? = some (v156) := by rw [ha]; exact putSel_on (e := (1, 4, v156)) 1 rfl rfl (hon 1 (by kernel_rfl)) rfl
      replace ha := Aside0.mk ha
      have BK153 := Aside0.mk Q_BK153
      have BK154 := Aside0.mk (Q_BK154 (hoff 9 (by kernel_rfl)))
      have HB := Aside0.mk Q_HB
      have HO157 := Aside0.mk (Q_HO157 (hon 1 (by kernel_rfl)))
      obtain ⟨Ao2_0, co2_0, eo_⟩ := Rw_slice HO157.out
      subst eo_
      obtain ⟨W1, hcr, hmk⟩ := conv_marks (P := Try.prog) (t := 25) HO157.out Try.underlying25 Try.underlying5
      refine value_ (w1 := W1) (v := .slice Ao2_0 y155.length co2_0) (by rfl) rfl ?_ ?_
      · go_simp
        (try simp only [i64_w])
        try rfl
      refine hK.out _ _ ⟨.slice Ao2_0 y155.length co2_0, v160, (.slice Ao2_0 y155.length co2_0), m6_, (by rw [ha.out]; exact putSel_upk 2 hb_ rfl rfl rfl), (hmk.2.1 _ _ _ (by decide) BK153.out), (fun _ => hmk.2.1 _ _ _ (by decide) BK154.out), (HB.out.trans hmk.1), (fun h9_ => hmk.2.2 _ _ _ (Q_HO157 h9_)), (fun h9_ => hmk.2.2 _ _ _ (Q_HO161 h9_)), fun h0_ => absurd ((hoff 9 (by kernel_rfl)).symm.trans h0_) (by decide), fun _ => rfl, Q_X6_⟩
    refine steps_cons ?_ ?_
    · rintro b a w' ⟨v156, v160, m2_, m6_, ha, Q_BK153, Q_BK154, Q_HB, Q_HO157, Q_HO161, Q_BK154_e9, Q_X2_, Q_X6_⟩ hb_ hon hoff
      refine ⟨_, rfl, fun K hK => ?_⟩
      have e3 : a.tmps[3]? = some (.agg #[.int .u64 a0_0, .int .u64 a0_1]) := by rw [ha]; exact putSel_on (e := (0, 3, .agg #[.int .u64 a0_0, .int .u64 a0_1])) 0 rfl rfl (hon 0 (by kernel_rfl)) rfl
      have e5 : a.tmps[5]? = some (m2_) := by rw [ha]; exact putSel_on (e := (2, 5, m2_)) 2 rfl rfl (hon 2 (by kernel_rfl)) rfl
      rw [Q_X2_ (hon 2 (by kernel_rfl))] at e5
      replace ha := Aside0.mk ha
      have BK153 := Aside0.mk Q_BK153
      have BK154 := Aside0.mk (Q_BK154 (hoff 9 (by kernel_rfl)))
      have HB := Aside0.mk Q_HB
      have HO157 := Aside0.mk (Q_HO157 (hon 1 (by kernel_rfl)))
      obtain ⟨Ao10, co10, eo10⟩ := Rw_slice HO157.out
      (first | subst eo10 | (injection eo10 with f1_ f2_ f3_; have f4_ := f1_.symm; have f5_ := f3_.symm; clear f1_ f2_ f3_; subst f4_; subst f5_))
      refine goes_ Try.func9 (by kernel_rfl) rfl #[.agg #[.int .u64 a0_0, .int .u64 a0_1], .slice Ao10 y155.length co10] (by rfl) rfl rfl (by first | (simp only [List.map_toArray, List.map_cons, List.map_nil, Act.eval, Array.getD_eq_getD_getElem?, Option.getD_some, e3, e5]; done) | (simp only [List.map_toArray, List.map_cons, List.map_nil, Act.eval, Array.getD_eq_getD_getElem?, Option.getD_some, e3, e5]; rfl)) ?_
      with_reducible refine (digest_Sum.calls a0_0 a0_1 _ _ y155 t158 _ ?side1 ?side2 A2.out).mono ?_
      (case side1 => repeat (first | exact (Rw_C HO157.out).2.2 | (with_reducible refine Kd.C_alloc ?_ _) | (with_reducible refine Kd.C_drewN ?_ _) | (with_reducible refine Kd.C_drew ?_)))
      (case side2 => exact (Rw_C HO157.out).2.1)
      rintro e w11 ⟨rfl, hb⟩
      refine ⟨_, rfl, ?_⟩
      have n0_ := Aside0.mk (Rw_below HO157.out hb)
      have n1_ := Aside0.mk (blk_below (g := gb153) (o := .cells #[.int .u64 a0_0, .int .u64 a0_1] 24 (0, 0)) (by (with_reducible repeat (first | refine blk_drewN ?_ _ | refine blk_drew ?_ | refine blk_alloc ?_ _)); exact BK153.out) hb)
      have n2_ := Aside0.mk (blk_below (g := gb154) (o := .cells #[.int .u64 0, .int .u64 0] 24 (0, 0)) (by (with_reducible repeat (first | refine blk_drewN ?_ _ | refine blk_drew ?_ | refine blk_alloc ?_ _)); exact BK154.out) hb)
      have n3_ := Aside0.mk (below_step (by repeat (first | (with_reducible first | exact HB.out | apply below_alloc | apply pw_below_drewN | apply below_drew1 | refine below_set ?_ GE153.out | refine below_set ?_ GE154.out) | exact HB.out)) hb)
      have z_HO161 := fun (h0_ : b 5 = true) => Rw_below (Q_HO161 h0_) hb
      clear HO157
      clear BK153
      clear BK154
      clear HB
      have HO157 := n0_
      have BK153 := n1_
      have BK154 := n2_
      have HB := n3_
      clear n0_ n1_ n2_ n3_
      (try clear hb)
      (try clear hb2)
      (try clear hk)
      (try clear hi)
      refine hK.out _ _ ⟨.slice Ao10 y155.length co10, v160, m2_, m6_, (by rw [ha.out]; exact putSel_upk 3 hb_ rfl rfl rfl), (by (with_reducible repeat (first | refine blk_drewN ?_ _ | refine blk_drew ?_ | refine blk_alloc ?_ _)); exact BK153.out), fun _ => (by (with_reducible repeat (first | refine blk_drewN ?_ _ | refine blk_drew ?_ | refine blk_alloc ?_ _)); exact BK154.out), (by repeat (first | (with_reducible first | exact HB.out | apply below_alloc | apply pw_below_drewN | apply below_drew1 | refine below_set ?_ GE153.out | refine below_set ?_ GE154.out) | exact HB.out)), fun _ => (by (with_reducible repeat (first | apply Kd.R_alloc | apply Kd.R_drewN | apply Kd.R_drew)); exact HO157.out), z_HO161, fun h0_ => absurd ((hoff 9 (by kernel_rfl)).symm.trans h0_) (by decide), Q_X2_, Q_X6_⟩
    refine steps_cons ?_ ?_
    · rintro b a w' ⟨v156, v160, m2_, m6_, ha, Q_BK153, Q_BK154, Q_HB, Q_HO157, Q_HO161, Q_BK154_e9, Q_X2_, Q_X6_⟩ hb_ hon hoff
      refine ⟨_, rfl, fun K hK => ?_⟩
      have e1 : a.tmps[1]? = some (.pointer (some ⟨gb153, 0, none⟩)) := by rw [ha]; exact (putSel_off rfl).trans rfl
      replace ha := Aside0.mk ha
      have BK153 := Aside0.mk Q_BK153
      have BK154 := Aside0.mk (Q_BK154 (hoff 9 (by kernel_rfl)))
      have HB := Aside0.mk Q_HB
      have hc0_ : w'.cell? ⟨gb153, 0, none⟩ = some (.int .u64 a0_0) := (blk_cell BK153.out 0).trans rfl
      have hc1_ : w'.cell? ⟨gb153, 1, none⟩ = some (.int .u64 a0_1) := (blk_cell BK153.out 1).trans rfl
      refine value_ (w1 := w') (v := .agg #[.int .u64 a0_0, .int .u64 a0_1]) (by rfl) rfl ?_ ?_
      · go_simp
        (try simp only [i64_w])
        try rfl
      refine hK.out _ _ ⟨v156, v160, m2_, m6_, (by rw [ha.out]; exact putSel_upk 4 hb_ rfl rfl rfl), Q_BK153, Q_BK154, Q_HB, Q_HO157, Q_HO161, fun h0_ => absurd ((hoff 9 (by kernel_rfl)).symm.trans h0_) (by decide), Q_X2_, Q_X6_⟩
    refine steps_cons ?_ ?_
    · rintro b a w' ⟨v156, v160, m2_, m6_, ha, Q_BK153, Q_BK154, Q_HB, Q_HO157, Q_HO161, Q_BK154_e9, Q_X2_, Q_X6_⟩ hb_ hon hoff
      refine ⟨_, rfl, fun K hK => ?_⟩
      replace ha := Aside0.mk ha
      have BK153 := Aside0.mk Q_BK153
      have BK154 := Aside0.mk (Q_BK154 (hoff 9 (by kernel_rfl)))
      have HB := Aside0.mk Q_HB
      refine Kd.R_lit_step (Kd.int .u8) _ 5 ?hg (N := 8) ?hd (xs := ([107, 101, 121, 32, 49] : List Int)) (inner := [.int .u8 107, .int .u8 101, .int .u8 121, .int .u8 32, .int .u8 49]) (ok := fun _ => True) (okp := fun _ => True) ?hr ?hp (fun _ hk => hk) trivial (Below.refl _ _) (Nat.le_refl _) (by simp) ?_; (case hd => rfl); (case hg => rfl); (case hr => first | (go_simp; done) | (go_simp; rfl)); (case hp => exact (Reps.one (show Kd.M (Kd.int .u8) _ _ _ 107 [.int .u8 107] from rfl) (Reps.one (show Kd.M (Kd.int .u8) _ _ _ 101 [.int .u8 101] from rfl) (Reps.one (show Kd.M (Kd.int .u8) _ _ _ 121 [.int .u8 121] from rfl) (Reps.one (show Kd.M (Kd.int .u8) _ _ _ 32 [.int .u8 32] from rfl) (Reps.one (show Kd.M (Kd.int .u8) _ _ _ 49 [.int .u8 49] from rfl) (Reps.none _ _)))))))
      intro v160 w7 ho8 hb hg_ hnew_
      clear hg_
      obtain ⟨nb_, hn_, _⟩ := hnew_
      (first | rw [← Ny159.out] at ho8 | (simp only [Int.reduceToNat] at ho8; rw [← Ny159.out] at ho8))
      have n0_ := Aside0.mk (Rw_of_R (Kd.R_lower ho8 (below_size (by repeat (first | (with_reducible first | exact HB.out | apply below_alloc | apply pw_below_drewN | apply below_drew1 | refine below_set ?_ GE153.out | refine below_set ?_ GE154.out) | exact HB.out)))) hn_)
      have n1_ := Aside0.mk (blk_below (g := gb153) (o := .cells #[.int .u64 a0_0, .int .u64 a0_1] 24 (0, 0)) (by (with_reducible repeat (first | refine blk_drewN ?_ _ | refine blk_drew ?_ | refine blk_alloc ?_ _)); exact BK153.out) hb)
      have n2_ := Aside0.mk (blk_below (g := gb154) (o := .cells #[.int .u64 0, .int .u64 0] 24 (0, 0)) (by (with_reducible repeat (first | refine blk_drewN ?_ _ | refine blk_drew ?_ | refine blk_alloc ?_ _)); exact BK154.out) hb)
      have n3_ := Aside0.mk (below_step (by repeat (first | (with_reducible first | exact HB.out | apply below_alloc | apply pw_below_drewN | apply below_drew1 | refine below_set ?_ GE153.out | refine below_set ?_ GE154.out) | exact HB.out)) hb)
      have z_HO157 := fun (h0_ : b 1 = true) => Rw_below (Q_HO157 h0_) hb
      clear BK153
      clear BK154
      clear HB
      have HO161 := n0_
      have BK153 := n1_
      have BK154 := n2_
      have HB := n3_
      clear n0_ n1_ n2_ n3_
      clear hb ho8 hn_
      refine hK.out _ _ ⟨v156, v160, m2_, m6_, (by rw [ha.out]; exact putSel_upk 5 hb_ rfl rfl rfl), (by (with_reducible repeat (first | refine blk_drewN ?_ _ | refine blk_drew ?_ | refine blk_alloc ?_ _)); exact BK153.out), fun _ => (by (with_reducible repeat (first | refine blk_drewN ?_ _ | refine blk_drew ?_ | refine blk_alloc ?_ _)); exact BK154.out), (by repeat (first | (with_reducible first | exact HB.out | apply below_alloc | apply pw_below_drewN | apply below_drew1 | refine below_set ?_ GE153.out | refine below_set ?_ GE154.out) | exact HB.out)), z_HO157, fun _ => (by (with_reducible repeat (first | apply Kd.R_alloc | apply Kd.R_drewN | apply Kd.R_drew)); exact HO161.out), fun h0_ => absurd ((hoff 9 (by kernel_rfl)).symm.trans h0_) (by decide), Q_X2_, fun h0_ => absurd ((hoff 6 (by kernel_rfl)).symm.trans h0_) (by decide)⟩
    refine steps_cons ?_ ?_
    · rintro b a w' ⟨v156, v160, m2_, m6_, ha, Q_BK153, Q_BK154, Q_HB, Q_HO157, Q_HO161, Q_BK154_e9, Q_X2_, Q_X6_⟩ hb_ hon hoff
      refine ⟨_, rfl, fun K hK => ?_⟩
      have e8 : a.tmps[8]? = some (v160) := by rw [ha]; exact putSel_on (e := (5, 8, v160)) 5 rfl rfl (hon 5 (by kernel_rfl)) rfl
      replace ha := Aside0.mk ha
      have BK153 := Aside0.mk Q_BK153
      have BK154 := Aside0.mk (Q_BK154 (hoff 9 (by kernel_rfl)))
      have HB := Aside0.mk Q_HB
      have HO161 := Aside0.mk (Q_HO161 (hon 5 (by kernel_rfl)))
      obtain ⟨Ao6_0, co6_0, eo_⟩ := Rw_slice HO161.out
      subst eo_
      obtain ⟨W1, hcr, hmk⟩ := conv_marks (P := Try.prog) (t := 25) HO161.out Try.underlying25 Try.underlying5
      refine value_ (w1 := W1) (v := .slice Ao6_0 y159.length co6_0) (by rfl) rfl ?_ ?_
      · go_simp
        (try simp only [i64_w])
        try rfl
      refine hK.out _ _ ⟨v156, .slice Ao6_0 y159.length co6_0, m2_, (.slice Ao6_0 y159.length co6_0), (by rw [ha.out]; exact putSel_upk 6 hb_ rfl rfl rfl), (hmk.2.1 _ _ _ (by decide) BK153.out), (fun _ => hmk.2.1 _ _ _ (by decide) BK154.out), (HB.out.trans hmk.1), (fun h9_ => hmk.2.2 _ _ _ (Q_HO157 h9_)), (fun h9_ => hmk.2.2 _ _ _ (Q_HO161 h9_)), fun h0_ => absurd ((hoff 9 (by kernel_rfl)).symm.trans h0_) (by decide), Q_X2_, fun _ => rfl⟩
    refine steps_cons ?_ ?_
    · rintro b a w' ⟨v156, v160, m2_, m6_, ha, Q_BK153, Q_BK154, Q_HB, Q_HO157, Q_HO161, Q_BK154_e9, Q_X2_, Q_X6_⟩ hb_ hon hoff
      refine ⟨_, rfl, fun K hK => ?_⟩
      have e7 : a.tmps[7]? = some (.agg #[.int .u64 a0_0, .int .u64 a0_1]) := by rw [ha]; exact putSel_on (e := (4, 7, .agg #[.int .u64 a0_0, .int .u64 a0_1])) 4 rfl rfl (hon 4 (by kernel_rfl)) rfl
      have e9 : a.tmps[9]? = some (m6_) := by rw [ha]; exact putSel_on (e := (6, 9, m6_)) 6 rfl rfl (hon 6 (by kernel_rfl)) rfl
      rw [Q_X6_ (hon 6 (by kernel_rfl))] at e9
      replace ha := Aside0.mk ha
      have BK153 := Aside0.mk Q_BK153
      have BK154 := Aside0.mk (Q_BK154 (hoff 9 (by kernel_rfl)))
      have HB := Aside0.mk Q_HB
      have HO157 := Aside0.mk (Q_HO157 (hon 1 (by kernel_rfl)))
      have HO161 := Aside0.mk (Q_HO161 (hon 5 (by kernel_rfl)))
      obtain ⟨Ao14, co14, eo14⟩ := Rw_slice HO161.out
      (first | subst eo14 | (injection eo14 with f1_ f2_ f3_; have f4_ := f1_.symm; have f5_ := f3_.symm; clear f1_ f2_ f3_; subst f4_; subst f5_))
      refine goes_ Try.func9 (by kernel_rfl) rfl #[.agg #[.int .u64 a0_0, .int .u64 a0_1], .slice Ao14 y159.length co14] (by rfl) rfl rfl (by first | (simp only [List.map_toArray, List.map_cons, List.map_nil, Act.eval, Array.getD_eq_getD_getElem?, Option.getD_some, e7, e9]; done) | (simp only [List.map_toArray, List.map_cons, List.map_nil, Act.eval, Array.getD_eq_getD_getElem?, Option.getD_some, e7, e9]; rfl)) ?_
      with_reducible refine (digest_Sum.calls a0_0 a0_1 _ _ y159 t162 _ ?side1 ?side2 A3.out).mono ?_
      (case side1 => repeat (first | exact (Rw_C HO161.out).2.2 | (with_reducible refine Kd.C_alloc ?_ _) | (with_reducible refine Kd.C_drewN ?_ _) | (with_reducible refine Kd.C_drew ?_)))
      (case side2 => exact (Rw_C HO161.out).2.1)
      rintro e w15 ⟨rfl, hb⟩
      refine ⟨_, rfl, ?_⟩
      have n0_ := Aside0.mk (Rw_below HO157.out hb)
      have n1_ := Aside0.mk (Rw_below HO161.out hb)
      have n2_ := Aside0.mk (blk_below (g := gb153) (o := .cells #[.int .u64 a0_0, .int .u64 a0_1] 24 (0, 0)) (by (with_reducible repeat (first | refine blk_drewN ?_ _ | refine blk_drew ?_ | refine blk_alloc ?_ _)); exact BK153.out) hb)
      have n3_ := Aside0.mk (blk_below (g := gb154) (o := .cells #[.int .u64 0, .int .u64 0] 24 (0, 0)) (by (with_reducible repeat (first | refine blk_drewN ?_ _ | refine blk_drew ?_ | refine blk_alloc ?_ _)); exact BK154.out) hb)
      have n4_ := Aside0.mk (below_step (by repeat (first | (with_reducible first | exact HB.out | apply below_alloc | apply pw_below_drewN | apply below_drew1 | refine below_set ?_ GE153.out | refine below_set ?_ GE154.out) | exact HB.out)) hb)
      clear HO157
      clear HO161
      clear BK153
      clear BK154
      clear HB
      have HO157 := n0_
      have HO161 := n1_
      have BK153 := n2_
      have BK154 := n3_
      have HB := n4_
      clear n0_ n1_ n2_ n3_ n4_
      (try clear hb)
      (try clear hb2)
      (try clear hk)
      (try clear hi)
      refine hK.out _ _ ⟨v156, .slice Ao14 y159.length co14, m2_, m6_, (by rw [ha.out]; exact putSel_upk 7 hb_ rfl rfl rfl), (by (with_reducible repeat (first | refine blk_drewN ?_ _ | refine blk_drew ?_ | refine blk_alloc ?_ _)); exact BK153.out), fun _ => (by (with_reducible repeat (first | refine blk_drewN ?_ _ | refine blk_drew ?_ | refine blk_alloc ?_ _)); exact BK154.out), (by repeat (first | (with_reducible first | exact HB.out | apply below_alloc | apply pw_below_drewN | apply below_drew1 | refine below_set ?_ GE153.out | refine below_set ?_ GE154.out) | exact HB.out)), fun _ => (by (with_reducible repeat (first | apply Kd.R_alloc | apply Kd.R_drewN | apply Kd.R_drew)); exact HO157.out), fun _ => (by (with_reducible repeat (first | apply Kd.R_alloc | apply Kd.R_drewN | apply Kd.R_drew)); exact HO161.out), fun h0_ => absurd ((hoff 9 (by kernel_rfl)).symm.trans h0_) (by decide), Q_X2_, Q_X6_⟩
    refine steps_cons ?_ ?_
    · rintro b a w' ⟨v156, v160, m2_, m6_, ha, Q_BK153, Q_BK154, Q_HB, Q_HO157, Q_HO161, Q_BK154_e9, Q_X2_, Q_X6_⟩ hb_ hon hoff
      refine ⟨_, rfl, fun K hK => ?_⟩
      have e6 : a.tmps[6]? = some (.int .u64 t158) := by rw [ha]; exact putSel_on (e := (3, 6, .int .u64 t158)) 3 rfl rfl (hon 3 (by kernel_rfl)) rfl
      have e10 : a.tmps[10]? = some (.int .u64 t162) := by rw [ha]; exact putSel_on (e := (7, 10, .int .u64 t162)) 7 rfl rfl (hon 7 (by kernel_rfl)) rfl
      replace ha := Aside0.mk ha
      have BK153 := Aside0.mk Q_BK153
      have BK154 := Aside0.mk (Q_BK154 (hoff 9 (by kernel_rfl)))
      have HB := Aside0.mk Q_HB
      have HO157 := Aside0.mk (Q_HO157 (hon 1 (by kernel_rfl)))
      have HO161 := Aside0.mk (Q_HO161 (hon 5 (by kernel_rfl)))
      refine value_ (w1 := w') (v := .agg #[.int .u64 t158, .int .u64 t162]) (by rfl) rfl ?_ ?_
      · go_simp
        (try simp only [i64_w])
        try rfl
      refine hK.out _ _ ⟨v156, v160, m2_, m6_, (by rw [ha.out]; exact putSel_upk 8 hb_ rfl rfl rfl), Q_BK153, Q_BK154, Q_HB, Q_HO157, Q_HO161, fun h0_ => absurd ((hoff 9 (by kernel_rfl)).symm.trans h0_) (by decide), Q_X2_, Q_X6_⟩
    refine steps_cons ?_ ?_
    · rintro b a w' ⟨v156, v160, m2_, m6_, ha, Q_BK153, Q_BK154, Q_HB, Q_HO157, Q_HO161, Q_BK154_e9, Q_X2_, Q_X6_⟩ hb_ hon hoff
      refine ⟨_, rfl, fun K hK => ?_⟩
      have e2 : a.tmps[2]? = some (.pointer (some ⟨gb154, 0, none⟩)) := by rw [ha]; exact (putSel_off rfl).trans rfl
      have e11 : a.tmps[11]? = some (.agg #[.int .u64 t158, .int .u64 t162]) := by rw [ha]; exact putSel_on (e := (8, 11, .agg #[.int .u64 t158, .int .u64 t162])) 8 rfl rfl (hon 8 (by kernel_rfl)) rfl
      replace ha := Aside0.mk ha
      have BK153 := Aside0.mk Q_BK153
      have BK154 := Aside0.mk (Q_BK154 hb_)
      have HB := Aside0.mk Q_HB
      have HO157 := Aside0.mk (Q_HO157 (hon 1 (by kernel_rfl)))
      have HO161 := Aside0.mk (Q_HO161 (hon 5 (by kernel_rfl)))
      have hs16 : w'.cell? ⟨gb154, 0, none⟩ = some (.int .u64 0) := (blk_cell BK154.out 0).trans rfl
      have hfs16 := blk_frozen BK154.out 0
      have hns16_0 := NB153_154.out
      have hms16_0 := NB154_153.out
      have hs17 : w'.cell? ⟨gb154, 1, none⟩ = some (.int .u64 0) := (blk_cell BK154.out 1).trans rfl
      have hfs17 := blk_frozen BK154.out 1
      have hns17_0 := NB153_154.out
      have hms17_0 := NB154_153.out
      refine skip_ (w1 := ?_) (by rfl) rfl ?_ ?_
      rotate_left
      · go_simp
        rfl
      refine hK.out _ _ ⟨v156, v160, m2_, m6_, (by rw [ha.out]; exact putSel_none (v := undef) rfl), (by (with_reducible repeat (first | refine blk_drewN ?_ _ | refine blk_drew ?_ | refine blk_alloc ?_ _)); refine blk_far ?_ NB153_154.out _; (with_reducible repeat (first | refine blk_drewN ?_ _ | refine blk_drew ?_ | refine blk_alloc ?_ _)); refine blk_far ?_ NB153_154.out _; (with_reducible repeat (first | refine blk_drewN ?_ _ | refine blk_drew ?_ | refine blk_alloc ?_ _)); exact BK153.out), fun h0_ => absurd ((up_self b 9).symm.trans h0_) (by decide), (by repeat (first | (with_reducible first | exact HB.out | apply below_alloc | apply pw_below_drewN | apply below_drew1 | refine below_set ?_ GE153.out | refine below_set ?_ GE154.out) | exact HB.out)), fun _ => (by (with_reducible repeat (first | apply Kd.R_alloc | apply Kd.R_drewN | apply Kd.R_drew)); exact Rw_far2 HO157.out BK154.out (by decide) _ _), fun _ => (by (with_reducible repeat (first | apply Kd.R_alloc | apply Kd.R_drewN | apply Kd.R_drew)); exact Rw_far2 HO161.out BK154.out (by decide) _ _), fun _ => (by (with_reducible repeat (first | refine blk_drewN ?_ _ | refine blk_drew ?_ | refine blk_alloc ?_ _)); refine blk_put (cs := #[.int .u64 t158, .int .u64 0]) ?_ 1 _ rfl; (with_reducible repeat (first | refine blk_drewN ?_ _ | refine blk_drew ?_ | refine blk_alloc ?_ _)); refine blk_put (cs := #[.int .u64 0, .int .u64 0]) ?_ 0 _ rfl; (with_reducible repeat (first | refine blk_drewN ?_ _ | refine blk_drew ?_ | refine blk_alloc ?_ _)); exact BK154.out), Q_X2_, Q_X6_⟩
    exact steps_nil
  rintro b a w17 hall ⟨v156, v160, m2_, m6_, ha, Q_BK153, Q_BK154, Q_HB, Q_HO157, Q_HO161, Q_BK154_e9, Q_X2_, Q_X6_⟩
  clear BK153 BK154 HB
  have hb0_ := hall 0 (by kernel_rfl)
  have hb1_ := hall 1 (by kernel_rfl)
  have hb2_ := hall 2 (by kernel_rfl)
  have hb3_ := hall 3 (by kernel_rfl)
  have hb4_ := hall 4 (by kernel_rfl)
  have hb5_ := hall 5 (by kernel_rfl)
  have hb6_ := hall 6 (by kernel_rfl)
  have hb7_ := hall 7 (by kernel_rfl)
  have hb8_ := hall 8 (by kernel_rfl)
  have hb9_ := hall 9 (by kernel_rfl)
  subst ha
  obtain rfl := Q_X2_ hb2_
  obtain rfl := Q_X6_ hb6_
  simp only [putSel, hb0_, hb1_, hb2_, hb3_, hb4_, hb5_, hb6_, hb7_, hb8_, hb9_, if_true, Act.put, List.setIfInBounds_toArray, List.set_cons_zero, List.set_cons_succ]
  have BK153 := Aside0.mk Q_BK153
  clear Q_BK153
  clear Q_BK154
  have HB := Aside0.mk Q_HB
  clear Q_HB
  have HO157 := Aside0.mk (Q_HO157 hb1_)
  clear Q_HO157
  have HO161 := Aside0.mk (Q_HO161 hb5_)
  clear Q_HO161
  have BK154 := Aside0.mk (Q_BK154_e9 hb9_)
  clear Q_BK154_e9
  clear hall hb0_ hb1_ hb2_ hb3_ hb4_ hb5_ hb6_ hb7_ hb8_ hb9_
  try go_wp2
  refine bodyPost_ret (results_cell_row rfl _ _ gb154 24 #[.int .u64 t158, .int .u64 t162] (0, 0) _ rfl (by (with_reducible repeat (first | refine blk_drewN ?_ _ | refine blk_drew ?_ | refine blk_alloc ?_ _)); exact BK154.out) Try.underlying24 rfl (by kernel_rfl)) rfl ?_
  exact ⟨by first | rfl | (simp [errW_none, errW_some] <;> rfl) | (simp [*, errW_none, errW_some] <;> rfl), by repeat (first | (with_reducible first | exact HB.out | apply below_alloc | apply pw_below_drewN | apply below_drew1 | refine below_set ?_ GE153.out | refine below_set ?_ GE154.out) | exact HB.out)⟩

end Go.Proofs.Ytdgmjhfkaplneaa.PAll
