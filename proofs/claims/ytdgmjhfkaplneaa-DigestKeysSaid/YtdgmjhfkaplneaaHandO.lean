-- Written by a program of this place's prover (wip/turn_print.py): not by hand.
import Derived.Test.YtdgmjhfkaplneaaPAllx0
import Derived.Test.YtdgmjhfkaplneaaHandM
import Derived.Test.YtdgmjhfkaplneaaHandS
namespace Go.Proofs.Ytdgmjhfkaplneaa.PAll
open Go.RowKit Go.Proofs.YtdgmjhfkaplneaaW.PrintWords Go.Proofs.YtdgmjhfkaplneaaW.PrintLast Go.Proofs.YtdgmjhfkaplneaaW.PrintMore
attribute [local go_sem] max2_int min2_int max_two min_two max_three min_three max_four min_four   -- for this text's walks alone
set_option linter.unusedVariables false
set_option linter.unusedSimpArgs false

/-! ### kauditref23_Next: function 19 -/
def kauditref23_Next.f (k : Nat) (a0_0 : Int) (a0_1 : Int) : Option (Int × Int) := (kauditref23_Sum.f k a0_0 a0_1 (([107, 101, 121, 32, 48] : List Int))).bind fun t188 => ((kauditref23_Sum.f k a0_0 a0_1 (([107, 101, 121, 32, 49] : List Int))).bind fun t192 => (some (t188, t192)))
theorem kauditref23_Next.mono : ∀ a0 a1 k, LeO (kauditref23_Next.f k a0 a1) (kauditref23_Next.f (k + 1) a0 a1) := by
  intro a0 a1 k
  unfold kauditref23_Next.f
  repeat' first
      | (with_reducible exact kauditref23_Sum.mono _ _ _ _)
      | (with_reducible exact LeO.refl _)
      | (with_reducible exact LeO.none _)
      | (with_reducible refine LeO.ite ?_ ?_)
      | (with_reducible refine LeO.bind ?_ (fun _ => ?_))
      | exact kauditref23_Sum.mono _ _ _ _
      | exact LeO.none _
      | refine LeO.ite ?_ ?_
      | refine LeO.bind ?_ (fun _ => ?_)
def kauditref23_Next.T1 : Bool × List (List Nat × List Nat) := (true, [([], []), ([], []), ([1], [1]), ([0, 2], [0, 2]), ([], []), ([], []), ([5], [5]), ([4, 6, 3], [4, 6]), ([3, 7], [3, 7]), ([8, 7, 0, 1, 2, 3, 4, 5, 6, 7, 8], [8])])
def kauditref23_Next.B1 : List Nat := [0, 0, 2, 7, 0, 0, 32, 127, 255, 511]
theorem kauditref23_Next.tab1 : rtab .any (opsOf Try.f19 1) = kauditref23_Next.T1 := by kernel_rfl
theorem kauditref23_Next.bits1 : waitsOk kauditref23_Next.T1.2 kauditref23_Next.B1 = true := by kernel_rfl
set_option maxHeartbeats 8000000 in
set_option maxRecDepth 100000 in
theorem kauditref23_Next.calls (k : Nat) (a0_0 : Int) (a0_1 : Int) (r1 : Int) (r2 : Int) (w : World) (h : kauditref23_Next.f k a0_0 a0_1 = some (r1, r2)) :
    Calls Try.prog 19 #[.agg #[.int .u64 a0_0, .int .u64 a0_1]] w fun e w' => e = .returned (.agg #[.int .u64 r1, .int .u64 r2]) ∧ Below w.heap.size w w' := by
  have hu24 := Try.underlying24
  have HB := Aside0.mk (Below.refl w.heap.size w)
  have H : ((kauditref23_Sum.f k a0_0 a0_1 (([107, 101, 121, 32, 48] : List Int))).bind fun t188 => ((kauditref23_Sum.f k a0_0 a0_1 (([107, 101, 121, 32, 49] : List Int))).bind fun t192 => (some (t188, t192)))) = some (r1, r2) := h
  clear h
  obtain ⟨y185, hy185⟩ : ∃ y_ : List Int, y_ = (([107, 101, 121, 32, 48] : List Int)) := ⟨_, rfl⟩
  replace H : ((kauditref23_Sum.f k a0_0 a0_1 y185).bind fun t188 => ((kauditref23_Sum.f k a0_0 a0_1 (([107, 101, 121, 32, 49] : List Int))).bind fun t192 => (some (t188, t192)))) = some (r1, r2) := by first | (rw [hy185]; with_reducible exact H) | (have H2_ := (Option.bind_some _ _).symm.trans H; rw [hy185]; with_reducible exact H2_) | (have H2_ := (Option.bind_some _ _).symm.trans H; with_reducible exact H2_) | with_reducible exact H | (rw [hy185]; exact H) | exact H
  have Ny185 := Aside0.mk hy185
  clear hy185
  replace H := Option.bind_eq_some_iff.mp H
  obtain ⟨t188, A20, H⟩ := H
  replace H : ((kauditref23_Sum.f k a0_0 a0_1 (([107, 101, 121, 32, 49] : List Int))).bind fun t192 => (some (t188, t192))) = some (r1, r2) := H
  have A2 := Aside0.mk A20
  clear A20
  obtain ⟨y189, hy189⟩ : ∃ y_ : List Int, y_ = (([107, 101, 121, 32, 49] : List Int)) := ⟨_, rfl⟩
  replace H : ((kauditref23_Sum.f k a0_0 a0_1 y189).bind fun t192 => (some (t188, t192))) = some (r1, r2) := by first | (rw [hy189]; with_reducible exact H) | (have H2_ := (Option.bind_some _ _).symm.trans H; rw [hy189]; with_reducible exact H2_) | (have H2_ := (Option.bind_some _ _).symm.trans H; with_reducible exact H2_) | with_reducible exact H | (rw [hy189]; exact H) | exact H
  have Ny189 := Aside0.mk hy189
  clear hy189
  replace H := Option.bind_eq_some_iff.mp H
  obtain ⟨t192, A30, H⟩ := H
  replace H : (some (t188, t192)) = some (r1, r2) := H
  have A3 := Aside0.mk A30
  clear A30
  simp only [Option.some.injEq, Prod.mk.injEq] at H
  obtain ⟨rfl, rfl⟩ := H
  go_enter Try.func19, Try.ntmps19
  try go_wp2_with (first | ((with_reducible refine gate_dst (N := 1) rfl ?_); refine box_event ?hg (N := 1) ?hd (cs := #[.int .u64 a0_0, .int .u64 a0_1]) (t := 24) ?hr ?_; (case hd => rfl); (case hg => rfl); (case hr => first | (go_simp; done) | (go_simp; rfl)); intro gb183 hg w4 hbox hb; have n0_ := Aside0.mk (below_step (by repeat (first | (with_reducible first | exact HB.out | apply below_alloc | apply pw_below_drewN | apply below_drew1) | exact HB.out)) hb); have n1_ := Aside0.mk (hbox); have n2_ := Aside0.mk ((by rw [hg]; exact (below_size (by repeat (first | (with_reducible first | exact HB.out | apply below_alloc | apply pw_below_drewN | apply below_drew1) | exact HB.out))) : w.heap.size ≤ gb183)); have n3_ := Aside0.mk ((by rw [hg]; exact (below_size (by repeat (first | (with_reducible first | exact HB.out | apply below_alloc | apply pw_below_drewN | apply below_drew1) | exact HB.out))) : w.heap.size ≤ gb183)); clear HB; have HB := n0_; have BK183 := n1_; have GW183 := n2_; have GE183 := n3_; clear n0_ n1_ n2_ n3_; clear hb hbox hg) | ((with_reducible refine gate_dst (N := 2) rfl ?_); refine box_event ?hg (N := 2) ?hd (cs := #[.int .u64 0, .int .u64 0]) (t := 24) ?hr ?_; (case hd => rfl); (case hg => rfl); (case hr => first | (go_simp; done) | (go_simp; rfl)); intro gb184 hg w5 hbox hb; have n0_ := Aside0.mk (blk_below (g := gb183) (o := .cells #[.int .u64 a0_0, .int .u64 a0_1] 24 (0, 0)) (by (with_reducible repeat (first | refine blk_drewN ?_ _ | refine blk_drew ?_ | refine blk_alloc ?_ _)); exact BK183.out) hb); have n1_ := Aside0.mk (below_step (by repeat (first | (with_reducible first | exact HB.out | apply below_alloc | apply pw_below_drewN | apply below_drew1 | refine below_set ?_ GE183.out) | exact HB.out)) hb); have n2_ := Aside0.mk (hbox); have n3_ := Aside0.mk ((by rw [hg]; exact (below_size (by repeat (first | (with_reducible first | exact HB.out | apply below_alloc | apply pw_below_drewN | apply below_drew1 | refine below_set ?_ GE183.out) | exact HB.out))) : w.heap.size ≤ gb184)); have n4_ := Aside0.mk ((by rw [hg]; exact (below_size (by repeat (first | (with_reducible first | exact HB.out | apply below_alloc | apply pw_below_drewN | apply below_drew1 | refine below_set ?_ GE183.out) | exact HB.out))) : w.heap.size ≤ gb184)); have n5_ := Aside0.mk ((by rw [hg]; exact Nat.ne_of_lt (blk_lt (g := gb183) (o := .cells #[.int .u64 a0_0, .int .u64 a0_1] 24 (0, 0)) (by (with_reducible repeat (first | refine blk_drewN ?_ _ | refine blk_drew ?_ | refine blk_alloc ?_ _)); exact BK183.out)) : gb183 ≠ gb184)); have n6_ := Aside0.mk ((by rw [hg]; exact Nat.ne_of_gt (blk_lt (g := gb183) (o := .cells #[.int .u64 a0_0, .int .u64 a0_1] 24 (0, 0)) (by (with_reducible repeat (first | refine blk_drewN ?_ _ | refine blk_drew ?_ | refine blk_alloc ?_ _)); exact BK183.out)) : gb184 ≠ gb183)); clear BK183; clear HB; have BK183 := n0_; have HB := n1_; have BK184 := n2_; have GW184 := n3_; have GE184 := n4_; have NB183_184 := n5_; have NB184_183 := n6_; clear n0_ n1_ n2_ n3_ n4_ n5_ n6_; clear hb hbox hg))
  have n0_ := Aside0.mk (blk_drew BK183.out)
  have n1_ := Aside0.mk (blk_drew BK184.out)
  have n2_ := Aside0.mk (below_drew1 HB.out)
  clear BK183
  clear BK184
  clear HB
  have BK183 := n0_
  have BK184 := n1_
  have HB := n2_
  clear n0_ n1_ n2_
  refine start_ (n := 10) (S := fun w' => True) (ds := []) #[false, false, false, false, false, false, false, false, false, false] (by kernel_rfl) rfl rfl trivial (fun hHeld => ?_); refine with_tabW kauditref23_Next.tab1 kauditref23_Next.bits1 (fun HT_ HW_ => ?_)
  generalize w5.drew = w6 at BK183 BK184 HB hHeld ⊢
  refine inv_at [0, 1, 2, 3, 4, 5, 6, 7, 8, 9] (fun a0_ b a w' => ∃ (v186 : Value) (v190 : Value) (m2_ : Value) (m6_ : Value), a = putSel a0_ b [(0, 3, .agg #[.int .u64 a0_0, .int .u64 a0_1]), (1, 4, v186), (2, 5, m2_), (3, 6, .int .u64 t188), (4, 7, .agg #[.int .u64 a0_0, .int .u64 a0_1]), (5, 8, v190), (6, 9, m6_), (7, 10, .int .u64 t192), (8, 11, .agg #[.int .u64 t188, .int .u64 t192])] ∧ (w'.heap[gb183]? = some (.cells #[.int .u64 a0_0, .int .u64 a0_1] 24 (0, 0))) ∧ (b 9 = false → w'.heap[gb184]? = some (.cells #[.int .u64 0, .int .u64 0] 24 (0, 0))) ∧ (Below w.heap.size w w') ∧ (b 1 = true → Rw 5 w' w.heap.size v186 y185) ∧ (b 5 = true → Rw 5 w' w.heap.size v190 y189) ∧ (b 9 = true → w'.heap[gb184]? = some (.cells #[.int .u64 t188, .int .u64 t192] 24 (0, 0))) ∧ (b 2 = true → (m2_ : Value) = v186) ∧ (b 6 = true → (m6_ : Value) = v190)) HT_.out HW_.out (by kernel_rfl) (by kernel_rfl) ?_ ?_ ?_
  · exact ⟨.bool false, .bool false, .bool false, .bool false, by simp only [putSel, Bool.false_eq_true, if_false], BK183.out, fun _ => BK184.out, HB.out, fun h_ => absurd h_ (by decide), fun h_ => absurd h_ (by decide), fun h_ => absurd h_ (by decide), fun h_ => absurd h_ (by decide), fun h_ => absurd h_ (by decide)⟩
  · skip
    clear BK183 BK184 HB
    refine steps_cons ?_ ?_
    · rintro b a w' ⟨v186, v190, m2_, m6_, ha, Q_BK183, Q_BK184, Q_HB, Q_HO187, Q_HO191, Q_BK184_e9, Q_X2_, Q_X6_⟩ hb_ hon hoff
      refine ⟨_, rfl, fun K hK => ?_⟩
      have e1 : a.tmps[1]? = some (.pointer (some ⟨gb183, 0, none⟩)) := by rw [ha]; exact (putSel_off rfl).trans rfl
      replace ha := Aside0.mk ha
      have BK183 := Aside0.mk Q_BK183
      have BK184 := Aside0.mk (Q_BK184 (hoff 9 (by kernel_rfl)))
      have HB := Aside0.mk Q_HB
      have hc0_ : w'.cell? ⟨gb183, 0, none⟩ = some (.int .u64 a0_0) := (blk_cell BK183.out 0).trans rfl
      have hc1_ : w'.cell? ⟨gb183, 1, none⟩ = some (.int .u64 a0_1) := (blk_cell BK183.out 1).trans rfl
      refine value_ (w1 := w') (v := .agg #[.int .u64 a0_0, .int .u64 a0_1]) (by rfl) rfl ?_ ?_
      · go_simp
        (try simp only [i64_w])
        try rfl
      refine hK.out _ _ ⟨v186, v190, m2_, m6_, (by rw [ha.out]; exact putSel_upk 0 hb_ rfl rfl rfl), Q_BK183, Q_BK184, Q_HB, Q_HO187, Q_HO191, fun h0_ => absurd ((hoff 9 (by kernel_rfl)).symm.trans h0_) (by decide), Q_X2_, Q_X6_⟩
    refine steps_cons ?_ ?_
    · rintro b a w' ⟨v186, v190, m2_, m6_, ha, Q_BK183, Q_BK184, Q_HB, Q_HO187, Q_HO191, Q_BK184_e9, Q_X2_, Q_X6_⟩ hb_ hon hoff
      refine ⟨_, rfl, fun K hK => ?_⟩
      replace ha := Aside0.mk ha
      have BK183 := Aside0.mk Q_BK183
      have BK184 := Aside0.mk (Q_BK184 (hoff 9 (by kernel_rfl)))
      have HB := Aside0.mk Q_HB
      refine Kd.R_lit_step (Kd.int .u8) _ 5 ?hg (N := 4) ?hd (xs := ([107, 101, 121, 32, 48] : List Int)) (inner := [.int .u8 107, .int .u8 101, .int .u8 121, .int .u8 32, .int .u8 48]) (ok := fun _ => True) (okp := fun _ => True) ?hr ?hp (fun _ hk => hk) trivial (Below.refl _ _) (Nat.le_refl _) (by simp) ?_; (case hd => rfl); (case hg => rfl); (case hr => first | (go_simp; done) | (go_simp; rfl)); (case hp => exact (Reps.one (show Kd.M (Kd.int .u8) _ _ _ 107 [.int .u8 107] from rfl) (Reps.one (show Kd.M (Kd.int .u8) _ _ _ 101 [.int .u8 101] from rfl) (Reps.one (show Kd.M (Kd.int .u8) _ _ _ 121 [.int .u8 121] from rfl) (Reps.one (show Kd.M (Kd.int .u8) _ _ _ 32 [.int .u8 32] from rfl) (Reps.one (show Kd.M (Kd.int .u8) _ _ _ 48 [.int .u8 48] from rfl) (Reps.none _ _)))))))
      intro v186 w7 ho8 hb hg_ hnew_
      clear hg_
      obtain ⟨nb_, hn_, _⟩ := hnew_
      (first | rw [← Ny185.out] at ho8 | (simp only [Int.reduceToNat] at ho8; rw [← Ny185.out] at ho8))
      have n0_ := Aside0.mk (Rw_of_R (Kd.R_lower ho8 (below_size (by repeat (first | (with_reducible first | exact HB.out | apply below_alloc | apply pw_below_drewN | apply below_drew1 | refine below_set ?_ GE183.out | refine below_set ?_ GE184.out) | exact HB.out)))) hn_)
      have n1_ := Aside0.mk (blk_below (g := gb183) (o := .cells #[.int .u64 a0_0, .int .u64 a0_1] 24 (0, 0)) (by (with_reducible repeat (first | refine blk_drewN ?_ _ | refine blk_drew ?_ | refine blk_alloc ?_ _)); exact BK183.out) hb)
      have n2_ := Aside0.mk (blk_below (g := gb184) (o := .cells #[.int .u64 0, .int .u64 0] 24 (0, 0)) (by (with_reducible repeat (first | refine blk_drewN ?_ _ | refine blk_drew ?_ | refine blk_alloc ?_ _)); exact BK184.out) hb)
      have n3_ := Aside0.mk (below_step (by repeat (first | (with_reducible first | exact HB.out | apply below_alloc | apply pw_below_drewN | apply below_drew1 | refine below_set ?_ GE183.out | refine below_set ?_ GE184.out) | exact HB.out)) hb)
      have z_HO191 := fun (h0_ : b 5 = true) => Rw_below (Q_HO191 h0_) hb
      clear BK183
      clear BK184
      clear HB
      have HO187 := n0_
      have BK183 := n1_
      have BK184 := n2_
      have HB := n3_
      clear n0_ n1_ n2_ n3_
      clear hb ho8 hn_
      refine hK.out _ _ ⟨v186, v190, m2_, m6_, (by rw [ha.out]; exact putSel_upk 1 hb_ rfl rfl rfl), (by (with_reducible repeat (first | refine blk_drewN ?_ _ | refine blk_drew ?_ | refine blk_alloc ?_ _)); exact BK183.out), fun _ => (by (with_reducible repeat (first | refine blk_drewN ?_ _ | refine blk_drew ?_ | refine blk_alloc ?_ _)); exact BK184.out), (by repeat (first | (with_reducible first | exact HB.out | apply below_alloc | apply pw_below_drewN | apply below_drew1 | refine below_set ?_ GE183.out | refine below_set ?_ GE184.out) | exact HB.out)), fun _ => (by (with_reducible repeat (first | apply Kd.R_alloc | apply Kd.R_drewN | apply Kd.R_drew)); exact HO187.out), z_HO191, fun h0_ => absurd ((hoff 9 (by kernel_rfl)).symm.trans h0_) (by decide), fun h0_ => absurd ((hoff 2 (by kernel_rfl)).symm.trans h0_) (by decide), Q_X6_⟩
    refine steps_cons ?_ ?_
    · rintro b a w' ⟨v186, v190, m2_, m6_, ha, Q_BK183, Q_BK184, Q_HB, Q_HO187, Q_HO191, Q_BK184_e9, Q_X2_, Q_X6_⟩ hb_ hon hoff
      refine ⟨_, rfl, fun K hK => ?_⟩
      have e4 : a.tmps[4]? = some (v186) := by rw [ha]; exact putSel_on (e := (1, 4, v186)) 1 rfl rfl (hon 1 (by kernel_rfl)) rfl
      replace ha := Aside0.mk ha
      have BK183 := Aside0.mk Q_BK183
      have BK184 := Aside0.mk (Q_BK184 (hoff 9 (by kernel_rfl)))
      have HB := Aside0.mk Q_HB
      have HO187 := Aside0.mk (Q_HO187 (hon 1 (by kernel_rfl)))
      obtain ⟨Ao2_0, co2_0, eo_⟩ := Rw_slice HO187.out
      subst eo_
      obtain ⟨W1, hcr, hmk⟩ := conv_marks (P := Try.prog) (t := 25) HO187.out Try.underlying25 Try.underlying5
      refine value_ (w1 := W1) (v := .slice Ao2_0 y185.length co2_0) (by rfl) rfl ?_ ?_
      · go_simp
        (try simp only [i64_w])
        try rfl
      refine hK.out _ _ ⟨.slice Ao2_0 y185.length co2_0, v190, (.slice Ao2_0 y185.length co2_0), m6_, (by rw [ha.out]; exact putSel_upk 2 hb_ rfl rfl rfl), (hmk.2.1 _ _ _ (by decide) BK183.out), (fun _ => hmk.2.1 _ _ _ (by decide) BK184.out), (HB.out.trans hmk.1), (fun h9_ => hmk.2.2 _ _ _ (Q_HO187 h9_)), (fun h9_ => hmk.2.2 _ _ _ (Q_HO191 h9_)), fun h0_ => absurd ((hoff 9 (by kernel_rfl)).symm.trans h0_) (by decide), fun _ => rfl, Q_X6_⟩
    refine steps_cons ?_ ?_
    · rintro b a w' ⟨v186, v190, m2_, m6_, ha, Q_BK183, Q_BK184, Q_HB, Q_HO187, Q_HO191, Q_BK184_e9, Q_X2_, Q_X6_⟩ hb_ hon hoff
      refine ⟨_, rfl, fun K hK => ?_⟩
      have e3 : a.tmps[3]? = some (.agg #[.int .u64 a0_0, .int .u64 a0_1]) := by rw [ha]; exact putSel_on (e := (0, 3, .agg #[.int .u64 a0_0, .int .u64 a0_1])) 0 rfl rfl (hon 0 (by kernel_rfl)) rfl
      have e5 : a.tmps[5]? = some (m2_) := by rw [ha]; exact putSel_on (e := (2, 5, m2_)) 2 rfl rfl (hon 2 (by kernel_rfl)) rfl
      rw [Q_X2_ (hon 2 (by kernel_rfl))] at e5
      replace ha := Aside0.mk ha
      have BK183 := Aside0.mk Q_BK183
      have BK184 := Aside0.mk (Q_BK184 (hoff 9 (by kernel_rfl)))
      have HB := Aside0.mk Q_HB
      have HO187 := Aside0.mk (Q_HO187 (hon 1 (by kernel_rfl)))
      obtain ⟨Ao10, co10, eo10⟩ := Rw_slice HO187.out
      (first | subst eo10 | (injection eo10 with f1_ f2_ f3_; have f4_ := f1_.symm; have f5_ := f3_.symm; clear f1_ f2_ f3_; subst f4_; subst f5_))
      refine goes_ Try.func10 (by kernel_rfl) rfl #[.agg #[.int .u64 a0_0, .int .u64 a0_1], .slice Ao10 y185.length co10] (by rfl) rfl rfl (by first | (simp only [List.map_toArray, List.map_cons, List.map_nil, Act.eval, Array.getD_eq_getD_getElem?, Option.getD_some, e3, e5]; done) | (simp only [List.map_toArray, List.map_cons, List.map_nil, Act.eval, Array.getD_eq_getD_getElem?, Option.getD_some, e3, e5]; rfl)) ?_
      with_reducible refine (kauditref23_Sum.calls k a0_0 a0_1 _ _ y185 t188 _ ?side1 ?side2 A2.out).mono ?_
      (case side1 => repeat (first | exact (Rw_C HO187.out).2.2 | (with_reducible refine Kd.C_alloc ?_ _) | (with_reducible refine Kd.C_drewN ?_ _) | (with_reducible refine Kd.C_drew ?_)))
      (case side2 => exact (Rw_C HO187.out).2.1)
      rintro e w11 ⟨rfl, hb⟩
      refine ⟨_, rfl, ?_⟩
      have n0_ := Aside0.mk (Rw_below HO187.out hb)
      have n1_ := Aside0.mk (blk_below (g := gb183) (o := .cells #[.int .u64 a0_0, .int .u64 a0_1] 24 (0, 0)) (by (with_reducible repeat (first | refine blk_drewN ?_ _ | refine blk_drew ?_ | refine blk_alloc ?_ _)); exact BK183.out) hb)
      have n2_ := Aside0.mk (blk_below (g := gb184) (o := .cells #[.int .u64 0, .int .u64 0] 24 (0, 0)) (by (with_reducible repeat (first | refine blk_drewN ?_ _ | refine blk_drew ?_ | refine blk_alloc ?_ _)); exact BK184.out) hb)
      have n3_ := Aside0.mk (below_step (by repeat (first | (with_reducible first | exact HB.out | apply below_alloc | apply pw_below_drewN | apply below_drew1 | refine below_set ?_ GE183.out | refine below_set ?_ GE184.out) | exact HB.out)) hb)
      have z_HO191 := fun (h0_ : b 5 = true) => Rw_below (Q_HO191 h0_) hb
      clear HO187
      clear BK183
      clear BK184
      clear HB
      have HO187 := n0_
      have BK183 := n1_
      have BK184 := n2_
      have HB := n3_
      clear n0_ n1_ n2_ n3_
      (try clear hb)
      (try clear hb2)
      (try clear hk)
      (try clear hi)
      refine hK.out _ _ ⟨.slice Ao10 y185.length co10, v190, m2_, m6_, (by rw [ha.out]; exact putSel_upk 3 hb_ rfl rfl rfl), (by (with_reducible repeat (first | refine blk_drewN ?_ _ | refine blk_drew ?_ | refine blk_alloc ?_ _)); exact BK183.out), fun _ => (by (with_reducible repeat (first | refine blk_drewN ?_ _ | refine blk_drew ?_ | refine blk_alloc ?_ _)); exact BK184.out), (by repeat (first | (with_reducible first | exact HB.out | apply below_alloc | apply pw_below_drewN | apply below_drew1 | refine below_set ?_ GE183.out | refine below_set ?_ GE184.out) | exact HB.out)), fun _ => (by (with_reducible repeat (first | apply Kd.R_alloc | apply Kd.R_drewN | apply Kd.R_drew)); exact HO187.out), z_HO191, fun h0_ => absurd ((hoff 9 (by kernel_rfl)).symm.trans h0_) (by decide), Q_X2_, Q_X6_⟩
    refine steps_cons ?_ ?_
    · rintro b a w' ⟨v186, v190, m2_, m6_, ha, Q_BK183, Q_BK184, Q_HB, Q_HO187, Q_HO191, Q_BK184_e9, Q_X2_, Q_X6_⟩ hb_ hon hoff
      refine ⟨_, rfl, fun K hK => ?_⟩
      have e1 : a.tmps[1]? = some (.pointer (some ⟨gb183, 0, none⟩)) := by rw [ha]; exact (putSel_off rfl).trans rfl
      replace ha := Aside0.mk ha
      have BK183 := Aside0.mk Q_BK183
      have BK184 := Aside0.mk (Q_BK184 (hoff 9 (by kernel_rfl)))
      have HB := Aside0.mk Q_HB
      have hc0_ : w'.cell? ⟨gb183, 0, none⟩ = some (.int .u64 a0_0) := (blk_cell BK183.out 0).trans rfl
      have hc1_ : w'.cell? ⟨gb183, 1, none⟩ = some (.int .u64 a0_1) := (blk_cell BK183.out 1).trans rfl
      refine value_ (w1 := w') (v := .agg #[.int .u64 a0_0, .int .u64 a0_1]) (by rfl) rfl ?_ ?_
      · go_simp
        (try simp only [i64_w])
        try rfl
      refine hK.out _ _ ⟨v186, v190, m2_, m6_, (by rw [ha.out]; exact putSel_upk 4 hb_ rfl rfl rfl), Q_BK183, Q_BK184, Q_HB, Q_HO187, Q_HO191, fun h0_ => absurd ((hoff 9 (by kernel_rfl)).symm.trans h0_) (by decide), Q_X2_, Q_X6_⟩
    refine steps_cons ?_ ?_
    · rintro b a w' ⟨v186, v190, m2_, m6_, ha, Q_BK183, Q_BK184, Q_HB, Q_HO187, Q_HO191, Q_BK184_e9, Q_X2_, Q_X6_⟩ hb_ hon hoff
      refine ⟨_, rfl, fun K hK => ?_⟩
      replace ha := Aside0.mk ha
      have BK183 := Aside0.mk Q_BK183
      have BK184 := Aside0.mk (Q_BK184 (hoff 9 (by kernel_rfl)))
      have HB := Aside0.mk Q_HB
      refine Kd.R_lit_step (Kd.int .u8) _ 5 ?hg (N := 8) ?hd (xs := ([107, 101, 121, 32, 49] : List Int)) (inner := [.int .u8 107, .int .u8 101, .int .u8 121, .int .u8 32, .int .u8 49]) (ok := fun _ => True) (okp := fun _ => True) ?hr ?hp (fun _ hk => hk) trivial (Below.refl _ _) (Nat.le_refl _) (by simp) ?_; (case hd => rfl); (case hg => rfl); (case hr => first | (go_simp; done) | (go_simp; rfl)); (case hp => exact (Reps.one (show Kd.M (Kd.int .u8) _ _ _ 107 [.int .u8 107] from rfl) (Reps.one (show Kd.M (Kd.int .u8) _ _ _ 101 [.int .u8 101] from rfl) (Reps.one (show Kd.M (Kd.int .u8) _ _ _ 121 [.int .u8 121] from rfl) (Reps.one (show Kd.M (Kd.int .u8) _ _ _ 32 [.int .u8 32] from rfl) (Reps.one (show Kd.M (Kd.int .u8) _ _ _ 49 [.int .u8 49] from rfl) (Reps.none _ _)))))))
      intro v190 w7 ho8 hb hg_ hnew_
      clear hg_
      obtain ⟨nb_, hn_, _⟩ := hnew_
      (first | rw [← Ny189.out] at ho8 | (simp only [Int.reduceToNat] at ho8; rw [← Ny189.out] at ho8))
      have n0_ := Aside0.mk (Rw_of_R (Kd.R_lower ho8 (below_size (by repeat (first | (with_reducible first | exact HB.out | apply below_alloc | apply pw_below_drewN | apply below_drew1 | refine below_set ?_ GE183.out | refine below_set ?_ GE184.out) | exact HB.out)))) hn_)
      have n1_ := Aside0.mk (blk_below (g := gb183) (o := .cells #[.int .u64 a0_0, .int .u64 a0_1] 24 (0, 0)) (by (with_reducible repeat (first | refine blk_drewN ?_ _ | refine blk_drew ?_ | refine blk_alloc ?_ _)); exact BK183.out) hb)
      have n2_ := Aside0.mk (blk_below (g := gb184) (o := .cells #[.int .u64 0, .int .u64 0] 24 (0, 0)) (by (with_reducible repeat (first | refine blk_drewN ?_ _ | refine blk_drew ?_ | refine blk_alloc ?_ _)); exact BK184.out) hb)
      have n3_ := Aside0.mk (below_step (by repeat (first | (with_reducible first | exact HB.out | apply below_alloc | apply pw_below_drewN | apply below_drew1 | refine below_set ?_ GE183.out | refine below_set ?_ GE184.out) | exact HB.out)) hb)
      have z_HO187 := fun (h0_ : b 1 = true) => Rw_below (Q_HO187 h0_) hb
      clear BK183
      clear BK184
      clear HB
      have HO191 := n0_
      have BK183 := n1_
      have BK184 := n2_
      have HB := n3_
      clear n0_ n1_ n2_ n3_
      clear hb ho8 hn_
      refine hK.out _ _ ⟨v186, v190, m2_, m6_, (by rw [ha.out]; exact putSel_upk 5 hb_ rfl rfl rfl), (by (with_reducible repeat (first | refine blk_drewN ?_ _ | refine blk_drew ?_ | refine blk_alloc ?_ _)); exact BK183.out), fun _ => (by (with_reducible repeat (first | refine blk_drewN ?_ _ | refine blk_drew ?_ | refine blk_alloc ?_ _)); exact BK184.out), (by repeat (first | (with_reducible first | exact HB.out | apply below_alloc | apply pw_below_drewN | apply below_drew1 | refine below_set ?_ GE183.out | refine below_set ?_ GE184.out) | exact HB.out)), z_HO187, fun _ => (by (with_reducible repeat (first | apply Kd.R_alloc | apply Kd.R_drewN | apply Kd.R_drew)); exact HO191.out), fun h0_ => absurd ((hoff 9 (by kernel_rfl)).symm.trans h0_) (by decide), Q_X2_, fun h0_ => absurd ((hoff 6 (by kernel_rfl)).symm.trans h0_) (by decide)⟩
    refine steps_cons ?_ ?_
    · rintro b a w' ⟨v186, v190, m2_, m6_, ha, Q_BK183, Q_BK184, Q_HB, Q_HO187, Q_HO191, Q_BK184_e9, Q_X2_, Q_X6_⟩ hb_ hon hoff
      refine ⟨_, rfl, fun K hK => ?_⟩
      have e8 : a.tmps[8]? = some (v190) := by rw [ha]; exact putSel_on (e := (5, 8, v190)) 5 rfl rfl (hon 5 (by kernel_rfl)) rfl
      replace ha := Aside0.mk ha
      have BK183 := Aside0.mk Q_BK183
      have BK184 := Aside0.mk (Q_BK184 (hoff 9 (by kernel_rfl)))
      have HB := Aside0.mk Q_HB
      have HO191 := Aside0.mk (Q_HO191 (hon 5 (by kernel_rfl)))
      obtain ⟨Ao6_0, co6_0, eo_⟩ := Rw_slice HO191.out
      subst eo_
      obtain ⟨W1, hcr, hmk⟩ := conv_marks (P := Try.prog) (t := 25) HO191.out Try.underlying25 Try.underlying5
      refine value_ (w1 := W1) (v := .slice Ao6_0 y189.length co6_0) (by rfl) rfl ?_ ?_
      · go_simp
        (try simp only [i64_w])
        try rfl
      refine hK.out _ _ ⟨v186, .slice Ao6_0 y189.length co6_0, m2_, (.slice Ao6_0 y189.length co6_0), (by rw [ha.out]; exact putSel_upk 6 hb_ rfl rfl rfl), (hmk.2.1 _ _ _ (by decide) BK183.out), (fun _ => hmk.2.1 _ _ _ (by decide) BK184.out), (HB.out.trans hmk.1), (fun h9_ => hmk.2.2 _ _ _ (Q_HO187 h9_)), (fun h9_ => hmk.2.2 _ _ _ (Q_HO191 h9_)), fun h0_ => absurd ((hoff 9 (by kernel_rfl)).symm.trans h0_) (by decide), Q_X2_, fun _ => rfl⟩
    refine steps_cons ?_ ?_
    · rintro b a w' ⟨v186, v190, m2_, m6_, ha, Q_BK183, Q_BK184, Q_HB, Q_HO187, Q_HO191, Q_BK184_e9, Q_X2_, Q_X6_⟩ hb_ hon hoff
      refine ⟨_, rfl, fun K hK => ?_⟩
      have e7 : a.tmps[7]? = some (.agg #[.int .u64 a0_0, .int .u64 a0_1]) := by rw [ha]; exact putSel_on (e := (4, 7, .agg #[.int .u64 a0_0, .int .u64 a0_1])) 4 rfl rfl (hon 4 (by kernel_rfl)) rfl
      have e9 : a.tmps[9]? = some (m6_) := by rw [ha]; exact putSel_on (e := (6, 9, m6_)) 6 rfl rfl (hon 6 (by kernel_rfl)) rfl
      rw [Q_X6_ (hon 6 (by kernel_rfl))] at e9
      replace ha := Aside0.mk ha
      have BK183 := Aside0.mk Q_BK183
      have BK184 := Aside0.mk (Q_BK184 (hoff 9 (by kernel_rfl)))
      have HB := Aside0.mk Q_HB
      have HO187 := Aside0.mk (Q_HO187 (hon 1 (by kernel_rfl)))
      have HO191 := Aside0.mk (Q_HO191 (hon 5 (by kernel_rfl)))
      obtain ⟨Ao14, co14, eo14⟩ := Rw_slice HO191.out
      (first | subst eo14 | (injection eo14 with f1_ f2_ f3_; have f4_ := f1_.symm; have f5_ := f3_.symm; clear f1_ f2_ f3_; subst f4_; subst f5_))
      refine goes_ Try.func10 (by kernel_rfl) rfl #[.agg #[.int .u64 a0_0, .int .u64 a0_1], .slice Ao14 y189.length co14] (by rfl) rfl rfl (by first | (simp only [List.map_toArray, List.map_cons, List.map_nil, Act.eval, Array.getD_eq_getD_getElem?, Option.getD_some, e7, e9]; done) | (simp only [List.map_toArray, List.map_cons, List.map_nil, Act.eval, Array.getD_eq_getD_getElem?, Option.getD_some, e7, e9]; rfl)) ?_
      with_reducible refine (kauditref23_Sum.calls k a0_0 a0_1 _ _ y189 t192 _ ?side1 ?side2 A3.out).mono ?_
      (case side1 => repeat (first | exact (Rw_C HO191.out).2.2 | (with_reducible refine Kd.C_alloc ?_ _) | (with_reducible refine Kd.C_drewN ?_ _) | (with_reducible refine Kd.C_drew ?_)))
      (case side2 => exact (Rw_C HO191.out).2.1)
      rintro e w15 ⟨rfl, hb⟩
      refine ⟨_, rfl, ?_⟩
      have n0_ := Aside0.mk (Rw_below HO187.out hb)
      have n1_ := Aside0.mk (Rw_below HO191.out hb)
      have n2_ := Aside0.mk (blk_below (g := gb183) (o := .cells #[.int .u64 a0_0, .int .u64 a0_1] 24 (0, 0)) (by (with_reducible repeat (first | refine blk_drewN ?_ _ | refine blk_drew ?_ | refine blk_alloc ?_ _)); exact BK183.out) hb)
      have n3_ := Aside0.mk (blk_below (g := gb184) (o := .cells #[.int .u64 0, .int .u64 0] 24 (0, 0)) (by (with_reducible repeat (first | refine blk_drewN ?_ _ | refine blk_drew ?_ | refine blk_alloc ?_ _)); exact BK184.out) hb)
      have n4_ := Aside0.mk (below_step (by repeat (first | (with_reducible first | exact HB.out | apply below_alloc | apply pw_below_drewN | apply below_drew1 | refine below_set ?_ GE183.out | refine below_set ?_ GE184.out) | exact HB.out)) hb)
      clear HO187
      clear HO191
      clear BK183
      clear BK184
      clear HB
      have HO187 := n0_
      have HO191 := n1_
      have BK183 := n2_
      have BK184 := n3_
      have HB := n4_
      clear n0_ n1_ n2_ n3_ n4_
      (try clear hb)
      (try clear hb2)
      (try clear hk)
      (try clear hi)
      refine hK.out _ _ ⟨v186, .slice Ao14 y189.length co14, m2_, m6_, (by rw [ha.out]; exact putSel_upk 7 hb_ rfl rfl rfl), (by (with_reducible repeat (first | refine blk_drewN ?_ _ | refine blk_drew ?_ | refine blk_alloc ?_ _)); exact BK183.out), fun _ => (by (with_reducible repeat (first | refine blk_drewN ?_ _ | refine blk_drew ?_ | refine blk_alloc ?_ _)); exact BK184.out), (by repeat (first | (with_reducible first | exact HB.out | apply below_alloc | apply pw_below_drewN | apply below_drew1 | refine below_set ?_ GE183.out | refine below_set ?_ GE184.out) | exact HB.out)), fun _ => (by (with_reducible repeat (first | apply Kd.R_alloc | apply Kd.R_drewN | apply Kd.R_drew)); exact HO187.out), fun _ => (by (with_reducible repeat (first | apply Kd.R_alloc | apply Kd.R_drewN | apply Kd.R_drew)); exact HO191.out), fun h0_ => absurd ((hoff 9 (by kernel_rfl)).symm.trans h0_) (by decide), Q_X2_, Q_X6_⟩
    refine steps_cons ?_ ?_
    · rintro b a w' ⟨v186, v190, m2_, m6_, ha, Q_BK183, Q_BK184, Q_HB, Q_HO187, Q_HO191, Q_BK184_e9, Q_X2_, Q_X6_⟩ hb_ hon hoff
      refine ⟨_, rfl, fun K hK => ?_⟩
      have e6 : a.tmps[6]? = some (.int .u64 t188) := by rw [ha]; exact putSel_on (e := (3, 6, .int .u64 t188)) 3 rfl rfl (hon 3 (by kernel_rfl)) rfl
      have e10 : a.tmps[10]? = some (.int .u64 t192) := by rw [ha]; exact putSel_on (e := (7, 10, .int .u64 t192)) 7 rfl rfl (hon 7 (by kernel_rfl)) rfl
      replace ha := Aside0.mk ha
      have BK183 := Aside0.mk Q_BK183
      have BK184 := Aside0.mk (Q_BK184 (hoff 9 (by kernel_rfl)))
      have HB := Aside0.mk Q_HB
      have HO187 := Aside0.mk (Q_HO187 (hon 1 (by kernel_rfl)))
      have HO191 := Aside0.mk (Q_HO191 (hon 5 (by kernel_rfl)))
      refine value_ (w1 := w') (v := .agg #[.int .u64 t188, .int .u64 t192]) (by rfl) rfl ?_ ?_
      · go_simp
        (try simp only [i64_w])
        try rfl
      refine hK.out _ _ ⟨v186, v190, m2_, m6_, (by rw [ha.out]; exact putSel_upk 8 hb_ rfl rfl rfl), Q_BK183, Q_BK184, Q_HB, Q_HO187, Q_HO191, fun h0_ => absurd ((hoff 9 (by kernel_rfl)).symm.trans h0_) (by decide), Q_X2_, Q_X6_⟩
    refine steps_cons ?_ ?_
    · rintro b a w' ⟨v186, v190, m2_, m6_, ha, Q_BK183, Q_BK184, Q_HB, Q_HO187, Q_HO191, Q_BK184_e9, Q_X2_, Q_X6_⟩ hb_ hon hoff
      refine ⟨_, rfl, fun K hK => ?_⟩
      have e2 : a.tmps[2]? = some (.pointer (some ⟨gb184, 0, none⟩)) := by rw [ha]; exact (putSel_off rfl).trans rfl
      have e11 : a.tmps[11]? = some (.agg #[.int .u64 t188, .int .u64 t192]) := by rw [ha]; exact putSel_on (e := (8, 11, .agg #[.int .u64 t188, .int .u64 t192])) 8 rfl rfl (hon 8 (by kernel_rfl)) rfl
      replace ha := Aside0.mk ha
      have BK183 := Aside0.mk Q_BK183
      have BK184 := Aside0.mk (Q_BK184 hb_)
      have HB := Aside0.mk Q_HB
      have HO187 := Aside0.mk (Q_HO187 (hon 1 (by kernel_rfl)))
      have HO191 := Aside0.mk (Q_HO191 (hon 5 (by kernel_rfl)))
      have hs16 : w'.cell? ⟨gb184, 0, none⟩ = some (.int .u64 0) := (blk_cell BK184.out 0).trans rfl
      have hfs16 := blk_frozen BK184.out 0
      have hns16_0 := NB183_184.out
      have hms16_0 := NB184_183.out
      have hs17 : w'.cell? ⟨gb184, 1, none⟩ = some (.int .u64 0) := (blk_cell BK184.out 1).trans rfl
      have hfs17 := blk_frozen BK184.out 1
      have hns17_0 := NB183_184.out
      have hms17_0 := NB184_183.out
      refine skip_ (w1 := ?_) (by rfl) rfl ?_ ?_
      rotate_left
      · go_simp
        rfl
      refine hK.out _ _ ⟨v186, v190, m2_, m6_, (by rw [ha.out]; exact putSel_none (v := undef) rfl), (by (with_reducible repeat (first | refine blk_drewN ?_ _ | refine blk_drew ?_ | refine blk_alloc ?_ _)); refine blk_far ?_ NB183_184.out _; (with_reducible repeat (first | refine blk_drewN ?_ _ | refine blk_drew ?_ | refine blk_alloc ?_ _)); refine blk_far ?_ NB183_184.out _; (with_reducible repeat (first | refine blk_drewN ?_ _ | refine blk_drew ?_ | refine blk_alloc ?_ _)); exact BK183.out), fun h0_ => absurd ((up_self b 9).symm.trans h0_) (by decide), (by repeat (first | (with_reducible first | exact HB.out | apply below_alloc | apply pw_below_drewN | apply below_drew1 | refine below_set ?_ GE183.out | refine below_set ?_ GE184.out) | exact HB.out)), fun _ => (by (with_reducible repeat (first | apply Kd.R_alloc | apply Kd.R_drewN | apply Kd.R_drew)); exact Rw_far2 HO187.out BK184.out (by decide) _ _), fun _ => (by (with_reducible repeat (first | apply Kd.R_alloc | apply Kd.R_drewN | apply Kd.R_drew)); exact Rw_far2 HO191.out BK184.out (by decide) _ _), fun _ => (by (with_reducible repeat (first | refine blk_drewN ?_ _ | refine blk_drew ?_ | refine blk_alloc ?_ _)); refine blk_put (cs := #[.int .u64 t188, .int .u64 0]) ?_ 1 _ rfl; (with_reducible repeat (first | refine blk_drewN ?_ _ | refine blk_drew ?_ | refine blk_alloc ?_ _)); refine blk_put (cs := #[.int .u64 0, .int .u64 0]) ?_ 0 _ rfl; (with_reducible repeat (first | refine blk_drewN ?_ _ | refine blk_drew ?_ | refine blk_alloc ?_ _)); exact BK184.out), Q_X2_, Q_X6_⟩
    exact steps_nil
  rintro b a w17 hall ⟨v186, v190, m2_, m6_, ha, Q_BK183, Q_BK184, Q_HB, Q_HO187, Q_HO191, Q_BK184_e9, Q_X2_, Q_X6_⟩
  clear BK183 BK184 HB
  have hb0_ := hall 0 (by kernel_rfl)
  have hb1_ := hall 1 (by kernel_rfl)
  have hb2_ := hall 2 (by kernel_rfl)
  have hb3_ := hall 3 (by kernel_rfl)
  have hb4_ := hall 4 (by kernel_rfl)
  have hb5_ := hall 5 (by kernel_rfl)
  have hb6_ := hall 6 (by kernel_rfl)
  have hb7_ := hall 7 (by kernel_rfl)
  have hb8_ := hall 8 (by kernel_rfl)
  have hb9_ := hall 9 (by kernel_rfl)
  subst ha
  obtain rfl := Q_X2_ hb2_
  obtain rfl := Q_X6_ hb6_
  simp only [putSel, hb0_, hb1_, hb2_, hb3_, hb4_, hb5_, hb6_, hb7_, hb8_, hb9_, if_true, Act.put, List.setIfInBounds_toArray, List.set_cons_zero, List.set_cons_succ]
  have BK183 := Aside0.mk Q_BK183
  clear Q_BK183
  clear Q_BK184
  have HB := Aside0.mk Q_HB
  clear Q_HB
  have HO187 := Aside0.mk (Q_HO187 hb1_)
  clear Q_HO187
  have HO191 := Aside0.mk (Q_HO191 hb5_)
  clear Q_HO191
  have BK184 := Aside0.mk (Q_BK184_e9 hb9_)
  clear Q_BK184_e9
  clear hall hb0_ hb1_ hb2_ hb3_ hb4_ hb5_ hb6_ hb7_ hb8_ hb9_
  try go_wp2
  refine bodyPost_ret (results_cell_row rfl _ _ gb184 24 #[.int .u64 t188, .int .u64 t192] (0, 0) _ rfl (by (with_reducible repeat (first | refine blk_drewN ?_ _ | refine blk_drew ?_ | refine blk_alloc ?_ _)); exact BK184.out) Try.underlying24 rfl (by kernel_rfl)) rfl ?_
  exact ⟨by first | rfl | (simp [errW_none, errW_some] <;> rfl) | (simp [*, errW_none, errW_some] <;> rfl), by repeat (first | (with_reducible first | exact HB.out | apply below_alloc | apply pw_below_drewN | apply below_drew1 | refine below_set ?_ GE183.out | refine below_set ?_ GE184.out) | exact HB.out)⟩

end Go.Proofs.Ytdgmjhfkaplneaa.PAll
