/- For PathBack: contracts of the functions that it reaches and plain facts, joined out of 7 texts by a program (merge_claim.py): PAllx49, PureE, PureD, PureF, PAllx54, PureG, PurePathBack. Each text's own conditions stand at its head below. -/
import Derived.Test.YtnjabpgbpgocnaaDoorZPathBack2

-- PAllx49
namespace Go.Proofs.YtnjabpgbpgocnaaDoor.PAll
open Go.RowKit Go.Proofs.YtnjabpgbpgocnaaDoorW.PrintWords Go.Proofs.YtnjabpgbpgocnaaDoorW.PrintLast Go.Proofs.YtnjabpgbpgocnaaDoorW.PrintMore
attribute [local go_sem] max2_int min2_int max_two min_two max_three min_three max_four min_four   -- for this text's walks alone
set_option linter.unusedVariables false
set_option linter.unusedSimpArgs false

/-! ### kauditlaw04_agrees: function 18 -/
def kauditlaw04_agrees.f (k : Nat) (a0 : ByteArray) : Option (Bool) := (path_Split.f a0).bind fun bt207 => ((kauditref04_Split.f k a0).bind fun bt212 => ((path_Parent.f k a0).bind fun bt217 => ((kauditref04_Parent.f k a0).bind fun bt220 => ((path_Name.f a0).bind fun t223 => ((kauditref04_Name.f k a0).bind fun t224 => (if (t223 == t224) = true then ((path_Clean.f k a0).bind fun t225 => ((kauditref04_Clean.f k a0).bind fun t226 => (if (t225 == t226) = true then ((kauditlaw04_same.f k bt207.1 bt212.1).bind fun t227 => (if t227 = true then (if (bt207.2.1 == bt212.2.1) = true then (if (bt207.2.2 == bt212.2.2) = true then (if bt217.1.toList = bt220.1.toList then (if bt217.2.1.toList = bt220.2.1.toList then (some (bt217.2.2 == bt220.2.2)) else (some false)) else (some false)) else (some false)) else (some false)) else (some false))) else (some false)))) else (some false)))))))
theorem kauditlaw04_agrees.mono : ∀ a0 k, LeO (kauditlaw04_agrees.f k a0) (kauditlaw04_agrees.f (k + 1) a0) := by
  intro a0 k
  unfold kauditlaw04_agrees.f
  repeat' first
      | (with_reducible exact kauditlaw04_same.mono _ _ _)
      | (with_reducible exact kauditref04_Clean.mono _ _)
      | (with_reducible exact kauditref04_Name.mono _ _)
      | (with_reducible exact kauditref04_Parent.mono _ _)
      | (with_reducible exact kauditref04_Split.mono _ _)
      | (with_reducible exact path_Clean.mono _ _)
      | (with_reducible exact path_Parent.mono _ _)
      | (with_reducible exact LeO.refl _)
      | (with_reducible exact LeO.none _)
      | (with_reducible refine LeO.ite ?_ ?_)
      | (with_reducible refine LeO.bind ?_ (fun _ => ?_))
      | exact kauditlaw04_same.mono _ _ _
      | exact kauditref04_Clean.mono _ _
      | exact kauditref04_Name.mono _ _
      | exact kauditref04_Parent.mono _ _
      | exact kauditref04_Split.mono _ _
      | exact path_Clean.mono _ _
      | exact path_Parent.mono _ _
      | exact LeO.none _
      | refine LeO.ite ?_ ?_
      | refine LeO.bind ?_ (fun _ => ?_)
set_option maxHeartbeats 8000000 in
set_option maxRecDepth 100000 in
theorem kauditlaw04_agrees.calls (k : Nat) (a0 : ByteArray) (r : Bool) (w : World) (h : kauditlaw04_agrees.f k a0 = some r) :
    Calls Tryd.prog 18 #[.string a0] w fun e w' => e = .returned (.bool r) ∧ Below w.heap.size w w' := by
  have HB := Aside0.mk (Below.refl w.heap.size w)
  have H : ((path_Split.f a0).bind fun bt207 => ((kauditref04_Split.f k a0).bind fun bt212 => ((path_Parent.f k a0).bind fun bt217 => ((kauditref04_Parent.f k a0).bind fun bt220 => ((path_Name.f a0).bind fun t223 => ((kauditref04_Name.f k a0).bind fun t224 => (if (t223 == t224) = true then ((path_Clean.f k a0).bind fun t225 => ((kauditref04_Clean.f k a0).bind fun t226 => (if (t225 == t226) = true then ((kauditlaw04_same.f k bt207.1 bt212.1).bind fun t227 => (if t227 = true then (if (bt207.2.1 == bt212.2.1) = true then (if (bt207.2.2 == bt212.2.2) = true then (if bt217.1.toList = bt220.1.toList then (if bt217.2.1.toList = bt220.2.1.toList then (some (bt217.2.2 == bt220.2.2)) else (some false)) else (some false)) else (some false)) else (some false)) else (some false))) else (some false)))) else (some false)))))))) = some r := h
  clear h
  replace H := Option.bind_eq_some_iff.mp H
  obtain ⟨⟨t207, t208, t209⟩, A20, H⟩ := H
  replace H : ((kauditref04_Split.f k a0).bind fun bt212 => ((path_Parent.f k a0).bind fun bt217 => ((kauditref04_Parent.f k a0).bind fun bt220 => ((path_Name.f a0).bind fun t223 => ((kauditref04_Name.f k a0).bind fun t224 => (if (t223 == t224) = true then ((path_Clean.f k a0).bind fun t225 => ((kauditref04_Clean.f k a0).bind fun t226 => (if (t225 == t226) = true then ((kauditlaw04_same.f k t207 bt212.1).bind fun t227 => (if t227 = true then (if (t208 == bt212.2.1) = true then (if (t209 == bt212.2.2) = true then (if bt217.1.toList = bt220.1.toList then (if bt217.2.1.toList = bt220.2.1.toList then (some (bt217.2.2 == bt220.2.2)) else (some false)) else (some false)) else (some false)) else (some false)) else (some false))) else (some false)))) else (some false))))))) = some r := H
  have A2 := Aside0.mk A20
  clear A20
  replace H := Option.bind_eq_some_iff.mp H
  obtain ⟨⟨t212, t213, t214⟩, A30, H⟩ := H
  replace H : ((path_Parent.f k a0).bind fun bt217 => ((kauditref04_Parent.f k a0).bind fun bt220 => ((path_Name.f a0).bind fun t223 => ((kauditref04_Name.f k a0).bind fun t224 => (if (t223 == t224) = true then ((path_Clean.f k a0).bind fun t225 => ((kauditref04_Clean.f k a0).bind fun t226 => (if (t225 == t226) = true then ((kauditlaw04_same.f k t207 t212).bind fun t227 => (if t227 = true then (if (t208 == t213) = true then (if (t209 == t214) = true then (if bt217.1.toList = bt220.1.toList then (if bt217.2.1.toList = bt220.2.1.toList then (some (bt217.2.2 == bt220.2.2)) else (some false)) else (some false)) else (some false)) else (some false)) else (some false))) else (some false)))) else (some false)))))) = some r := H
  have A3 := Aside0.mk A30
  clear A30
  replace H := Option.bind_eq_some_iff.mp H
  obtain ⟨⟨t217, t218, t219⟩, A40, H⟩ := H
  replace H : ((kauditref04_Parent.f k a0).bind fun bt220 => ((path_Name.f a0).bind fun t223 => ((kauditref04_Name.f k a0).bind fun t224 => (if (t223 == t224) = true then ((path_Clean.f k a0).bind fun t225 => ((kauditref04_Clean.f k a0).bind fun t226 => (if (t225 == t226) = true then ((kauditlaw04_same.f k t207 t212).bind fun t227 => (if t227 = true then (if (t208 == t213) = true then (if (t209 == t214) = true then (if t217.toList = bt220.1.toList then (if t218.toList = bt220.2.1.toList then (some (t219 == bt220.2.2)) else (some false)) else (some false)) else (some false)) else (some false)) else (some false))) else (some false)))) else (some false))))) = some r := H
  have A4 := Aside0.mk A40
  clear A40
  replace H := Option.bind_eq_some_iff.mp H
  obtain ⟨⟨t220, t221, t222⟩, A50, H⟩ := H
  replace H : ((path_Name.f a0).bind fun t223 => ((kauditref04_Name.f k a0).bind fun t224 => (if (t223 == t224) = true then ((path_Clean.f k a0).bind fun t225 => ((kauditref04_Clean.f k a0).bind fun t226 => (if (t225 == t226) = true then ((kauditlaw04_same.f k t207 t212).bind fun t227 => (if t227 = true then (if (t208 == t213) = true then (if (t209 == t214) = true then (if t217.toList = t220.toList then (if t218.toList = t221.toList then (some (t219 == t222)) else (some false)) else (some false)) else (some false)) else (some false)) else (some false))) else (some false)))) else (some false)))) = some r := H
  have A5 := Aside0.mk A50
  clear A50
  replace H := Option.bind_eq_some_iff.mp H
  obtain ⟨t223, A60, H⟩ := H
  replace H : ((kauditref04_Name.f k a0).bind fun t224 => (if (t223 == t224) = true then ((path_Clean.f k a0).bind fun t225 => ((kauditref04_Clean.f k a0).bind fun t226 => (if (t225 == t226) = true then ((kauditlaw04_same.f k t207 t212).bind fun t227 => (if t227 = true then (if (t208 == t213) = true then (if (t209 == t214) = true then (if t217.toList = t220.toList then (if t218.toList = t221.toList then (some (t219 == t222)) else (some false)) else (some false)) else (some false)) else (some false)) else (some false))) else (some false)))) else (some false))) = some r := H
  have A6 := Aside0.mk A60
  clear A60
  replace H := Option.bind_eq_some_iff.mp H
  obtain ⟨t224, A70, H⟩ := H
  replace H : (if (t223 == t224) = true then ((path_Clean.f k a0).bind fun t225 => ((kauditref04_Clean.f k a0).bind fun t226 => (if (t225 == t226) = true then ((kauditlaw04_same.f k t207 t212).bind fun t227 => (if t227 = true then (if (t208 == t213) = true then (if (t209 == t214) = true then (if t217.toList = t220.toList then (if t218.toList = t221.toList then (some (t219 == t222)) else (some false)) else (some false)) else (some false)) else (some false)) else (some false))) else (some false)))) else (some false)) = some r := H
  have A7 := Aside0.mk A70
  clear A70
  by_cases c8 : (t223 == t224) = true
  · rw [if_pos c8] at H
    have c8b0 : (t223 == t224) = true := c8
    (try (have c8b1 : decide (t223 = t224) = true := by simpa using c8))
    (try (have c8b2 : (t223 == t224) = true := by simpa using c8))
    clear c8
    replace H := Option.bind_eq_some_iff.mp H
    obtain ⟨t225, A90, H⟩ := H
    replace H : ((kauditref04_Clean.f k a0).bind fun t226 => (if (t225 == t226) = true then ((kauditlaw04_same.f k t207 t212).bind fun t227 => (if t227 = true then (if (t208 == t213) = true then (if (t209 == t214) = true then (if t217.toList = t220.toList then (if t218.toList = t221.toList then (some (t219 == t222)) else (some false)) else (some false)) else (some false)) else (some false)) else (some false))) else (some false))) = some r := H
    have A9 := Aside0.mk A90
    clear A90
    replace H := Option.bind_eq_some_iff.mp H
    obtain ⟨t226, A100, H⟩ := H
    replace H : (if (t225 == t226) = true then ((kauditlaw04_same.f k t207 t212).bind fun t227 => (if t227 = true then (if (t208 == t213) = true then (if (t209 == t214) = true then (if t217.toList = t220.toList then (if t218.toList = t221.toList then (some (t219 == t222)) else (some false)) else (some false)) else (some false)) else (some false)) else (some false))) else (some false)) = some r := H
    have A10 := Aside0.mk A100
    clear A100
    by_cases c11 : (t225 == t226) = true
    · rw [if_pos c11] at H
      have c11b0 : (t225 == t226) = true := c11
      (try (have c11b1 : decide (t225 = t226) = true := by simpa using c11))
      (try (have c11b2 : (t225 == t226) = true := by simpa using c11))
      clear c11
      replace H := Option.bind_eq_some_iff.mp H
      obtain ⟨t227, A120, H⟩ := H
      replace H : (if t227 = true then (if (t208 == t213) = true then (if (t209 == t214) = true then (if t217.toList = t220.toList then (if t218.toList = t221.toList then (some (t219 == t222)) else (some false)) else (some false)) else (some false)) else (some false)) else (some false)) = some r := H
      have A12 := Aside0.mk A120
      clear A120
      by_cases c13 : t227 = true
      · subst c13
        have H1 : (if (t208 == t213) = true then (if (t209 == t214) = true then (if t217.toList = t220.toList then (if t218.toList = t221.toList then (some (t219 == t222)) else (some false)) else (some false)) else (some false)) else (some false)) = some r := by rw [if_pos rfl] at H; exact H
        clear H
        have H := H1
        clear H1
        by_cases c14 : (t208 == t213) = true
        · rw [if_pos c14] at H
          have c14b0 : (t208 == t213) = true := c14
          (try (have c14b1 : decide (t208 = t213) = true := by simpa using c14))
          (try (have c14b2 : (t208 == t213) = true := by simpa using c14))
          clear c14
          by_cases c15 : (t209 == t214) = true
          · rw [if_pos c15] at H
            have c15b0 : (t209 == t214) = true := c15
            (try (have c15b1 : decide (t209 = t214) = true := by simpa using c15))
            (try (have c15b2 : (t209 == t214) = true := by simpa using c15))
            clear c15
            by_cases c16 : t217.toList = t220.toList
            · rw [if_pos c16] at H
              have c16b0 : (t217.toList == t220.toList) = true := beq_iff_eq.mpr c16
              have c16b1 : (t217.toList != t220.toList) = false := bne_eq_false_iff_eq.mpr c16
              clear c16
              by_cases c17 : t218.toList = t221.toList
              · rw [if_pos c17] at H
                have c17b0 : (t218.toList == t221.toList) = true := beq_iff_eq.mpr c17
                have c17b1 : (t218.toList != t221.toList) = false := bne_eq_false_iff_eq.mpr c17
                clear c17
                obtain rfl := Option.some.inj H
                go_enter Tryd.func18, Tryd.ntmps18
                go_wp2_with (first | ((with_reducible refine gate_callee (f := 19) rfl ?_); refine goesL_ (some 17) rfl rfl Tryd.func19 (by kernel_rfl) rfl #[.string a0] rfl (by (try simp only [List.map_toArray, List.map_cons, List.map_nil]); first | done | rfl | (simp only [List.length_drop, List.length_take]; rfl)) ?_; (with_reducible refine (path_Split.calls a0 t207 t208 t209 _ A2.out).mono ?_); rintro e w18 ⟨v210, rfl, ho0, hb⟩; refine ⟨_, rfl, ?_⟩; have n0_ := Aside0.mk (Kd.R_lower ho0 (below_size (by repeat (first | (with_reducible first | exact HB.out | apply below_alloc | apply pw_below_drewN | apply below_drew1) | exact HB.out)))); have n1_ := Aside0.mk (below_step (by repeat (first | (with_reducible first | exact HB.out | apply below_alloc | apply pw_below_drewN | apply below_drew1) | exact HB.out)) hb); clear HB; have HO211 := n0_; have HB := n1_; clear n0_ n1_; (try clear hb); (try clear hb2); (try clear hk); (try clear hi); (try clear ho0)) | ((with_reducible refine gate_callee (f := 32) rfl ?_); refine goesL_ (some 23) rfl rfl Tryd.func32 (by kernel_rfl) rfl #[.string a0] rfl (by (try simp only [List.map_toArray, List.map_cons, List.map_nil]); first | done | rfl | (simp only [List.length_drop, List.length_take]; rfl)) ?_; (with_reducible refine (kauditref04_Split.calls k a0 t212 t213 t214 _ A3.out).mono ?_); rintro e w19 ⟨v215, rfl, ho0, hb⟩; refine ⟨_, rfl, ?_⟩; have n0_ := Aside0.mk (Kd.R_elder' (by (with_reducible repeat (first | apply Kd.R_alloc | apply Kd.R_drewN | apply Kd.R_drew)); exact HO211.out) (Kd.R_base ho0) hb); have n1_ := Aside0.mk (Kd.R_lower (Kd.R_new' ho0 (Kd.R_lt (by (with_reducible repeat (first | apply Kd.R_alloc | apply Kd.R_drewN | apply Kd.R_drew)); exact HO211.out))) (below_size (by repeat (first | (with_reducible first | exact HB.out | apply below_alloc | apply pw_below_drewN | apply below_drew1) | exact HB.out)))); have n2_ := Aside0.mk (below_step (by repeat (first | (with_reducible first | exact HB.out | apply below_alloc | apply pw_below_drewN | apply below_drew1) | exact HB.out)) hb); clear HO211; clear HB; have HO211 := n0_; have HO216 := n1_; have HB := n2_; clear n0_ n1_ n2_; (try clear hb); (try clear hb2); (try clear hk); (try clear hi); (try clear ho0)) | ((with_reducible refine gate_callee (f := 21) rfl ?_); refine goesL_ (some 29) rfl rfl Tryd.func21 (by kernel_rfl) rfl #[.string a0] rfl (by (try simp only [List.map_toArray, List.map_cons, List.map_nil]); first | done | rfl | (simp only [List.length_drop, List.length_take]; rfl)) ?_; (with_reducible refine (path_Parent.calls k a0 t217 t218 t219 _ A4.out).mono ?_); rintro e w20 ⟨rfl, hb⟩; refine ⟨_, rfl, ?_⟩; have n0_ := Aside0.mk (Kd.R_below (by (with_reducible repeat (first | apply Kd.R_alloc | apply Kd.R_drewN | apply Kd.R_drew)); exact HO211.out) hb); have n1_ := Aside0.mk (Kd.R_below (by (with_reducible repeat (first | apply Kd.R_alloc | apply Kd.R_drewN | apply Kd.R_drew)); exact HO216.out) hb); have n2_ := Aside0.mk (below_step (by repeat (first | (with_reducible first | exact HB.out | apply below_alloc | apply pw_below_drewN | apply below_drew1) | exact HB.out)) hb); clear HO211; clear HO216; clear HB; have HO211 := n0_; have HO216 := n1_; have HB := n2_; clear n0_ n1_ n2_; (try clear hb); (try clear hb2); (try clear hk); (try clear hi)) | ((with_reducible refine gate_callee (f := 33) rfl ?_); refine goesL_ (some 35) rfl rfl Tryd.func33 (by kernel_rfl) rfl #[.string a0] rfl (by (try simp only [List.map_toArray, List.map_cons, List.map_nil]); first | done | rfl | (simp only [List.length_drop, List.length_take]; rfl)) ?_; (with_reducible refine (kauditref04_Parent.calls k a0 t220 t221 t222 _ A5.out).mono ?_); rintro e w21 ⟨rfl, hb⟩; refine ⟨_, rfl, ?_⟩; have n0_ := Aside0.mk (Kd.R_below (by (with_reducible repeat (first | apply Kd.R_alloc | apply Kd.R_drewN | apply Kd.R_drew)); exact HO211.out) hb); have n1_ := Aside0.mk (Kd.R_below (by (with_reducible repeat (first | apply Kd.R_alloc | apply Kd.R_drewN | apply Kd.R_drew)); exact HO216.out) hb); have n2_ := Aside0.mk (below_step (by repeat (first | (with_reducible first | exact HB.out | apply below_alloc | apply pw_below_drewN | apply below_drew1) | exact HB.out)) hb); clear HO211; clear HO216; clear HB; have HO211 := n0_; have HO216 := n1_; have HB := n2_; clear n0_ n1_ n2_; (try clear hb); (try clear hb2); (try clear hk); (try clear hi)) | ((with_reducible refine gate_callee (f := 16) rfl ?_); refine goesL_ (some 40) rfl rfl Tryd.func16 (by kernel_rfl) rfl #[.string a0] rfl (by (try simp only [List.map_toArray, List.map_cons, List.map_nil]); first | done | rfl | (simp only [List.length_drop, List.length_take]; rfl)) ?_; (with_reducible refine (path_Name.calls a0 t223 _ A6.out).mono ?_); rintro e w22 ⟨rfl, hb⟩; refine ⟨_, rfl, ?_⟩; have n0_ := Aside0.mk (Kd.R_below (by (with_reducible repeat (first | apply Kd.R_alloc | apply Kd.R_drewN | apply Kd.R_drew)); exact HO211.out) hb); have n1_ := Aside0.mk (Kd.R_below (by (with_reducible repeat (first | apply Kd.R_alloc | apply Kd.R_drewN | apply Kd.R_drew)); exact HO216.out) hb); have n2_ := Aside0.mk (below_step (by repeat (first | (with_reducible first | exact HB.out | apply below_alloc | apply pw_below_drewN | apply below_drew1) | exact HB.out)) hb); clear HO211; clear HO216; clear HB; have HO211 := n0_; have HO216 := n1_; have HB := n2_; clear n0_ n1_ n2_; (try clear hb); (try clear hb2); (try clear hk); (try clear hi)) | ((with_reducible refine gate_callee (f := 34) rfl ?_); refine goesL_ (some 42) rfl rfl Tryd.func34 (by kernel_rfl) rfl #[.string a0] rfl (by (try simp only [List.map_toArray, List.map_cons, List.map_nil]); first | done | rfl | (simp only [List.length_drop, List.length_take]; rfl)) ?_; (with_reducible refine (kauditref04_Name.calls k a0 t224 _ A7.out).mono ?_); rintro e w' ⟨rfl, ⟨nd, rfl⟩⟩; refine ⟨_, rfl, ?_⟩) | (go_at_call 17; (with_reducible refine (path_Clean.calls k a0 t225 _ A9.out).mono ?_); rintro e w23 ⟨rfl, hb⟩; have n0_ := Aside0.mk (Kd.R_below (by (with_reducible repeat (first | apply Kd.R_alloc | apply Kd.R_drewN | apply Kd.R_drew)); exact HO211.out) hb); have n1_ := Aside0.mk (Kd.R_below (by (with_reducible repeat (first | apply Kd.R_alloc | apply Kd.R_drewN | apply Kd.R_drew)); exact HO216.out) hb); have n2_ := Aside0.mk (below_step (by repeat (first | (with_reducible first | exact HB.out | apply below_alloc | apply pw_below_drewN | apply below_drew1) | exact HB.out)) hb); clear HO211; clear HO216; clear HB; have HO211 := n0_; have HO216 := n1_; have HB := n2_; clear n0_ n1_ n2_; (try clear hb); (try clear hb2); (try clear hk); (try clear hi)) | (go_at_call 35; (with_reducible refine (kauditref04_Clean.calls k a0 t226 _ A10.out).mono ?_); rintro e w24 ⟨rfl, hb⟩; have n0_ := Aside0.mk (Kd.R_below (by (with_reducible repeat (first | apply Kd.R_alloc | apply Kd.R_drewN | apply Kd.R_drew)); exact HO211.out) hb); have n1_ := Aside0.mk (Kd.R_below (by (with_reducible repeat (first | apply Kd.R_alloc | apply Kd.R_drewN | apply Kd.R_drew)); exact HO216.out) hb); have n2_ := Aside0.mk (below_step (by repeat (first | (with_reducible first | exact HB.out | apply below_alloc | apply pw_below_drewN | apply below_drew1) | exact HB.out)) hb); clear HO211; clear HO216; clear HB; have HO211 := n0_; have HO216 := n1_; have HB := n2_; clear n0_ n1_ n2_; (try clear hb); (try clear hb2); (try clear hk); (try clear hi); obtain ⟨Ao25, co25, eo25⟩ := Kd.R_slice HO211.out; subst eo25; obtain ⟨Ao26, co26, eo26⟩ := Kd.R_slice HO216.out; subst eo26) | (go_at_call 36; (with_reducible refine (kauditlaw04_same.calls k _ _ t207 _ _ t212 true _ ?side1 ?side2 ?side3 ?side4 A12.out).mono ?_); (case side1 => repeat (first | exact (Kd.R_reads' HO211.out).2.2 | (with_reducible refine Kd.C_alloc ?_ _) | (with_reducible refine Kd.C_drewN ?_ _) | (with_reducible refine Kd.C_drew ?_))); (case side2 => exact (Kd.R_reads' HO211.out).2.1); (case side3 => repeat (first | exact (Kd.R_reads' HO216.out).2.2 | (with_reducible refine Kd.C_alloc ?_ _) | (with_reducible refine Kd.C_drewN ?_ _) | (with_reducible refine Kd.C_drew ?_))); (case side4 => exact (Kd.R_reads' HO216.out).2.1); rintro e w' ⟨rfl, ⟨nd, rfl⟩⟩))
                go_ret
                exact ⟨by first | rfl | (simp [errW_none, errW_some] <;> rfl) | (simp [*, errW_none, errW_some] <;> rfl), by repeat (first | (with_reducible first | exact HB.out | apply below_alloc | apply pw_below_drewN | apply below_drew1) | exact HB.out)⟩
              · rw [if_neg c17] at H
                have c17b0 : (t218.toList == t221.toList) = false := beq_eq_false_iff_ne.mpr c17
                have c17b1 : (t218.toList != t221.toList) = true := bne_iff_ne.mpr c17
                obtain rfl := Option.some.inj H
                go_enter Tryd.func18, Tryd.ntmps18
                go_wp2_with (first | ((with_reducible refine gate_callee (f := 19) rfl ?_); refine goesL_ (some 17) rfl rfl Tryd.func19 (by kernel_rfl) rfl #[.string a0] rfl (by (try simp only [List.map_toArray, List.map_cons, List.map_nil]); first | done | rfl | (simp only [List.length_drop, List.length_take]; rfl)) ?_; (with_reducible refine (path_Split.calls a0 t207 t208 t209 _ A2.out).mono ?_); rintro e w27 ⟨v210, rfl, ho0, hb⟩; refine ⟨_, rfl, ?_⟩; have n0_ := Aside0.mk (Kd.R_lower ho0 (below_size (by repeat (first | (with_reducible first | exact HB.out | apply below_alloc | apply pw_below_drewN | apply below_drew1) | exact HB.out)))); have n1_ := Aside0.mk (below_step (by repeat (first | (with_reducible first | exact HB.out | apply below_alloc | apply pw_below_drewN | apply below_drew1) | exact HB.out)) hb); clear HB; have HO211 := n0_; have HB := n1_; clear n0_ n1_; (try clear hb); (try clear hb2); (try clear hk); (try clear hi); (try clear ho0)) | ((with_reducible refine gate_callee (f := 32) rfl ?_); refine goesL_ (some 23) rfl rfl Tryd.func32 (by kernel_rfl) rfl #[.string a0] rfl (by (try simp only [List.map_toArray, List.map_cons, List.map_nil]); first | done | rfl | (simp only [List.length_drop, List.length_take]; rfl)) ?_; (with_reducible refine (kauditref04_Split.calls k a0 t212 t213 t214 _ A3.out).mono ?_); rintro e w28 ⟨v215, rfl, ho0, hb⟩; refine ⟨_, rfl, ?_⟩; have n0_ := Aside0.mk (Kd.R_elder' (by (with_reducible repeat (first | apply Kd.R_alloc | apply Kd.R_drewN | apply Kd.R_drew)); exact HO211.out) (Kd.R_base ho0) hb); have n1_ := Aside0.mk (Kd.R_lower (Kd.R_new' ho0 (Kd.R_lt (by (with_reducible repeat (first | apply Kd.R_alloc | apply Kd.R_drewN | apply Kd.R_drew)); exact HO211.out))) (below_size (by repeat (first | (with_reducible first | exact HB.out | apply below_alloc | apply pw_below_drewN | apply below_drew1) | exact HB.out)))); have n2_ := Aside0.mk (below_step (by repeat (first | (with_reducible first | exact HB.out | apply below_alloc | apply pw_below_drewN | apply below_drew1) | exact HB.out)) hb); clear HO211; clear HB; have HO211 := n0_; have HO216 := n1_; have HB := n2_; clear n0_ n1_ n2_; (try clear hb); (try clear hb2); (try clear hk); (try clear hi); (try clear ho0)) | ((with_reducible refine gate_callee (f := 21) rfl ?_); refine goesL_ (some 29) rfl rfl Tryd.func21 (by kernel_rfl) rfl #[.string a0] rfl (by (try simp only [List.map_toArray, List.map_cons, List.map_nil]); first | done | rfl | (simp only [List.length_drop, List.length_take]; rfl)) ?_; (with_reducible refine (path_Parent.calls k a0 t217 t218 t219 _ A4.out).mono ?_); rintro e w29 ⟨rfl, hb⟩; refine ⟨_, rfl, ?_⟩; have n0_ := Aside0.mk (Kd.R_below (by (with_reducible repeat (first | apply Kd.R_alloc | apply Kd.R_drewN | apply Kd.R_drew)); exact HO211.out) hb); have n1_ := Aside0.mk (Kd.R_below (by (with_reducible repeat (first | apply Kd.R_alloc | apply Kd.R_drewN | apply Kd.R_drew)); exact HO216.out) hb); have n2_ := Aside0.mk (below_step (by repeat (first | (with_reducible first | exact HB.out | apply below_alloc | apply pw_below_drewN | apply below_drew1) | exact HB.out)) hb); clear HO211; clear HO216; clear HB; have HO211 := n0_; have HO216 := n1_; have HB := n2_; clear n0_ n1_ n2_; (try clear hb); (try clear hb2); (try clear hk); (try clear hi)) | ((with_reducible refine gate_callee (f := 33) rfl ?_); refine goesL_ (some 35) rfl rfl Tryd.func33 (by kernel_rfl) rfl #[.string a0] rfl (by (try simp only [List.map_toArray, List.map_cons, List.map_nil]); first | done | rfl | (simp only [List.length_drop, List.length_take]; rfl)) ?_; (with_reducible refine (kauditref04_Parent.calls k a0 t220 t221 t222 _ A5.out).mono ?_); rintro e w30 ⟨rfl, hb⟩; refine ⟨_, rfl, ?_⟩; have n0_ := Aside0.mk (Kd.R_below (by (with_reducible repeat (first | apply Kd.R_alloc | apply Kd.R_drewN | apply Kd.R_drew)); exact HO211.out) hb); have n1_ := Aside0.mk (Kd.R_below (by (with_reducible repeat (first | apply Kd.R_alloc | apply Kd.R_drewN | apply Kd.R_drew)); exact HO216.out) hb); have n2_ := Aside0.mk (below_step (by repeat (first | (with_reducible first | exact HB.out | apply below_alloc | apply pw_below_drewN | apply below_drew1) | exact HB.out)) hb); clear HO211; clear HO216; clear HB; have HO211 := n0_; have HO216 := n1_; have HB := n2_; clear n0_ n1_ n2_; (try clear hb); (try clear hb2); (try clear hk); (try clear hi)) | ((with_reducible refine gate_callee (f := 16) rfl ?_); refine goesL_ (some 40) rfl rfl Tryd.func16 (by kernel_rfl) rfl #[.string a0] rfl (by (try simp only [List.map_toArray, List.map_cons, List.map_nil]); first | done | rfl | (simp only [List.length_drop, List.length_take]; rfl)) ?_; (with_reducible refine (path_Name.calls a0 t223 _ A6.out).mono ?_); rintro e w31 ⟨rfl, hb⟩; refine ⟨_, rfl, ?_⟩; have n0_ := Aside0.mk (Kd.R_below (by (with_reducible repeat (first | apply Kd.R_alloc | apply Kd.R_drewN | apply Kd.R_drew)); exact HO211.out) hb); have n1_ := Aside0.mk (Kd.R_below (by (with_reducible repeat (first | apply Kd.R_alloc | apply Kd.R_drewN | apply Kd.R_drew)); exact HO216.out) hb); have n2_ := Aside0.mk (below_step (by repeat (first | (with_reducible first | exact HB.out | apply below_alloc | apply pw_below_drewN | apply below_drew1) | exact HB.out)) hb); clear HO211; clear HO216; clear HB; have HO211 := n0_; have HO216 := n1_; have HB := n2_; clear n0_ n1_ n2_; (try clear hb); (try clear hb2); (try clear hk); (try clear hi)) | ((with_reducible refine gate_callee (f := 34) rfl ?_); refine goesL_ (some 42) rfl rfl Tryd.func34 (by kernel_rfl) rfl #[.string a0] rfl (by (try simp only [List.map_toArray, List.map_cons, List.map_nil]); first | done | rfl | (simp only [List.length_drop, List.length_take]; rfl)) ?_; (with_reducible refine (kauditref04_Name.calls k a0 t224 _ A7.out).mono ?_); rintro e w' ⟨rfl, ⟨nd, rfl⟩⟩; refine ⟨_, rfl, ?_⟩) | (go_at_call 17; (with_reducible refine (path_Clean.calls k a0 t225 _ A9.out).mono ?_); rintro e w32 ⟨rfl, hb⟩; have n0_ := Aside0.mk (Kd.R_below (by (with_reducible repeat (first | apply Kd.R_alloc | apply Kd.R_drewN | apply Kd.R_drew)); exact HO211.out) hb); have n1_ := Aside0.mk (Kd.R_below (by (with_reducible repeat (first | apply Kd.R_alloc | apply Kd.R_drewN | apply Kd.R_drew)); exact HO216.out) hb); have n2_ := Aside0.mk (below_step (by repeat (first | (with_reducible first | exact HB.out | apply below_alloc | apply pw_below_drewN | apply below_drew1) | exact HB.out)) hb); clear HO211; clear HO216; clear HB; have HO211 := n0_; have HO216 := n1_; have HB := n2_; clear n0_ n1_ n2_; (try clear hb); (try clear hb2); (try clear hk); (try clear hi)) | (go_at_call 35; (with_reducible refine (kauditref04_Clean.calls k a0 t226 _ A10.out).mono ?_); rintro e w33 ⟨rfl, hb⟩; have n0_ := Aside0.mk (Kd.R_below (by (with_reducible repeat (first | apply Kd.R_alloc | apply Kd.R_drewN | apply Kd.R_drew)); exact HO211.out) hb); have n1_ := Aside0.mk (Kd.R_below (by (with_reducible repeat (first | apply Kd.R_alloc | apply Kd.R_drewN | apply Kd.R_drew)); exact HO216.out) hb); have n2_ := Aside0.mk (below_step (by repeat (first | (with_reducible first | exact HB.out | apply below_alloc | apply pw_below_drewN | apply below_drew1) | exact HB.out)) hb); clear HO211; clear HO216; clear HB; have HO211 := n0_; have HO216 := n1_; have HB := n2_; clear n0_ n1_ n2_; (try clear hb); (try clear hb2); (try clear hk); (try clear hi); obtain ⟨Ao34, co34, eo34⟩ := Kd.R_slice HO211.out; subst eo34; obtain ⟨Ao35, co35, eo35⟩ := Kd.R_slice HO216.out; subst eo35) | (go_at_call 36; (with_reducible refine (kauditlaw04_same.calls k _ _ t207 _ _ t212 true _ ?side1 ?side2 ?side3 ?side4 A12.out).mono ?_); (case side1 => repeat (first | exact (Kd.R_reads' HO211.out).2.2 | (with_reducible refine Kd.C_alloc ?_ _) | (with_reducible refine Kd.C_drewN ?_ _) | (with_reducible refine Kd.C_drew ?_))); (case side2 => exact (Kd.R_reads' HO211.out).2.1); (case side3 => repeat (first | exact (Kd.R_reads' HO216.out).2.2 | (with_reducible refine Kd.C_alloc ?_ _) | (with_reducible refine Kd.C_drewN ?_ _) | (with_reducible refine Kd.C_drew ?_))); (case side4 => exact (Kd.R_reads' HO216.out).2.1); rintro e w' ⟨rfl, ⟨nd, rfl⟩⟩))
                go_ret
                exact ⟨by first | rfl | (simp [errW_none, errW_some] <;> rfl) | (simp [*, errW_none, errW_some] <;> rfl), by repeat (first | (with_reducible first | exact HB.out | apply below_alloc | apply pw_below_drewN | apply below_drew1) | exact HB.out)⟩
            · rw [if_neg c16] at H
              have c16b0 : (t217.toList == t220.toList) = false := beq_eq_false_iff_ne.mpr c16
              have c16b1 : (t217.toList != t220.toList) = true := bne_iff_ne.mpr c16
              obtain rfl := Option.some.inj H
              go_enter Tryd.func18, Tryd.ntmps18
              go_wp2_with (first | ((with_reducible refine gate_callee (f := 19) rfl ?_); refine goesL_ (some 17) rfl rfl Tryd.func19 (by kernel_rfl) rfl #[.string a0] rfl (by (try simp only [List.map_toArray, List.map_cons, List.map_nil]); first | done | rfl | (simp only [List.length_drop, List.length_take]; rfl)) ?_; (with_reducible refine (path_Split.calls a0 t207 t208 t209 _ A2.out).mono ?_); rintro e w36 ⟨v210, rfl, ho0, hb⟩; refine ⟨_, rfl, ?_⟩; have n0_ := Aside0.mk (Kd.R_lower ho0 (below_size (by repeat (first | (with_reducible first | exact HB.out | apply below_alloc | apply pw_below_drewN | apply below_drew1) | exact HB.out)))); have n1_ := Aside0.mk (below_step (by repeat (first | (with_reducible first | exact HB.out | apply below_alloc | apply pw_below_drewN | apply below_drew1) | exact HB.out)) hb); clear HB; have HO211 := n0_; have HB := n1_; clear n0_ n1_; (try clear hb); (try clear hb2); (try clear hk); (try clear hi); (try clear ho0)) | ((with_reducible refine gate_callee (f := 32) rfl ?_); refine goesL_ (some 23) rfl rfl Tryd.func32 (by kernel_rfl) rfl #[.string a0] rfl (by (try simp only [List.map_toArray, List.map_cons, List.map_nil]); first | done | rfl | (simp only [List.length_drop, List.length_take]; rfl)) ?_; (with_reducible refine (kauditref04_Split.calls k a0 t212 t213 t214 _ A3.out).mono ?_); rintro e w37 ⟨v215, rfl, ho0, hb⟩; refine ⟨_, rfl, ?_⟩; have n0_ := Aside0.mk (Kd.R_elder' (by (with_reducible repeat (first | apply Kd.R_alloc | apply Kd.R_drewN | apply Kd.R_drew)); exact HO211.out) (Kd.R_base ho0) hb); have n1_ := Aside0.mk (Kd.R_lower (Kd.R_new' ho0 (Kd.R_lt (by (with_reducible repeat (first | apply Kd.R_alloc | apply Kd.R_drewN | apply Kd.R_drew)); exact HO211.out))) (below_size (by repeat (first | (with_reducible first | exact HB.out | apply below_alloc | apply pw_below_drewN | apply below_drew1) | exact HB.out)))); have n2_ := Aside0.mk (below_step (by repeat (first | (with_reducible first | exact HB.out | apply below_alloc | apply pw_below_drewN | apply below_drew1) | exact HB.out)) hb); clear HO211; clear HB; have HO211 := n0_; have HO216 := n1_; have HB := n2_; clear n0_ n1_ n2_; (try clear hb); (try clear hb2); (try clear hk); (try clear hi); (try clear ho0)) | ((with_reducible refine gate_callee (f := 21) rfl ?_); refine goesL_ (some 29) rfl rfl Tryd.func21 (by kernel_rfl) rfl #[.string a0] rfl (by (try simp only [List.map_toArray, List.map_cons, List.map_nil]); first | done | rfl | (simp only [List.length_drop, List.length_take]; rfl)) ?_; (with_reducible refine (path_Parent.calls k a0 t217 t218 t219 _ A4.out).mono ?_); rintro e w38 ⟨rfl, hb⟩; refine ⟨_, rfl, ?_⟩; have n0_ := Aside0.mk (Kd.R_below (by (with_reducible repeat (first | apply Kd.R_alloc | apply Kd.R_drewN | apply Kd.R_drew)); exact HO211.out) hb); have n1_ := Aside0.mk (Kd.R_below (by (with_reducible repeat (first | apply Kd.R_alloc | apply Kd.R_drewN | apply Kd.R_drew)); exact HO216.out) hb); have n2_ := Aside0.mk (below_step (by repeat (first | (with_reducible first | exact HB.out | apply below_alloc | apply pw_below_drewN | apply below_drew1) | exact HB.out)) hb); clear HO211; clear HO216; clear HB; have HO211 := n0_; have HO216 := n1_; have HB := n2_; clear n0_ n1_ n2_; (try clear hb); (try clear hb2); (try clear hk); (try clear hi)) | ((with_reducible refine gate_callee (f := 33) rfl ?_); refine goesL_ (some 35) rfl rfl Tryd.func33 (by kernel_rfl) rfl #[.string a0] rfl (by (try simp only [List.map_toArray, List.map_cons, List.map_nil]); first | done | rfl | (simp only [List.length_drop, List.length_take]; rfl)) ?_; (with_reducible refine (kauditref04_Parent.calls k a0 t220 t221 t222 _ A5.out).mono ?_); rintro e w39 ⟨rfl, hb⟩; refine ⟨_, rfl, ?_⟩; have n0_ := Aside0.mk (Kd.R_below (by (with_reducible repeat (first | apply Kd.R_alloc | apply Kd.R_drewN | apply Kd.R_drew)); exact HO211.out) hb); have n1_ := Aside0.mk (Kd.R_below (by (with_reducible repeat (first | apply Kd.R_alloc | apply Kd.R_drewN | apply Kd.R_drew)); exact HO216.out) hb); have n2_ := Aside0.mk (below_step (by repeat (first | (with_reducible first | exact HB.out | apply below_alloc | apply pw_below_drewN | apply below_drew1) | exact HB.out)) hb); clear HO211; clear HO216; clear HB; have HO211 := n0_; have HO216 := n1_; have HB := n2_; clear n0_ n1_ n2_; (try clear hb); (try clear hb2); (try clear hk); (try clear hi)) | ((with_reducible refine gate_callee (f := 16) rfl ?_); refine goesL_ (some 40) rfl rfl Tryd.func16 (by kernel_rfl) rfl #[.string a0] rfl (by (try simp only [List.map_toArray, List.map_cons, List.map_nil]); first | done | rfl | (simp only [List.length_drop, List.length_take]; rfl)) ?_; (with_reducible refine (path_Name.calls a0 t223 _ A6.out).mono ?_); rintro e w40 ⟨rfl, hb⟩; refine ⟨_, rfl, ?_⟩; have n0_ := Aside0.mk (Kd.R_below (by (with_reducible repeat (first | apply Kd.R_alloc | apply Kd.R_drewN | apply Kd.R_drew)); exact HO211.out) hb); have n1_ := Aside0.mk (Kd.R_below (by (with_reducible repeat (first | apply Kd.R_alloc | apply Kd.R_drewN | apply Kd.R_drew)); exact HO216.out) hb); have n2_ := Aside0.mk (below_step (by repeat (first | (with_reducible first | exact HB.out | apply below_alloc | apply pw_below_drewN | apply below_drew1) | exact HB.out)) hb); clear HO211; clear HO216; clear HB; have HO211 := n0_; have HO216 := n1_; have HB := n2_; clear n0_ n1_ n2_; (try clear hb); (try clear hb2); (try clear hk); (try clear hi)) | ((with_reducible refine gate_callee (f := 34) rfl ?_); refine goesL_ (some 42) rfl rfl Tryd.func34 (by kernel_rfl) rfl #[.string a0] rfl (by (try simp only [List.map_toArray, List.map_cons, List.map_nil]); first | done | rfl | (simp only [List.length_drop, List.length_take]; rfl)) ?_; (with_reducible refine (kauditref04_Name.calls k a0 t224 _ A7.out).mono ?_); rintro e w' ⟨rfl, ⟨nd, rfl⟩⟩; refine ⟨_, rfl, ?_⟩) | (go_at_call 17; (with_reducible refine (path_Clean.calls k a0 t225 _ A9.out).mono ?_); rintro e w41 ⟨rfl, hb⟩; have n0_ := Aside0.mk (Kd.R_below (by (with_reducible repeat (first | apply Kd.R_alloc | apply Kd.R_drewN | apply Kd.R_drew)); exact HO211.out) hb); have n1_ := Aside0.mk (Kd.R_below (by (with_reducible repeat (first | apply Kd.R_alloc | apply Kd.R_drewN | apply Kd.R_drew)); exact HO216.out) hb); have n2_ := Aside0.mk (below_step (by repeat (first | (with_reducible first | exact HB.out | apply below_alloc | apply pw_below_drewN | apply below_drew1) | exact HB.out)) hb); clear HO211; clear HO216; clear HB; have HO211 := n0_; have HO216 := n1_; have HB := n2_; clear n0_ n1_ n2_; (try clear hb); (try clear hb2); (try clear hk); (try clear hi)) | (go_at_call 35; (with_reducible refine (kauditref04_Clean.calls k a0 t226 _ A10.out).mono ?_); rintro e w42 ⟨rfl, hb⟩; have n0_ := Aside0.mk (Kd.R_below (by (with_reducible repeat (first | apply Kd.R_alloc | apply Kd.R_drewN | apply Kd.R_drew)); exact HO211.out) hb); have n1_ := Aside0.mk (Kd.R_below (by (with_reducible repeat (first | apply Kd.R_alloc | apply Kd.R_drewN | apply Kd.R_drew)); exact HO216.out) hb); have n2_ := Aside0.mk (below_step (by repeat (first | (with_reducible first | exact HB.out | apply below_alloc | apply pw_below_drewN | apply below_drew1) | exact HB.out)) hb); clear HO211; clear HO216; clear HB; have HO211 := n0_; have HO216 := n1_; have HB := n2_; clear n0_ n1_ n2_; (try clear hb); (try clear hb2); (try clear hk); (try clear hi); obtain ⟨Ao43, co43, eo43⟩ := Kd.R_slice HO211.out; subst eo43; obtain ⟨Ao44, co44, eo44⟩ := Kd.R_slice HO216.out; subst eo44) | (go_at_call 36; (with_reducible refine (kauditlaw04_same.calls k _ _ t207 _ _ t212 true _ ?side1 ?side2 ?side3 ?side4 A12.out).mono ?_); (case side1 => repeat (first | exact (Kd.R_reads' HO211.out).2.2 | (with_reducible refine Kd.C_alloc ?_ _) | (with_reducible refine Kd.C_drewN ?_ _) | (with_reducible refine Kd.C_drew ?_))); (case side2 => exact (Kd.R_reads' HO211.out).2.1); (case side3 => repeat (first | exact (Kd.R_reads' HO216.out).2.2 | (with_reducible refine Kd.C_alloc ?_ _) | (with_reducible refine Kd.C_drewN ?_ _) | (with_reducible refine Kd.C_drew ?_))); (case side4 => exact (Kd.R_reads' HO216.out).2.1); rintro e w' ⟨rfl, ⟨nd, rfl⟩⟩))
              go_ret
              exact ⟨by first | rfl | (simp [errW_none, errW_some] <;> rfl) | (simp [*, errW_none, errW_some] <;> rfl), by repeat (first | (with_reducible first | exact HB.out | apply below_alloc | apply pw_below_drewN | apply below_drew1) | exact HB.out)⟩
          · rw [if_neg c15] at H
            have c15b0 : (t209 == t214) = false := by simpa using c15
            (try (have c15b1 : decide (t209 = t214) = false := by simpa using c15))
            (try (have c15b2 : (t209 == t214) = false := by simpa using c15))
            (try (have c15b3 : ¬ (t209 = t214) := by simpa using c15))
            clear c15
            obtain rfl := Option.some.inj H
            go_enter Tryd.func18, Tryd.ntmps18
            go_wp2_with (first | ((with_reducible refine gate_callee (f := 19) rfl ?_); refine goesL_ (some 17) rfl rfl Tryd.func19 (by kernel_rfl) rfl #[.string a0] rfl (by (try simp only [List.map_toArray, List.map_cons, List.map_nil]); first | done | rfl | (simp only [List.length_drop, List.length_take]; rfl)) ?_; (with_reducible refine (path_Split.calls a0 t207 t208 t209 _ A2.out).mono ?_); rintro e w45 ⟨v210, rfl, ho0, hb⟩; refine ⟨_, rfl, ?_⟩; have n0_ := Aside0.mk (Kd.R_lower ho0 (below_size (by repeat (first | (with_reducible first | exact HB.out | apply below_alloc | apply pw_below_drewN | apply below_drew1) | exact HB.out)))); have n1_ := Aside0.mk (below_step (by repeat (first | (with_reducible first | exact HB.out | apply below_alloc | apply pw_below_drewN | apply below_drew1) | exact HB.out)) hb); clear HB; have HO211 := n0_; have HB := n1_; clear n0_ n1_; (try clear hb); (try clear hb2); (try clear hk); (try clear hi); (try clear ho0)) | ((with_reducible refine gate_callee (f := 32) rfl ?_); refine goesL_ (some 23) rfl rfl Tryd.func32 (by kernel_rfl) rfl #[.string a0] rfl (by (try simp only [List.map_toArray, List.map_cons, List.map_nil]); first | done | rfl | (simp only [List.length_drop, List.length_take]; rfl)) ?_; (with_reducible refine (kauditref04_Split.calls k a0 t212 t213 t214 _ A3.out).mono ?_); rintro e w46 ⟨v215, rfl, ho0, hb⟩; refine ⟨_, rfl, ?_⟩; have n0_ := Aside0.mk (Kd.R_elder' (by (with_reducible repeat (first | apply Kd.R_alloc | apply Kd.R_drewN | apply Kd.R_drew)); exact HO211.out) (Kd.R_base ho0) hb); have n1_ := Aside0.mk (Kd.R_lower (Kd.R_new' ho0 (Kd.R_lt (by (with_reducible repeat (first | apply Kd.R_alloc | apply Kd.R_drewN | apply Kd.R_drew)); exact HO211.out))) (below_size (by repeat (first | (with_reducible first | exact HB.out | apply below_alloc | apply pw_below_drewN | apply below_drew1) | exact HB.out)))); have n2_ := Aside0.mk (below_step (by repeat (first | (with_reducible first | exact HB.out | apply below_alloc | apply pw_below_drewN | apply below_drew1) | exact HB.out)) hb); clear HO211; clear HB; have HO211 := n0_; have HO216 := n1_; have HB := n2_; clear n0_ n1_ n2_; (try clear hb); (try clear hb2); (try clear hk); (try clear hi); (try clear ho0)) | ((with_reducible refine gate_callee (f := 21) rfl ?_); refine goesL_ (some 29) rfl rfl Tryd.func21 (by kernel_rfl) rfl #[.string a0] rfl (by (try simp only [List.map_toArray, List.map_cons, List.map_nil]); first | done | rfl | (simp only [List.length_drop, List.length_take]; rfl)) ?_; (with_reducible refine (path_Parent.calls k a0 t217 t218 t219 _ A4.out).mono ?_); rintro e w47 ⟨rfl, hb⟩; refine ⟨_, rfl, ?_⟩; have n0_ := Aside0.mk (Kd.R_below (by (with_reducible repeat (first | apply Kd.R_alloc | apply Kd.R_drewN | apply Kd.R_drew)); exact HO211.out) hb); have n1_ := Aside0.mk (Kd.R_below (by (with_reducible repeat (first | apply Kd.R_alloc | apply Kd.R_drewN | apply Kd.R_drew)); exact HO216.out) hb); have n2_ := Aside0.mk (below_step (by repeat (first | (with_reducible first | exact HB.out | apply below_alloc | apply pw_below_drewN | apply below_drew1) | exact HB.out)) hb); clear HO211; clear HO216; clear HB; have HO211 := n0_; have HO216 := n1_; have HB := n2_; clear n0_ n1_ n2_; (try clear hb); (try clear hb2); (try clear hk); (try clear hi)) | ((with_reducible refine gate_callee (f := 33) rfl ?_); refine goesL_ (some 35) rfl rfl Tryd.func33 (by kernel_rfl) rfl #[.string a0] rfl (by (try simp only [List.map_toArray, List.map_cons, List.map_nil]); first | done | rfl | (simp only [List.length_drop, List.length_take]; rfl)) ?_; (with_reducible refine (kauditref04_Parent.calls k a0 t220 t221 t222 _ A5.out).mono ?_); rintro e w48 ⟨rfl, hb⟩; refine ⟨_, rfl, ?_⟩; have n0_ := Aside0.mk (Kd.R_below (by (with_reducible repeat (first | apply Kd.R_alloc | apply Kd.R_drewN | apply Kd.R_drew)); exact HO211.out) hb); have n1_ := Aside0.mk (Kd.R_below (by (with_reducible repeat (first | apply Kd.R_alloc | apply Kd.R_drewN | apply Kd.R_drew)); exact HO216.out) hb); have n2_ := Aside0.mk (below_step (by repeat (first | (with_reducible first | exact HB.out | apply below_alloc | apply pw_below_drewN | apply below_drew1) | exact HB.out)) hb); clear HO211; clear HO216; clear HB; have HO211 := n0_; have HO216 := n1_; have HB := n2_; clear n0_ n1_ n2_; (try clear hb); (try clear hb2); (try clear hk); (try clear hi)) | ((with_reducible refine gate_callee (f := 16) rfl ?_); refine goesL_ (some 40) rfl rfl Tryd.func16 (by kernel_rfl) rfl #[.string a0] rfl (by (try simp only [List.map_toArray, List.map_cons, List.map_nil]); first | done | rfl | (simp only [List.length_drop, List.length_take]; rfl)) ?_; (with_reducible refine (path_Name.calls a0 t223 _ A6.out).mono ?_); rintro e w49 ⟨rfl, hb⟩; refine ⟨_, rfl, ?_⟩; have n0_ := Aside0.mk (Kd.R_below (by (with_reducible repeat (first | apply Kd.R_alloc | apply Kd.R_drewN | apply Kd.R_drew)); exact HO211.out) hb); have n1_ := Aside0.mk (Kd.R_below (by (with_reducible repeat (first | apply Kd.R_alloc | apply Kd.R_drewN | apply Kd.R_drew)); exact HO216.out) hb); have n2_ := Aside0.mk (below_step (by repeat (first | (with_reducible first | exact HB.out | apply below_alloc | apply pw_below_drewN | apply below_drew1) | exact HB.out)) hb); clear HO211; clear HO216; clear HB; have HO211 := n0_; have HO216 := n1_; have HB := n2_; clear n0_ n1_ n2_; (try clear hb); (try clear hb2); (try clear hk); (try clear hi)) | ((with_reducible refine gate_callee (f := 34) rfl ?_); refine goesL_ (some 42) rfl rfl Tryd.func34 (by kernel_rfl) rfl #[.string a0] rfl (by (try simp only [List.map_toArray, List.map_cons, List.map_nil]); first | done | rfl | (simp only [List.length_drop, List.length_take]; rfl)) ?_; (with_reducible refine (kauditref04_Name.calls k a0 t224 _ A7.out).mono ?_); rintro e w' ⟨rfl, ⟨nd, rfl⟩⟩; refine ⟨_, rfl, ?_⟩) | (go_at_call 17; (with_reducible refine (path_Clean.calls k a0 t225 _ A9.out).mono ?_); rintro e w50 ⟨rfl, hb⟩; have n0_ := Aside0.mk (Kd.R_below (by (with_reducible repeat (first | apply Kd.R_alloc | apply Kd.R_drewN | apply Kd.R_drew)); exact HO211.out) hb); have n1_ := Aside0.mk (Kd.R_below (by (with_reducible repeat (first | apply Kd.R_alloc | apply Kd.R_drewN | apply Kd.R_drew)); exact HO216.out) hb); have n2_ := Aside0.mk (below_step (by repeat (first | (with_reducible first | exact HB.out | apply below_alloc | apply pw_below_drewN | apply below_drew1) | exact HB.out)) hb); clear HO211; clear HO216; clear HB; have HO211 := n0_; have HO216 := n1_; have HB := n2_; clear n0_ n1_ n2_; (try clear hb); (try clear hb2); (try clear hk); (try clear hi)) | (go_at_call 35; (with_reducible refine (kauditref04_Clean.calls k a0 t226 _ A10.out).mono ?_); rintro e w51 ⟨rfl, hb⟩; have n0_ := Aside0.mk (Kd.R_below (by (with_reducible repeat (first | apply Kd.R_alloc | apply Kd.R_drewN | apply Kd.R_drew)); exact HO211.out) hb); have n1_ := Aside0.mk (Kd.R_below (by (with_reducible repeat (first | apply Kd.R_alloc | apply Kd.R_drewN | apply Kd.R_drew)); exact HO216.out) hb); have n2_ := Aside0.mk (below_step (by repeat (first | (with_reducible first | exact HB.out | apply below_alloc | apply pw_below_drewN | apply below_drew1) | exact HB.out)) hb); clear HO211; clear HO216; clear HB; have HO211 := n0_; have HO216 := n1_; have HB := n2_; clear n0_ n1_ n2_; (try clear hb); (try clear hb2); (try clear hk); (try clear hi); obtain ⟨Ao52, co52, eo52⟩ := Kd.R_slice HO211.out; subst eo52; obtain ⟨Ao53, co53, eo53⟩ := Kd.R_slice HO216.out; subst eo53) | (go_at_call 36; (with_reducible refine (kauditlaw04_same.calls k _ _ t207 _ _ t212 true _ ?side1 ?side2 ?side3 ?side4 A12.out).mono ?_); (case side1 => repeat (first | exact (Kd.R_reads' HO211.out).2.2 | (with_reducible refine Kd.C_alloc ?_ _) | (with_reducible refine Kd.C_drewN ?_ _) | (with_reducible refine Kd.C_drew ?_))); (case side2 => exact (Kd.R_reads' HO211.out).2.1); (case side3 => repeat (first | exact (Kd.R_reads' HO216.out).2.2 | (with_reducible refine Kd.C_alloc ?_ _) | (with_reducible refine Kd.C_drewN ?_ _) | (with_reducible refine Kd.C_drew ?_))); (case side4 => exact (Kd.R_reads' HO216.out).2.1); rintro e w' ⟨rfl, ⟨nd, rfl⟩⟩))
            go_ret
            exact ⟨by first | rfl | (simp [errW_none, errW_some] <;> rfl) | (simp [*, errW_none, errW_some] <;> rfl), by repeat (first | (with_reducible first | exact HB.out | apply below_alloc | apply pw_below_drewN | apply below_drew1) | exact HB.out)⟩
        · rw [if_neg c14] at H
          have c14b0 : (t208 == t213) = false := by simpa using c14
          (try (have c14b1 : decide (t208 = t213) = false := by simpa using c14))
          (try (have c14b2 : (t208 == t213) = false := by simpa using c14))
          (try (have c14b3 : ¬ (t208 = t213) := by simpa using c14))
          clear c14
          obtain rfl := Option.some.inj H
          go_enter Tryd.func18, Tryd.ntmps18
          go_wp2_with (first | ((with_reducible refine gate_callee (f := 19) rfl ?_); refine goesL_ (some 17) rfl rfl Tryd.func19 (by kernel_rfl) rfl #[.string a0] rfl (by (try simp only [List.map_toArray, List.map_cons, List.map_nil]); first | done | rfl | (simp only [List.length_drop, List.length_take]; rfl)) ?_; (with_reducible refine (path_Split.calls a0 t207 t208 t209 _ A2.out).mono ?_); rintro e w54 ⟨v210, rfl, ho0, hb⟩; refine ⟨_, rfl, ?_⟩; have n0_ := Aside0.mk (Kd.R_lower ho0 (below_size (by repeat (first | (with_reducible first | exact HB.out | apply below_alloc | apply pw_below_drewN | apply below_drew1) | exact HB.out)))); have n1_ := Aside0.mk (below_step (by repeat (first | (with_reducible first | exact HB.out | apply below_alloc | apply pw_below_drewN | apply below_drew1) | exact HB.out)) hb); clear HB; have HO211 := n0_; have HB := n1_; clear n0_ n1_; (try clear hb); (try clear hb2); (try clear hk); (try clear hi); (try clear ho0)) | ((with_reducible refine gate_callee (f := 32) rfl ?_); refine goesL_ (some 23) rfl rfl Tryd.func32 (by kernel_rfl) rfl #[.string a0] rfl (by (try simp only [List.map_toArray, List.map_cons, List.map_nil]); first | done | rfl | (simp only [List.length_drop, List.length_take]; rfl)) ?_; (with_reducible refine (kauditref04_Split.calls k a0 t212 t213 t214 _ A3.out).mono ?_); rintro e w55 ⟨v215, rfl, ho0, hb⟩; refine ⟨_, rfl, ?_⟩; have n0_ := Aside0.mk (Kd.R_elder' (by (with_reducible repeat (first | apply Kd.R_alloc | apply Kd.R_drewN | apply Kd.R_drew)); exact HO211.out) (Kd.R_base ho0) hb); have n1_ := Aside0.mk (Kd.R_lower (Kd.R_new' ho0 (Kd.R_lt (by (with_reducible repeat (first | apply Kd.R_alloc | apply Kd.R_drewN | apply Kd.R_drew)); exact HO211.out))) (below_size (by repeat (first | (with_reducible first | exact HB.out | apply below_alloc | apply pw_below_drewN | apply below_drew1) | exact HB.out)))); have n2_ := Aside0.mk (below_step (by repeat (first | (with_reducible first | exact HB.out | apply below_alloc | apply pw_below_drewN | apply below_drew1) | exact HB.out)) hb); clear HO211; clear HB; have HO211 := n0_; have HO216 := n1_; have HB := n2_; clear n0_ n1_ n2_; (try clear hb); (try clear hb2); (try clear hk); (try clear hi); (try clear ho0)) | ((with_reducible refine gate_callee (f := 21) rfl ?_); refine goesL_ (some 29) rfl rfl Tryd.func21 (by kernel_rfl) rfl #[.string a0] rfl (by (try simp only [List.map_toArray, List.map_cons, List.map_nil]); first | done | rfl | (simp only [List.length_drop, List.length_take]; rfl)) ?_; (with_reducible refine (path_Parent.calls k a0 t217 t218 t219 _ A4.out).mono ?_); rintro e w56 ⟨rfl, hb⟩; refine ⟨_, rfl, ?_⟩; have n0_ := Aside0.mk (Kd.R_below (by (with_reducible repeat (first | apply Kd.R_alloc | apply Kd.R_drewN | apply Kd.R_drew)); exact HO211.out) hb); have n1_ := Aside0.mk (Kd.R_below (by (with_reducible repeat (first | apply Kd.R_alloc | apply Kd.R_drewN | apply Kd.R_drew)); exact HO216.out) hb); have n2_ := Aside0.mk (below_step (by repeat (first | (with_reducible first | exact HB.out | apply below_alloc | apply pw_below_drewN | apply below_drew1) | exact HB.out)) hb); clear HO211; clear HO216; clear HB; have HO211 := n0_; have HO216 := n1_; have HB := n2_; clear n0_ n1_ n2_; (try clear hb); (try clear hb2); (try clear hk); (try clear hi)) | ((with_reducible refine gate_callee (f := 33) rfl ?_); refine goesL_ (some 35) rfl rfl Tryd.func33 (by kernel_rfl) rfl #[.string a0] rfl (by (try simp only [List.map_toArray, List.map_cons, List.map_nil]); first | done | rfl | (simp only [List.length_drop, List.length_take]; rfl)) ?_; (with_reducible refine (kauditref04_Parent.calls k a0 t220 t221 t222 _ A5.out).mono ?_); rintro e w57 ⟨rfl, hb⟩; refine ⟨_, rfl, ?_⟩; have n0_ := Aside0.mk (Kd.R_below (by (with_reducible repeat (first | apply Kd.R_alloc | apply Kd.R_drewN | apply Kd.R_drew)); exact HO211.out) hb); have n1_ := Aside0.mk (Kd.R_below (by (with_reducible repeat (first | apply Kd.R_alloc | apply Kd.R_drewN | apply Kd.R_drew)); exact HO216.out) hb); have n2_ := Aside0.mk (below_step (by repeat (first | (with_reducible first | exact HB.out | apply below_alloc | apply pw_below_drewN | apply below_drew1) | exact HB.out)) hb); clear HO211; clear HO216; clear HB; have HO211 := n0_; have HO216 := n1_; have HB := n2_; clear n0_ n1_ n2_; (try clear hb); (try clear hb2); (try clear hk); (try clear hi)) | ((with_reducible refine gate_callee (f := 16) rfl ?_); refine goesL_ (some 40) rfl rfl Tryd.func16 (by kernel_rfl) rfl #[.string a0] rfl (by (try simp only [List.map_toArray, List.map_cons, List.map_nil]); first | done | rfl | (simp only [List.length_drop, List.length_take]; rfl)) ?_; (with_reducible refine (path_Name.calls a0 t223 _ A6.out).mono ?_); rintro e w58 ⟨rfl, hb⟩; refine ⟨_, rfl, ?_⟩; have n0_ := Aside0.mk (Kd.R_below (by (with_reducible repeat (first | apply Kd.R_alloc | apply Kd.R_drewN | apply Kd.R_drew)); exact HO211.out) hb); have n1_ := Aside0.mk (Kd.R_below (by (with_reducible repeat (first | apply Kd.R_alloc | apply Kd.R_drewN | apply Kd.R_drew)); exact HO216.out) hb); have n2_ := Aside0.mk (below_step (by repeat (first | (with_reducible first | exact HB.out | apply below_alloc | apply pw_below_drewN | apply below_drew1) | exact HB.out)) hb); clear HO211; clear HO216; clear HB; have HO211 := n0_; have HO216 := n1_; have HB := n2_; clear n0_ n1_ n2_; (try clear hb); (try clear hb2); (try clear hk); (try clear hi)) | ((with_reducible refine gate_callee (f := 34) rfl ?_); refine goesL_ (some 42) rfl rfl Tryd.func34 (by kernel_rfl) rfl #[.string a0] rfl (by (try simp only [List.map_toArray, List.map_cons, List.map_nil]); first | done | rfl | (simp only [List.length_drop, List.length_take]; rfl)) ?_; (with_reducible refine (kauditref04_Name.calls k a0 t224 _ A7.out).mono ?_); rintro e w' ⟨rfl, ⟨nd, rfl⟩⟩; refine ⟨_, rfl, ?_⟩) | (go_at_call 17; (with_reducible refine (path_Clean.calls k a0 t225 _ A9.out).mono ?_); rintro e w59 ⟨rfl, hb⟩; have n0_ := Aside0.mk (Kd.R_below (by (with_reducible repeat (first | apply Kd.R_alloc | apply Kd.R_drewN | apply Kd.R_drew)); exact HO211.out) hb); have n1_ := Aside0.mk (Kd.R_below (by (with_reducible repeat (first | apply Kd.R_alloc | apply Kd.R_drewN | apply Kd.R_drew)); exact HO216.out) hb); have n2_ := Aside0.mk (below_step (by repeat (first | (with_reducible first | exact HB.out | apply below_alloc | apply pw_below_drewN | apply below_drew1) | exact HB.out)) hb); clear HO211; clear HO216; clear HB; have HO211 := n0_; have HO216 := n1_; have HB := n2_; clear n0_ n1_ n2_; (try clear hb); (try clear hb2); (try clear hk); (try clear hi)) | (go_at_call 35; (with_reducible refine (kauditref04_Clean.calls k a0 t226 _ A10.out).mono ?_); rintro e w60 ⟨rfl, hb⟩; have n0_ := Aside0.mk (Kd.R_below (by (with_reducible repeat (first | apply Kd.R_alloc | apply Kd.R_drewN | apply Kd.R_drew)); exact HO211.out) hb); have n1_ := Aside0.mk (Kd.R_below (by (with_reducible repeat (first | apply Kd.R_alloc | apply Kd.R_drewN | apply Kd.R_drew)); exact HO216.out) hb); have n2_ := Aside0.mk (below_step (by repeat (first | (with_reducible first | exact HB.out | apply below_alloc | apply pw_below_drewN | apply below_drew1) | exact HB.out)) hb); clear HO211; clear HO216; clear HB; have HO211 := n0_; have HO216 := n1_; have HB := n2_; clear n0_ n1_ n2_; (try clear hb); (try clear hb2); (try clear hk); (try clear hi); obtain ⟨Ao61, co61, eo61⟩ := Kd.R_slice HO211.out; subst eo61; obtain ⟨Ao62, co62, eo62⟩ := Kd.R_slice HO216.out; subst eo62) | (go_at_call 36; (with_reducible refine (kauditlaw04_same.calls k _ _ t207 _ _ t212 true _ ?side1 ?side2 ?side3 ?side4 A12.out).mono ?_); (case side1 => repeat (first | exact (Kd.R_reads' HO211.out).2.2 | (with_reducible refine Kd.C_alloc ?_ _) | (with_reducible refine Kd.C_drewN ?_ _) | (with_reducible refine Kd.C_drew ?_))); (case side2 => exact (Kd.R_reads' HO211.out).2.1); (case side3 => repeat (first | exact (Kd.R_reads' HO216.out).2.2 | (with_reducible refine Kd.C_alloc ?_ _) | (with_reducible refine Kd.C_drewN ?_ _) | (with_reducible refine Kd.C_drew ?_))); (case side4 => exact (Kd.R_reads' HO216.out).2.1); rintro e w' ⟨rfl, ⟨nd, rfl⟩⟩))
          go_ret
          exact ⟨by first | rfl | (simp [errW_none, errW_some] <;> rfl) | (simp [*, errW_none, errW_some] <;> rfl), by repeat (first | (with_reducible first | exact HB.out | apply below_alloc | apply pw_below_drewN | apply below_drew1) | exact HB.out)⟩
      · replace c13 := Bool.eq_false_iff.mpr c13
        subst c13
        have H1 : (some false) = some r := by rw [if_neg (show ¬ (false = true) by decide)] at H; exact H
        clear H
        have H := H1
        clear H1
        obtain rfl := Option.some.inj H
        go_enter Tryd.func18, Tryd.ntmps18
        go_wp2_with (first | ((with_reducible refine gate_callee (f := 19) rfl ?_); refine goesL_ (some 17) rfl rfl Tryd.func19 (by kernel_rfl) rfl #[.string a0] rfl (by (try simp only [List.map_toArray, List.map_cons, List.map_nil]); first | done | rfl | (simp only [List.length_drop, List.length_take]; rfl)) ?_; (with_reducible refine (path_Split.calls a0 t207 t208 t209 _ A2.out).mono ?_); rintro e w63 ⟨v210, rfl, ho0, hb⟩; refine ⟨_, rfl, ?_⟩; have n0_ := Aside0.mk (Kd.R_lower ho0 (below_size (by repeat (first | (with_reducible first | exact HB.out | apply below_alloc | apply pw_below_drewN | apply below_drew1) | exact HB.out)))); have n1_ := Aside0.mk (below_step (by repeat (first | (with_reducible first | exact HB.out | apply below_alloc | apply pw_below_drewN | apply below_drew1) | exact HB.out)) hb); clear HB; have HO211 := n0_; have HB := n1_; clear n0_ n1_; (try clear hb); (try clear hb2); (try clear hk); (try clear hi); (try clear ho0)) | ((with_reducible refine gate_callee (f := 32) rfl ?_); refine goesL_ (some 23) rfl rfl Tryd.func32 (by kernel_rfl) rfl #[.string a0] rfl (by (try simp only [List.map_toArray, List.map_cons, List.map_nil]); first | done | rfl | (simp only [List.length_drop, List.length_take]; rfl)) ?_; (with_reducible refine (kauditref04_Split.calls k a0 t212 t213 t214 _ A3.out).mono ?_); rintro e w64 ⟨v215, rfl, ho0, hb⟩; refine ⟨_, rfl, ?_⟩; have n0_ := Aside0.mk (Kd.R_elder' (by (with_reducible repeat (first | apply Kd.R_alloc | apply Kd.R_drewN | apply Kd.R_drew)); exact HO211.out) (Kd.R_base ho0) hb); have n1_ := Aside0.mk (Kd.R_lower (Kd.R_new' ho0 (Kd.R_lt (by (with_reducible repeat (first | apply Kd.R_alloc | apply Kd.R_drewN | apply Kd.R_drew)); exact HO211.out))) (below_size (by repeat (first | (with_reducible first | exact HB.out | apply below_alloc | apply pw_below_drewN | apply below_drew1) | exact HB.out)))); have n2_ := Aside0.mk (below_step (by repeat (first | (with_reducible first | exact HB.out | apply below_alloc | apply pw_below_drewN | apply below_drew1) | exact HB.out)) hb); clear HO211; clear HB; have HO211 := n0_; have HO216 := n1_; have HB := n2_; clear n0_ n1_ n2_; (try clear hb); (try clear hb2); (try clear hk); (try clear hi); (try clear ho0)) | ((with_reducible refine gate_callee (f := 21) rfl ?_); refine goesL_ (some 29) rfl rfl Tryd.func21 (by kernel_rfl) rfl #[.string a0] rfl (by (try simp only [List.map_toArray, List.map_cons, List.map_nil]); first | done | rfl | (simp only [List.length_drop, List.length_take]; rfl)) ?_; (with_reducible refine (path_Parent.calls k a0 t217 t218 t219 _ A4.out).mono ?_); rintro e w65 ⟨rfl, hb⟩; refine ⟨_, rfl, ?_⟩; have n0_ := Aside0.mk (Kd.R_below (by (with_reducible repeat (first | apply Kd.R_alloc | apply Kd.R_drewN | apply Kd.R_drew)); exact HO211.out) hb); have n1_ := Aside0.mk (Kd.R_below (by (with_reducible repeat (first | apply Kd.R_alloc | apply Kd.R_drewN | apply Kd.R_drew)); exact HO216.out) hb); have n2_ := Aside0.mk (below_step (by repeat (first | (with_reducible first | exact HB.out | apply below_alloc | apply pw_below_drewN | apply below_drew1) | exact HB.out)) hb); clear HO211; clear HO216; clear HB; have HO211 := n0_; have HO216 := n1_; have HB := n2_; clear n0_ n1_ n2_; (try clear hb); (try clear hb2); (try clear hk); (try clear hi)) | ((with_reducible refine gate_callee (f := 33) rfl ?_); refine goesL_ (some 35) rfl rfl Tryd.func33 (by kernel_rfl) rfl #[.string a0] rfl (by (try simp only [List.map_toArray, List.map_cons, List.map_nil]); first | done | rfl | (simp only [List.length_drop, List.length_take]; rfl)) ?_; (with_reducible refine (kauditref04_Parent.calls k a0 t220 t221 t222 _ A5.out).mono ?_); rintro e w66 ⟨rfl, hb⟩; refine ⟨_, rfl, ?_⟩; have n0_ := Aside0.mk (Kd.R_below (by (with_reducible repeat (first | apply Kd.R_alloc | apply Kd.R_drewN | apply Kd.R_drew)); exact HO211.out) hb); have n1_ := Aside0.mk (Kd.R_below (by (with_reducible repeat (first | apply Kd.R_alloc | apply Kd.R_drewN | apply Kd.R_drew)); exact HO216.out) hb); have n2_ := Aside0.mk (below_step (by repeat (first | (with_reducible first | exact HB.out | apply below_alloc | apply pw_below_drewN | apply below_drew1) | exact HB.out)) hb); clear HO211; clear HO216; clear HB; have HO211 := n0_; have HO216 := n1_; have HB := n2_; clear n0_ n1_ n2_; (try clear hb); (try clear hb2); (try clear hk); (try clear hi)) | ((with_reducible refine gate_callee (f := 16) rfl ?_); refine goesL_ (some 40) rfl rfl Tryd.func16 (by kernel_rfl) rfl #[.string a0] rfl (by (try simp only [List.map_toArray, List.map_cons, List.map_nil]); first | done | rfl | (simp only [List.length_drop, List.length_take]; rfl)) ?_; (with_reducible refine (path_Name.calls a0 t223 _ A6.out).mono ?_); rintro e w67 ⟨rfl, hb⟩; refine ⟨_, rfl, ?_⟩; have n0_ := Aside0.mk (Kd.R_below (by (with_reducible repeat (first | apply Kd.R_alloc | apply Kd.R_drewN | apply Kd.R_drew)); exact HO211.out) hb); have n1_ := Aside0.mk (Kd.R_below (by (with_reducible repeat (first | apply Kd.R_alloc | apply Kd.R_drewN | apply Kd.R_drew)); exact HO216.out) hb); have n2_ := Aside0.mk (below_step (by repeat (first | (with_reducible first | exact HB.out | apply below_alloc | apply pw_below_drewN | apply below_drew1) | exact HB.out)) hb); clear HO211; clear HO216; clear HB; have HO211 := n0_; have HO216 := n1_; have HB := n2_; clear n0_ n1_ n2_; (try clear hb); (try clear hb2); (try clear hk); (try clear hi)) | ((with_reducible refine gate_callee (f := 34) rfl ?_); refine goesL_ (some 42) rfl rfl Tryd.func34 (by kernel_rfl) rfl #[.string a0] rfl (by (try simp only [List.map_toArray, List.map_cons, List.map_nil]); first | done | rfl | (simp only [List.length_drop, List.length_take]; rfl)) ?_; (with_reducible refine (kauditref04_Name.calls k a0 t224 _ A7.out).mono ?_); rintro e w' ⟨rfl, ⟨nd, rfl⟩⟩; refine ⟨_, rfl, ?_⟩) | (go_at_call 17; (with_reducible refine (path_Clean.calls k a0 t225 _ A9.out).mono ?_); rintro e w68 ⟨rfl, hb⟩; have n0_ := Aside0.mk (Kd.R_below (by (with_reducible repeat (first | apply Kd.R_alloc | apply Kd.R_drewN | apply Kd.R_drew)); exact HO211.out) hb); have n1_ := Aside0.mk (Kd.R_below (by (with_reducible repeat (first | apply Kd.R_alloc | apply Kd.R_drewN | apply Kd.R_drew)); exact HO216.out) hb); have n2_ := Aside0.mk (below_step (by repeat (first | (with_reducible first | exact HB.out | apply below_alloc | apply pw_below_drewN | apply below_drew1) | exact HB.out)) hb); clear HO211; clear HO216; clear HB; have HO211 := n0_; have HO216 := n1_; have HB := n2_; clear n0_ n1_ n2_; (try clear hb); (try clear hb2); (try clear hk); (try clear hi)) | (go_at_call 35; (with_reducible refine (kauditref04_Clean.calls k a0 t226 _ A10.out).mono ?_); rintro e w69 ⟨rfl, hb⟩; have n0_ := Aside0.mk (Kd.R_below (by (with_reducible repeat (first | apply Kd.R_alloc | apply Kd.R_drewN | apply Kd.R_drew)); exact HO211.out) hb); have n1_ := Aside0.mk (Kd.R_below (by (with_reducible repeat (first | apply Kd.R_alloc | apply Kd.R_drewN | apply Kd.R_drew)); exact HO216.out) hb); have n2_ := Aside0.mk (below_step (by repeat (first | (with_reducible first | exact HB.out | apply below_alloc | apply pw_below_drewN | apply below_drew1) | exact HB.out)) hb); clear HO211; clear HO216; clear HB; have HO211 := n0_; have HO216 := n1_; have HB := n2_; clear n0_ n1_ n2_; (try clear hb); (try clear hb2); (try clear hk); (try clear hi); obtain ⟨Ao70, co70, eo70⟩ := Kd.R_slice HO211.out; subst eo70; obtain ⟨Ao71, co71, eo71⟩ := Kd.R_slice HO216.out; subst eo71) | (go_at_call 36; (with_reducible refine (kauditlaw04_same.calls k _ _ t207 _ _ t212 false _ ?side1 ?side2 ?side3 ?side4 A12.out).mono ?_); (case side1 => repeat (first | exact (Kd.R_reads' HO211.out).2.2 | (with_reducible refine Kd.C_alloc ?_ _) | (with_reducible refine Kd.C_drewN ?_ _) | (with_reducible refine Kd.C_drew ?_))); (case side2 => exact (Kd.R_reads' HO211.out).2.1); (case side3 => repeat (first | exact (Kd.R_reads' HO216.out).2.2 | (with_reducible refine Kd.C_alloc ?_ _) | (with_reducible refine Kd.C_drewN ?_ _) | (with_reducible refine Kd.C_drew ?_))); (case side4 => exact (Kd.R_reads' HO216.out).2.1); rintro e w' ⟨rfl, ⟨nd, rfl⟩⟩))
        go_ret
        exact ⟨by first | rfl | (simp [errW_none, errW_some] <;> rfl) | (simp [*, errW_none, errW_some] <;> rfl), by repeat (first | (with_reducible first | exact HB.out | apply below_alloc | apply pw_below_drewN | apply below_drew1) | exact HB.out)⟩
    · rw [if_neg c11] at H
      have c11b0 : (t225 == t226) = false := by simpa using c11
      (try (have c11b1 : decide (t225 = t226) = false := by simpa using c11))
      (try (have c11b2 : (t225 == t226) = false := by simpa using c11))
      (try (have c11b3 : ¬ (t225 = t226) := by simpa using c11))
      clear c11
      obtain rfl := Option.some.inj H
      go_enter Tryd.func18, Tryd.ntmps18
      go_wp2_with (first | ((with_reducible refine gate_callee (f := 19) rfl ?_); refine goesL_ (some 17) rfl rfl Tryd.func19 (by kernel_rfl) rfl #[.string a0] rfl (by (try simp only [List.map_toArray, List.map_cons, List.map_nil]); first | done | rfl | (simp only [List.length_drop, List.length_take]; rfl)) ?_; (with_reducible refine (path_Split.calls a0 t207 t208 t209 _ A2.out).mono ?_); rintro e w72 ⟨v210, rfl, ho0, hb⟩; refine ⟨_, rfl, ?_⟩; have n0_ := Aside0.mk (Kd.R_lower ho0 (below_size (by repeat (first | (with_reducible first | exact HB.out | apply below_alloc | apply pw_below_drewN | apply below_drew1) | exact HB.out)))); have n1_ := Aside0.mk (below_step (by repeat (first | (with_reducible first | exact HB.out | apply below_alloc | apply pw_below_drewN | apply below_drew1) | exact HB.out)) hb); clear HB; have HO211 := n0_; have HB := n1_; clear n0_ n1_; (try clear hb); (try clear hb2); (try clear hk); (try clear hi); (try clear ho0)) | ((with_reducible refine gate_callee (f := 32) rfl ?_); refine goesL_ (some 23) rfl rfl Tryd.func32 (by kernel_rfl) rfl #[.string a0] rfl (by (try simp only [List.map_toArray, List.map_cons, List.map_nil]); first | done | rfl | (simp only [List.length_drop, List.length_take]; rfl)) ?_; (with_reducible refine (kauditref04_Split.calls k a0 t212 t213 t214 _ A3.out).mono ?_); rintro e w73 ⟨v215, rfl, ho0, hb⟩; refine ⟨_, rfl, ?_⟩; have n0_ := Aside0.mk (Kd.R_elder' (by (with_reducible repeat (first | apply Kd.R_alloc | apply Kd.R_drewN | apply Kd.R_drew)); exact HO211.out) (Kd.R_base ho0) hb); have n1_ := Aside0.mk (Kd.R_lower (Kd.R_new' ho0 (Kd.R_lt (by (with_reducible repeat (first | apply Kd.R_alloc | apply Kd.R_drewN | apply Kd.R_drew)); exact HO211.out))) (below_size (by repeat (first | (with_reducible first | exact HB.out | apply below_alloc | apply pw_below_drewN | apply below_drew1) | exact HB.out)))); have n2_ := Aside0.mk (below_step (by repeat (first | (with_reducible first | exact HB.out | apply below_alloc | apply pw_below_drewN | apply below_drew1) | exact HB.out)) hb); clear HO211; clear HB; have HO211 := n0_; have HO216 := n1_; have HB := n2_; clear n0_ n1_ n2_; (try clear hb); (try clear hb2); (try clear hk); (try clear hi); (try clear ho0)) | ((with_reducible refine gate_callee (f := 21) rfl ?_); refine goesL_ (some 29) rfl rfl Tryd.func21 (by kernel_rfl) rfl #[.string a0] rfl (by (try simp only [List.map_toArray, List.map_cons, List.map_nil]); first | done | rfl | (simp only [List.length_drop, List.length_take]; rfl)) ?_; (with_reducible refine (path_Parent.calls k a0 t217 t218 t219 _ A4.out).mono ?_); rintro e w74 ⟨rfl, hb⟩; refine ⟨_, rfl, ?_⟩; have n0_ := Aside0.mk (Kd.R_below (by (with_reducible repeat (first | apply Kd.R_alloc | apply Kd.R_drewN | apply Kd.R_drew)); exact HO211.out) hb); have n1_ := Aside0.mk (Kd.R_below (by (with_reducible repeat (first | apply Kd.R_alloc | apply Kd.R_drewN | apply Kd.R_drew)); exact HO216.out) hb); have n2_ := Aside0.mk (below_step (by repeat (first | (with_reducible first | exact HB.out | apply below_alloc | apply pw_below_drewN | apply below_drew1) | exact HB.out)) hb); clear HO211; clear HO216; clear HB; have HO211 := n0_; have HO216 := n1_; have HB := n2_; clear n0_ n1_ n2_; (try clear hb); (try clear hb2); (try clear hk); (try clear hi)) | ((with_reducible refine gate_callee (f := 33) rfl ?_); refine goesL_ (some 35) rfl rfl Tryd.func33 (by kernel_rfl) rfl #[.string a0] rfl (by (try simp only [List.map_toArray, List.map_cons, List.map_nil]); first | done | rfl | (simp only [List.length_drop, List.length_take]; rfl)) ?_; (with_reducible refine (kauditref04_Parent.calls k a0 t220 t221 t222 _ A5.out).mono ?_); rintro e w75 ⟨rfl, hb⟩; refine ⟨_, rfl, ?_⟩; have n0_ := Aside0.mk (Kd.R_below (by (with_reducible repeat (first | apply Kd.R_alloc | apply Kd.R_drewN | apply Kd.R_drew)); exact HO211.out) hb); have n1_ := Aside0.mk (Kd.R_below (by (with_reducible repeat (first | apply Kd.R_alloc | apply Kd.R_drewN | apply Kd.R_drew)); exact HO216.out) hb); have n2_ := Aside0.mk (below_step (by repeat (first | (with_reducible first | exact HB.out | apply below_alloc | apply pw_below_drewN | apply below_drew1) | exact HB.out)) hb); clear HO211; clear HO216; clear HB; have HO211 := n0_; have HO216 := n1_; have HB := n2_; clear n0_ n1_ n2_; (try clear hb); (try clear hb2); (try clear hk); (try clear hi)) | ((with_reducible refine gate_callee (f := 16) rfl ?_); refine goesL_ (some 40) rfl rfl Tryd.func16 (by kernel_rfl) rfl #[.string a0] rfl (by (try simp only [List.map_toArray, List.map_cons, List.map_nil]); first | done | rfl | (simp only [List.length_drop, List.length_take]; rfl)) ?_; (with_reducible refine (path_Name.calls a0 t223 _ A6.out).mono ?_); rintro e w76 ⟨rfl, hb⟩; refine ⟨_, rfl, ?_⟩; have n0_ := Aside0.mk (Kd.R_below (by (with_reducible repeat (first | apply Kd.R_alloc | apply Kd.R_drewN | apply Kd.R_drew)); exact HO211.out) hb); have n1_ := Aside0.mk (Kd.R_below (by (with_reducible repeat (first | apply Kd.R_alloc | apply Kd.R_drewN | apply Kd.R_drew)); exact HO216.out) hb); have n2_ := Aside0.mk (below_step (by repeat (first | (with_reducible first | exact HB.out | apply below_alloc | apply pw_below_drewN | apply below_drew1) | exact HB.out)) hb); clear HO211; clear HO216; clear HB; have HO211 := n0_; have HO216 := n1_; have HB := n2_; clear n0_ n1_ n2_; (try clear hb); (try clear hb2); (try clear hk); (try clear hi)) | ((with_reducible refine gate_callee (f := 34) rfl ?_); refine goesL_ (some 42) rfl rfl Tryd.func34 (by kernel_rfl) rfl #[.string a0] rfl (by (try simp only [List.map_toArray, List.map_cons, List.map_nil]); first | done | rfl | (simp only [List.length_drop, List.length_take]; rfl)) ?_; (with_reducible refine (kauditref04_Name.calls k a0 t224 _ A7.out).mono ?_); rintro e w' ⟨rfl, ⟨nd, rfl⟩⟩; refine ⟨_, rfl, ?_⟩) | (go_at_call 17; (with_reducible refine (path_Clean.calls k a0 t225 _ A9.out).mono ?_); rintro e w77 ⟨rfl, hb⟩; have n0_ := Aside0.mk (Kd.R_below (by (with_reducible repeat (first | apply Kd.R_alloc | apply Kd.R_drewN | apply Kd.R_drew)); exact HO211.out) hb); have n1_ := Aside0.mk (Kd.R_below (by (with_reducible repeat (first | apply Kd.R_alloc | apply Kd.R_drewN | apply Kd.R_drew)); exact HO216.out) hb); have n2_ := Aside0.mk (below_step (by repeat (first | (with_reducible first | exact HB.out | apply below_alloc | apply pw_below_drewN | apply below_drew1) | exact HB.out)) hb); clear HO211; clear HO216; clear HB; have HO211 := n0_; have HO216 := n1_; have HB := n2_; clear n0_ n1_ n2_; (try clear hb); (try clear hb2); (try clear hk); (try clear hi)) | (go_at_call 35; (with_reducible refine (kauditref04_Clean.calls k a0 t226 _ A10.out).mono ?_); rintro e w78 ⟨rfl, hb⟩; have n0_ := Aside0.mk (Kd.R_below (by (with_reducible repeat (first | apply Kd.R_alloc | apply Kd.R_drewN | apply Kd.R_drew)); exact HO211.out) hb); have n1_ := Aside0.mk (Kd.R_below (by (with_reducible repeat (first | apply Kd.R_alloc | apply Kd.R_drewN | apply Kd.R_drew)); exact HO216.out) hb); have n2_ := Aside0.mk (below_step (by repeat (first | (with_reducible first | exact HB.out | apply below_alloc | apply pw_below_drewN | apply below_drew1) | exact HB.out)) hb); clear HO211; clear HO216; clear HB; have HO211 := n0_; have HO216 := n1_; have HB := n2_; clear n0_ n1_ n2_; (try clear hb); (try clear hb2); (try clear hk); (try clear hi)))
      go_ret
      exact ⟨by first | rfl | (simp [errW_none, errW_some] <;> rfl) | (simp [*, errW_none, errW_some] <;> rfl), by repeat (first | (with_reducible first | exact HB.out | apply below_alloc | apply pw_below_drewN | apply below_drew1) | exact HB.out)⟩
  · rw [if_neg c8] at H
    have c8b0 : (t223 == t224) = false := by simpa using c8
    (try (have c8b1 : decide (t223 = t224) = false := by simpa using c8))
    (try (have c8b2 : (t223 == t224) = false := by simpa using c8))
    (try (have c8b3 : ¬ (t223 = t224) := by simpa using c8))
    clear c8
    obtain rfl := Option.some.inj H
    go_enter Tryd.func18, Tryd.ntmps18
    go_wp2_with (first | ((with_reducible refine gate_callee (f := 19) rfl ?_); refine goesL_ (some 17) rfl rfl Tryd.func19 (by kernel_rfl) rfl #[.string a0] rfl (by (try simp only [List.map_toArray, List.map_cons, List.map_nil]); first | done | rfl | (simp only [List.length_drop, List.length_take]; rfl)) ?_; (with_reducible refine (path_Split.calls a0 t207 t208 t209 _ A2.out).mono ?_); rintro e w79 ⟨v210, rfl, ho0, hb⟩; refine ⟨_, rfl, ?_⟩; have n0_ := Aside0.mk (Kd.R_lower ho0 (below_size (by repeat (first | (with_reducible first | exact HB.out | apply below_alloc | apply pw_below_drewN | apply below_drew1) | exact HB.out)))); have n1_ := Aside0.mk (below_step (by repeat (first | (with_reducible first | exact HB.out | apply below_alloc | apply pw_below_drewN | apply below_drew1) | exact HB.out)) hb); clear HB; have HO211 := n0_; have HB := n1_; clear n0_ n1_; (try clear hb); (try clear hb2); (try clear hk); (try clear hi); (try clear ho0)) | ((with_reducible refine gate_callee (f := 32) rfl ?_); refine goesL_ (some 23) rfl rfl Tryd.func32 (by kernel_rfl) rfl #[.string a0] rfl (by (try simp only [List.map_toArray, List.map_cons, List.map_nil]); first | done | rfl | (simp only [List.length_drop, List.length_take]; rfl)) ?_; (with_reducible refine (kauditref04_Split.calls k a0 t212 t213 t214 _ A3.out).mono ?_); rintro e w80 ⟨v215, rfl, ho0, hb⟩; refine ⟨_, rfl, ?_⟩; have n0_ := Aside0.mk (Kd.R_elder' (by (with_reducible repeat (first | apply Kd.R_alloc | apply Kd.R_drewN | apply Kd.R_drew)); exact HO211.out) (Kd.R_base ho0) hb); have n1_ := Aside0.mk (Kd.R_lower (Kd.R_new' ho0 (Kd.R_lt (by (with_reducible repeat (first | apply Kd.R_alloc | apply Kd.R_drewN | apply Kd.R_drew)); exact HO211.out))) (below_size (by repeat (first | (with_reducible first | exact HB.out | apply below_alloc | apply pw_below_drewN | apply below_drew1) | exact HB.out)))); have n2_ := Aside0.mk (below_step (by repeat (first | (with_reducible first | exact HB.out | apply below_alloc | apply pw_below_drewN | apply below_drew1) | exact HB.out)) hb); clear HO211; clear HB; have HO211 := n0_; have HO216 := n1_; have HB := n2_; clear n0_ n1_ n2_; (try clear hb); (try clear hb2); (try clear hk); (try clear hi); (try clear ho0)) | ((with_reducible refine gate_callee (f := 21) rfl ?_); refine goesL_ (some 29) rfl rfl Tryd.func21 (by kernel_rfl) rfl #[.string a0] rfl (by (try simp only [List.map_toArray, List.map_cons, List.map_nil]); first | done | rfl | (simp only [List.length_drop, List.length_take]; rfl)) ?_; (with_reducible refine (path_Parent.calls k a0 t217 t218 t219 _ A4.out).mono ?_); rintro e w81 ⟨rfl, hb⟩; refine ⟨_, rfl, ?_⟩; have n0_ := Aside0.mk (Kd.R_below (by (with_reducible repeat (first | apply Kd.R_alloc | apply Kd.R_drewN | apply Kd.R_drew)); exact HO211.out) hb); have n1_ := Aside0.mk (Kd.R_below (by (with_reducible repeat (first | apply Kd.R_alloc | apply Kd.R_drewN | apply Kd.R_drew)); exact HO216.out) hb); have n2_ := Aside0.mk (below_step (by repeat (first | (with_reducible first | exact HB.out | apply below_alloc | apply pw_below_drewN | apply below_drew1) | exact HB.out)) hb); clear HO211; clear HO216; clear HB; have HO211 := n0_; have HO216 := n1_; have HB := n2_; clear n0_ n1_ n2_; (try clear hb); (try clear hb2); (try clear hk); (try clear hi)) | ((with_reducible refine gate_callee (f := 33) rfl ?_); refine goesL_ (some 35) rfl rfl Tryd.func33 (by kernel_rfl) rfl #[.string a0] rfl (by (try simp only [List.map_toArray, List.map_cons, List.map_nil]); first | done | rfl | (simp only [List.length_drop, List.length_take]; rfl)) ?_; (with_reducible refine (kauditref04_Parent.calls k a0 t220 t221 t222 _ A5.out).mono ?_); rintro e w82 ⟨rfl, hb⟩; refine ⟨_, rfl, ?_⟩; have n0_ := Aside0.mk (Kd.R_below (by (with_reducible repeat (first | apply Kd.R_alloc | apply Kd.R_drewN | apply Kd.R_drew)); exact HO211.out) hb); have n1_ := Aside0.mk (Kd.R_below (by (with_reducible repeat (first | apply Kd.R_alloc | apply Kd.R_drewN | apply Kd.R_drew)); exact HO216.out) hb); have n2_ := Aside0.mk (below_step (by repeat (first | (with_reducible first | exact HB.out | apply below_alloc | apply pw_below_drewN | apply below_drew1) | exact HB.out)) hb); clear HO211; clear HO216; clear HB; have HO211 := n0_; have HO216 := n1_; have HB := n2_; clear n0_ n1_ n2_; (try clear hb); (try clear hb2); (try clear hk); (try clear hi)) | ((with_reducible refine gate_callee (f := 16) rfl ?_); refine goesL_ (some 40) rfl rfl Tryd.func16 (by kernel_rfl) rfl #[.string a0] rfl (by (try simp only [List.map_toArray, List.map_cons, List.map_nil]); first | done | rfl | (simp only [List.length_drop, List.length_take]; rfl)) ?_; (with_reducible refine (path_Name.calls a0 t223 _ A6.out).mono ?_); rintro e w83 ⟨rfl, hb⟩; refine ⟨_, rfl, ?_⟩; have n0_ := Aside0.mk (Kd.R_below (by (with_reducible repeat (first | apply Kd.R_alloc | apply Kd.R_drewN | apply Kd.R_drew)); exact HO211.out) hb); have n1_ := Aside0.mk (Kd.R_below (by (with_reducible repeat (first | apply Kd.R_alloc | apply Kd.R_drewN | apply Kd.R_drew)); exact HO216.out) hb); have n2_ := Aside0.mk (below_step (by repeat (first | (with_reducible first | exact HB.out | apply below_alloc | apply pw_below_drewN | apply below_drew1) | exact HB.out)) hb); clear HO211; clear HO216; clear HB; have HO211 := n0_; have HO216 := n1_; have HB := n2_; clear n0_ n1_ n2_; (try clear hb); (try clear hb2); (try clear hk); (try clear hi)) | ((with_reducible refine gate_callee (f := 34) rfl ?_); refine goesL_ (some 42) rfl rfl Tryd.func34 (by kernel_rfl) rfl #[.string a0] rfl (by (try simp only [List.map_toArray, List.map_cons, List.map_nil]); first | done | rfl | (simp only [List.length_drop, List.length_take]; rfl)) ?_; (with_reducible refine (kauditref04_Name.calls k a0 t224 _ A7.out).mono ?_); rintro e w' ⟨rfl, ⟨nd, rfl⟩⟩; refine ⟨_, rfl, ?_⟩))
    go_ret
    exact ⟨by first | rfl | (simp [errW_none, errW_some] <;> rfl) | (simp [*, errW_none, errW_some] <;> rfl), by repeat (first | (with_reducible first | exact HB.out | apply below_alloc | apply pw_below_drewN | apply below_drew1) | exact HB.out)⟩

end Go.Proofs.YtnjabpgbpgocnaaDoor.PAll

-- PureE
/- What the reference's functions compute, in plain words on lists of bytes: the same as the program's. Condition: texts of at most 100000 bytes. -/
namespace Go.Proofs.YtnjabpgbpgocnaaDoor.PAll
open Go Go.RowKit Go.Proofs.YtnjabpgbpgocnaaDoorW.PrintWords Go.Proofs.YtnjabpgbpgocnaaDoorW.PrintLast Go.Proofs.YtnjabpgbpgocnaaDoorW.PrintMore
set_option linter.unusedVariables false
set_option linter.unusedSimpArgs false

theorem rdOf_map (ps : List (List UInt8)) (i : Nat) (h : i < ps.length) : rdOf ByteArray.empty (ps.map ofL) (i : Int) = ofL (ps[i]'h) := by
  rw [rdOf, Int.toNat_natCast, List.getD_eq_getElem?_getD, List.getElem?_map, List.getElem?_eq_getElem h]
  rfl

/-! ### Name -/
theorem refName_loop (s : ByteArray) (hs : s.size ≤ 1000) : ∀ (d i k : Nat), i + d = s.size → d + 1 ≤ k → kauditref04_Name.l0 k s (i : Int) = some (!((s.data.toList.drop i).any badByte)) := by
  intro d
  induction d with
  | zero =>
    intro i k hi hk
    obtain ⟨k, rfl⟩ : ∃ j, k = j + 1 := ⟨k - 1, by omega⟩
    rw [kauditref04_Name.l0, if_neg (by omega), List.drop_eq_nil_of_le (by rw [← size_len]; omega)]
    rfl
  | succ d ih =>
    intro i k hi hk
    obtain ⟨k, rfl⟩ : ∃ j, k = j + 1 := ⟨k - 1, by omega⟩
    have hlt : i < s.data.toList.length := by rw [← size_len]; omega
    have e2 : wrap64 ((i : Int) + 1) = ((i + 1 : Nat) : Int) := by unfold wrap64; omega
    have hb := bt_get s i hlt
    have heq : ∀ n : UInt8, (bt s (i : Int) = (n.toNat : Int)) ↔ s.data.toList[i]'hlt = n := fun n => by
      rw [hb, ← UInt8.toNat_inj]
      exact ⟨fun h => Int.ofNat.inj h, fun h => by rw [h]⟩
    have h0 := heq 0
    have h47 := heq 47
    rw [show (((0 : UInt8).toNat : Nat) : Int) = 0 from rfl] at h0
    rw [show (((47 : UInt8).toNat : Nat) : Int) = 47 from rfl] at h47
    rw [kauditref04_Name.l0, if_pos (by omega), if_pos (by omega), List.drop_eq_getElem_cons hlt, List.any_cons]
    by_cases c0 : bt s (i : Int) = 0
    · rw [if_pos c0, h0.1 c0]; rfl
    · rw [if_neg c0]
      by_cases c47 : bt s (i : Int) = 47
      · rw [if_pos c47, h47.1 c47]; rfl
      · have hbad : badByte (s.data.toList[i]'hlt) = false := by
          rw [badByte, Bool.or_eq_false_iff, beq_eq_false_iff_ne, beq_eq_false_iff_ne]
          exact ⟨fun h => c47 (h47.2 h), fun h => c0 (h0.2 h)⟩
        rw [if_neg c47, e2, ih (i + 1) k (by omega) (by omega), hbad, Bool.false_or]

theorem refName_eq (s : ByteArray) (k : Nat) (hk : 15 ≤ k) : kauditref04_Name.f k s = some (nameL s.data.toList) := by
  obtain ⟨k, rfl⟩ : ∃ j, k = j + 1 := ⟨k - 1, by omega⟩
  have hz := size_len s
  unfold kauditref04_Name.f
  rw [Lib.toList_data]
  by_cases h0 : s.data.toList = []
  · rw [if_pos (by rw [hz, h0]; decide), kauditref04_Name.j0, if_pos rfl, h0, nameL_nil]
  · have h1 : 1 ≤ s.data.toList.length := List.length_pos_iff.2 h0
    rw [if_neg (by omega)]
    by_cases h12 : s.data.toList.length ≤ 12
    · rw [if_neg (by omega)]
      by_cases h1 : s.data.toList = [46]
      · rw [if_pos h1, kauditref04_Name.j0, if_pos rfl, h1]; rfl
      · rw [if_neg h1, kauditref04_Name.j0]
        by_cases h2 : s.data.toList = [46, 46]
        · rw [h2]; rfl
        · rw [show (s.data.toList == [46, 46]) = false by simpa using h2, if_neg (by simp)]
          have hl := refName_loop s (by omega) s.size 0 k (by omega) (by omega)
          rw [show ((0 : Nat) : Int) = 0 from rfl] at hl
          rw [hl, List.drop_zero, nameL, decide_eq_true ⟨h0, h12, h1, h2⟩, Bool.true_and]
    · rw [if_pos (by omega), kauditref04_Name.j0, if_pos rfl, nameL, decide_eq_false (fun h => h12 h.2.1), Bool.false_and]

/-! ### Split -/
theorem piecesL_free : ∀ (l cur : List UInt8), Free l → piecesL cur l = if cur ++ l = [] then [] else [cur ++ l]
  | [], cur, _ => by rw [piecesL, List.append_nil]
  | b :: l, cur, h => by
    have hb : b ≠ 47 := h b (by simp)
    rw [piecesL, if_neg hb, piecesL_free l _ (fun x hx => h x (by simp [hx])), List.append_assoc, List.singleton_append]

theorem first_bt (s : ByteArray) (h0 : 0 < s.size) : (bt s 0 == 47) = firstSlash s := by
  have hl : 0 < s.data.toList.length := by rw [← size_len]; exact h0
  have hb := bt_get s 0 hl
  rw [show ((0 : Nat) : Int) = 0 from rfl] at hb
  rw [hb, firstSlash, List.head?_eq_getElem?, List.getElem?_eq_getElem hl, Bool.eq_iff_iff, decide_eq_true_eq, beq_iff_eq]
  constructor
  · intro h; congr 1; rw [← UInt8.toNat_inj]; exact Int.ofNat.inj h
  · intro h; rw [Option.some.inj h]; rfl
theorem last_bt (s : ByteArray) (h0 : 0 < s.size) : (bt s ((s.size - 1 : Nat) : Int) == 47) = lastSlash s := by
  have hlt : s.size - 1 < s.data.toList.length := by rw [← size_len]; omega
  rw [bt_get s _ hlt, lastSlash, List.getLast?_eq_getElem?, ← size_len, List.getElem?_eq_getElem hlt, Bool.eq_iff_iff, decide_eq_true_eq, beq_iff_eq]
  constructor
  · intro h; congr 1; rw [← UInt8.toNat_inj]; exact Int.ofNat.inj h
  · intro h; rw [Option.some.inj h]; rfl

theorem refSplit_end (s : ByteArray) (out : List ByteArray) (u : Int) (k : Nat) (hs : s.size ≤ 100000) (hk : 1 ≤ k) :
    kauditref04_Split.l0 k s out u ((s.size + 1 : Nat) : Int) = some (out, firstSlash s, lastSlash s) := by
  obtain ⟨k, rfl⟩ : ∃ j, k = j + 1 := ⟨k - 1, by omega⟩
  rw [kauditref04_Split.l0, if_neg (by omega)]
  by_cases h0 : 0 < s.size
  · have e : wrap64 ((s.size : Int) - 1) = ((s.size - 1 : Nat) : Int) := by unfold wrap64; omega
    rw [if_pos (by omega), if_pos (by omega), e, if_pos (by omega), if_pos (by omega), first_bt s h0, last_bt s h0]
  · have hl : s.data.toList = [] := List.length_eq_zero_iff.1 (by rw [← size_len]; omega)
    have hfirst : firstSlash s = false := by unfold firstSlash; rw [hl]; rfl
    have hlast : lastSlash s = false := by unfold lastSlash; rw [hl]; rfl
    rw [if_neg (by omega), hfirst, hlast]

theorem refSplit_loop (s : ByteArray) (hs : s.size ≤ 100000) : ∀ (d i from_ k : Nat) (out : List ByteArray), i + d = s.size → from_ ≤ i → out.length ≤ i → Free ((s.data.toList.drop from_).take (i - from_)) → 2 * d + 4 ≤ k →
    kauditref04_Split.l0 k s out (from_ : Int) (i : Int) = some (out ++ (piecesL ((s.data.toList.drop from_).take (i - from_)) (s.data.toList.drop i)).map ofL, firstSlash s, lastSlash s) := by
  intro d
  induction d with
  | zero =>
    intro i from_ k out hi hf ho hfree hk
    obtain rfl : i = s.size := by omega
    obtain ⟨k, rfl⟩ : ∃ j, k = j + 2 := ⟨k - 2, by omega⟩
    have e2 : wrap64 ((s.size : Int) + 1) = ((s.size + 1 : Nat) : Int) := by unfold wrap64; omega
    have hd : s.data.toList.drop s.size = [] := List.drop_eq_nil_of_le (by rw [← size_len]; omega)
    have hx : (s.extract from_ s.size).data.toList = (s.data.toList.drop from_).take (s.size - from_) := Lib.extract_data s from_ s.size
    rw [kauditref04_Split.l0, if_pos (by omega), if_pos rfl, kauditref04_Split.j1, if_pos rfl, hd]
    by_cases h : from_ < s.size
    · have hne : (s.data.toList.drop from_).take (s.size - from_) ≠ [] := by
        intro e
        have := congrArg List.length e
        rw [List.length_take, List.length_drop, ← size_len] at this
        simp at this
        omega
      rw [if_pos (by omega), if_pos (by omega), if_pos (by omega), if_pos (by omega), if_pos (by omega), e2, refSplit_end s _ _ k hs (by omega), piecesL, if_neg hne, Int.toNat_natCast, Int.toNat_natCast, List.map_singleton, ← hx, ofL_data]
    · obtain rfl : from_ = s.size := by omega
      rw [if_neg (by omega), e2, refSplit_end s _ _ k hs (by omega), Nat.sub_self, List.take_zero, piecesL, if_pos rfl, List.map_nil, List.append_nil]
  | succ d ih =>
    intro i from_ k out hi hf ho hfree hk
    obtain ⟨k, rfl⟩ : ∃ j, k = j + 2 := ⟨k - 2, by omega⟩
    have hlt : i < s.data.toList.length := by rw [← size_len]; omega
    have e2 : wrap64 ((i : Int) + 1) = ((i + 1 : Nat) : Int) := by unfold wrap64; omega
    have hb := bt_get s i hlt
    have h47 : (bt s (i : Int) = 47) ↔ s.data.toList[i]'hlt = 47 := by
      rw [hb, ← UInt8.toNat_inj]
      exact ⟨fun h => Int.ofNat.inj h, fun h => by rw [h]; rfl⟩
    have hx : (s.extract from_ i).data.toList = (s.data.toList.drop from_).take (i - from_) := Lib.extract_data s from_ i
    have hstep : (s.data.toList.drop from_).take (i + 1 - from_) = (s.data.toList.drop from_).take (i - from_) ++ [s.data.toList[i]'hlt] := by
      rw [show i + 1 - from_ = (i - from_) + 1 by omega, List.take_succ_eq_append_getElem (by rw [List.length_drop]; omega), List.getElem_drop]
      congr 3
      omega
    rw [kauditref04_Split.l0, if_pos (by omega), if_neg (by omega), if_pos (by omega), if_pos (by omega), kauditref04_Split.j1, List.drop_eq_getElem_cons hlt]
    by_cases c : bt s (i : Int) = 47
    · rw [if_pos (by simpa using c), h47.1 c, piecesL, if_pos rfl]
      have hnext : (s.data.toList.drop (i + 1)).take (i + 1 - (i + 1)) = [] := by simp
      have ih' := fun o ho' => ih (i + 1) (i + 1) k o (by omega) (Nat.le_refl _) ho' (by rw [hnext]; exact free_nil) (by omega)
      rw [hnext] at ih'
      by_cases h : from_ < i
      · have hne : (s.data.toList.drop from_).take (i - from_) ≠ [] := by
          intro e
          have := congrArg List.length e
          rw [List.length_take, List.length_drop] at this
          simp at this
          omega
        rw [if_pos (by omega), if_pos (by omega), if_pos (by omega), if_pos (by omega), if_pos (by omega), e2, ih' _ (by simp; omega), if_neg hne, Int.toNat_natCast, Int.toNat_natCast, List.map_cons, ← hx, ofL_data, List.append_assoc]
        rfl
      · obtain rfl : from_ = i := by omega
        rw [if_neg (by omega), e2, ih' _ (by omega), Nat.sub_self, List.take_zero, if_pos rfl]
    · have hne : s.data.toList[i]'hlt ≠ 47 := fun h => c (h47.2 h)
      rw [if_neg (by simpa using c), e2, ih (i + 1) from_ k out (by omega) (by omega) (by omega) ?_ (by omega), piecesL, if_neg hne, hstep]
      rw [hstep]
      intro x hx'
      rcases List.mem_append.1 hx' with hx' | hx'
      · exact hfree x hx'
      · rw [List.mem_singleton.1 hx']; exact hne

theorem refSplit_eq (s : ByteArray) (k : Nat) (hs : s.size ≤ 100000) (hk : 2 * s.size + 4 ≤ k) : kauditref04_Split.f k s = some (piecesOf s, firstSlash s, lastSlash s) := by
  have h := refSplit_loop s hs s.size 0 0 k [] (by omega) (Nat.le_refl _) (by simp) (by simp; exact free_nil) hk
  unfold kauditref04_Split.f
  rw [show ((0 : Nat) : Int) = 0 from rfl] at h
  rw [h]
  simp only [Nat.sub_self, List.take_zero, List.drop_zero, List.nil_append]
  rfl

end Go.Proofs.YtnjabpgbpgocnaaDoor.PAll

-- PureD
/- The worked example of the statements, and the makers of inputs (N, Pick, Word, Clean), in plain words. Condition: the maker's place stays below 10^9. -/
namespace Go.Proofs.YtnjabpgbpgocnaaDoor.PAll
open Go Go.RowKit Go.Proofs.YtnjabpgbpgocnaaDoorW.PrintWords Go.Proofs.YtnjabpgbpgocnaaDoorW.PrintLast Go.Proofs.YtnjabpgbpgocnaaDoorW.PrintMore
set_option linter.unusedVariables false
set_option linter.unusedSimpArgs false

theorem awake0 : kauditlaw04_awake.f 40 = some true := by kernel_rfl
theorem awake_eq (k : Nat) (hk : 40 ≤ k) : kauditlaw04_awake.f k = some true := by
  obtain ⟨d, rfl⟩ : ∃ d, k = 40 + d := ⟨k - 40, by omega⟩
  induction d with
  | zero => exact awake0
  | succ d ih => exact kauditlaw04_awake.mono (40 + d) _ (ih (by omega))

theorem N_eq (s : List Int) (i n : Int) (hi : 0 ≤ i) (hi2 : i ≤ 1000000000) (hn : 1 ≤ n) (hn2 : n ≤ 1000) : ∃ v, kauditmake_Src_N.f s i n = some (v, i + 1) ∧ 0 ≤ v ∧ v < n := by
  have e1 : wrap64 (i + 1) = i + 1 := by unfold wrap64; omega
  have e2 : wrap64 (i + 1 - 1) = i := by unfold wrap64; omega
  have key : ∀ x : Int, ∃ v, (if Int.tmod x n < 0 then some (wrap64 (Int.tmod x n + n), i + 1) else some (Int.tmod x n, i + 1)) = some (v, i + 1) ∧ 0 ≤ v ∧ v < n := fun x => by
    have h1 := Int.tmod_lt_of_pos x (show 0 < n by omega)
    have h2 : -n < Int.tmod x n := by
      have := Int.tmod_lt_of_pos (-x) (show 0 < n by omega)
      rw [Int.neg_tmod] at this
      omega
    by_cases h : Int.tmod x n < 0
    · exact ⟨Int.tmod x n + n, by rw [if_pos h, show wrap64 (Int.tmod x n + n) = Int.tmod x n + n by unfold wrap64; omega], by omega, by omega⟩
    · exact ⟨Int.tmod x n, by rw [if_neg h], by omega, by omega⟩
  unfold kauditmake_Src_N.f
  rw [if_neg (by omega), e1, e2]
  by_cases h : i + 1 ≤ (s.length : Int)
  · rw [if_pos h, if_pos hi, if_pos (by omega), if_neg (by omega)]
    exact key _
  · rw [if_neg h, if_neg (by omega)]
    exact key _

theorem Word_eq (s : List Int) (i : Int) (l : List ByteArray) (hi : 0 ≤ i) (hi2 : i ≤ 1000000000) (hl : 1 ≤ l.length) (hl2 : l.length ≤ 1000) :
    ∃ w, w ∈ l ∧ kauditmake_Src_Word.f s i l = some (w, i + 1) := by
  obtain ⟨v, hv, h0, h1⟩ := N_eq s i (l.length : Int) hi hi2 (by omega) (by omega)
  have hlt : v.toNat < l.length := by omega
  refine ⟨l[v.toNat]'hlt, List.getElem_mem hlt, ?_⟩
  unfold kauditmake_Src_Word.f
  rw [hv, Option.bind_some, if_pos h0, if_pos h1]
  refine congrArg some (Prod.ext ?_ rfl)
  show rdOf ByteArray.empty l v = _
  rw [rdOf, List.getD_eq_getElem?_getD, List.getElem?_eq_getElem hlt]
  rfl

theorem Pick_eq (s : List Int) (i : Int) (l : List Int) (hi : 0 ≤ i) (hi2 : i ≤ 1000000000) (hl : 1 ≤ l.length) (hl2 : l.length ≤ 1000) :
    ∃ w, w ∈ l ∧ kauditmake_Src_Pick.f s i l = some (w, i + 1) := by
  obtain ⟨v, hv, h0, h1⟩ := N_eq s i (l.length : Int) hi hi2 (by omega) (by omega)
  have hlt : v.toNat < l.length := by omega
  refine ⟨l[v.toNat]'hlt, List.getElem_mem hlt, ?_⟩
  unfold kauditmake_Src_Pick.f
  rw [hv, Option.bind_some, if_pos h0, if_pos h1]
  refine congrArg some (Prod.ext ?_ rfl)
  show rd l v = _
  rw [rd, List.getD_eq_getElem?_getD, List.getElem?_eq_getElem hlt]
  rfl

theorem srcClean_loop (s : List Int) : ∀ (n : Nat) (x : ByteArray) (i : Int) (k : Nat), n ≤ 10 → x.size + 2 * n ≤ 1000 → 0 ≤ i → i + n ≤ 1000000000 → n + 1 ≤ k →
    ∃ ps, ps.length = n ∧ (∀ p ∈ ps, nameL p = true ∧ p.length = 1) ∧ kauditmake_Src_Clean.l0 k x (n : Int) s i = some (ofL (x.data.toList ++ joinP ps), i + n) := by
  intro n
  induction n with
  | zero =>
    intro x i k _ _ _ _ hk
    obtain ⟨k, rfl⟩ : ∃ j, k = j + 1 := ⟨k - 1, by omega⟩
    refine ⟨[], rfl, by simp, ?_⟩
    rw [kauditmake_Src_Clean.l0, if_neg (by omega), joinP_nil, List.append_nil, ofL_data]
    simp
  | succ n ih =>
    intro x i k hn hx hi hi2 hk
    obtain ⟨k, rfl⟩ : ∃ j, k = j + 1 := ⟨k - 1, by omega⟩
    obtain ⟨w, hw, he⟩ := Word_eq s i [⟨#[97]⟩, ⟨#[98]⟩, ⟨#[99]⟩, ⟨#[108]⟩, ⟨#[109]⟩] hi (by omega) (by simp) (by simp)
    have hw2 : w.size = 1 ∧ nameL w.data.toList = true := by
      simp only [List.mem_cons, List.not_mem_nil, or_false] at hw
      rcases hw with rfl | rfl | rfl | rfl | rfl <;> exact ⟨rfl, by decide⟩
    have e1 : (⟨#[47]⟩ : ByteArray).size = 1 := rfl
    have ez : ((⟨#[47]⟩ : ByteArray) ++ w).size = 2 := by rw [ByteArray.size_append, e1, hw2.1]
    have e2 : wrap64 (((n + 1 : Nat) : Int) - 1) = (n : Int) := by unfold wrap64; omega
    obtain ⟨ps, hlen, hps, hf⟩ := ih (x ++ ((⟨#[47]⟩ : ByteArray) ++ w)) (i + 1) k (by omega) (by rw [ByteArray.size_append, ez]; omega) (by omega) (by omega) (by omega)
    refine ⟨w.data.toList :: ps, by simp [hlen], ?_, ?_⟩
    · intro p hp
      rcases List.mem_cons.1 hp with rfl | hp
      · exact ⟨hw2.2, by rw [← size_len]; exact hw2.1⟩
      · exact hps p hp
    · rw [kauditmake_Src_Clean.l0, if_pos (by omega), he, Option.bind_some]
      dsimp only
      rw [if_pos (by omega), if_pos (by omega), e2, hf]
      refine congrArg some (Prod.ext ?_ ?_)
      · rw [app_list, app_list, slash_list, joinP_cons]
        simp
      · show i + 1 + (n : Int) = i + ((n + 1 : Nat) : Int)
        omega

/-- What Src.Clean makes: a clean path of one to three names of one byte. -/
theorem srcClean_eq (s : List Int) (i : Int) (k : Nat) (hi : 0 ≤ i) (hi2 : i ≤ 999999000) (hk : 4 ≤ k) :
    ∃ ps i', ps ≠ [] ∧ ps.length ≤ 3 ∧ (∀ p ∈ ps, nameL p = true ∧ p.length = 1) ∧ i ≤ i' ∧ i' ≤ i + 4 ∧ kauditmake_Src_Clean.f k s i = some (ofL (joinP ps), i') := by
  obtain ⟨w, hw, he⟩ := Pick_eq s i [1, 1, 2, 2, 3] hi (by omega) (by simp) (by simp)
  obtain ⟨n, rfl, hn1, hn3⟩ : ∃ n : Nat, w = (n : Int) ∧ 1 ≤ n ∧ n ≤ 3 := by
    simp only [List.mem_cons, List.not_mem_nil, or_false] at hw
    exact ⟨w.toNat, by omega, by omega, by omega⟩
  obtain ⟨ps, hlen, hps, hf⟩ := srcClean_loop s n ⟨#[]⟩ (i + 1) k (by omega) (by show 0 + 2 * n ≤ 1000; omega) (by omega) (by omega) (by omega)
  refine ⟨ps, i + 1 + n, by intro e; rw [e] at hlen; simp at hlen; omega, by omega, hps, by omega, by omega, ?_⟩
  unfold kauditmake_Src_Clean.f
  rw [he, Option.bind_some]
  dsimp only
  rw [hf]
  rfl

theorem joinP_length {ps : List (List UInt8)} {m : Nat} (h : ∀ p ∈ ps, p.length ≤ m) : (joinP ps).length ≤ ps.length * (m + 1) := by
  induction ps with
  | nil => simp [joinP]
  | cons p ps ih =>
    have h1 := ih (fun q hq => h q (by simp [hq]))
    have h2 := h p (by simp)
    rw [joinP_cons, List.length_cons, List.length_append, List.length_cons, Nat.succ_mul]
    omega

end Go.Proofs.YtnjabpgbpgocnaaDoor.PAll

-- PureF
/- The reference's Join, Clean, Parent, and the comparison of lists of texts, in plain words. Condition: texts of at most 100000 bytes. -/
namespace Go.Proofs.YtnjabpgbpgocnaaDoor.PAll
open Go Go.RowKit Go.Proofs.YtnjabpgbpgocnaaDoorW.PrintWords Go.Proofs.YtnjabpgbpgocnaaDoorW.PrintLast Go.Proofs.YtnjabpgbpgocnaaDoorW.PrintMore
set_option linter.unusedVariables false
set_option linter.unusedSimpArgs false

theorem refJoin_eq (a b : ByteArray) (ha : a.size < 4294967296) (hb : b.size < 4294967296) : kauditref04_Join.f a b = some (ofL (joinL a.data.toList b.data.toList)) := by
  have e1 : (⟨#[47]⟩ : ByteArray).size = 1 := rfl
  have hyes : a ++ b = ofL (a.data.toList ++ b.data.toList) := ba_ext (by rw [app_list, ofL_list])
  have hno : (a ++ (⟨#[47]⟩ : ByteArray)) ++ b = ofL (a.data.toList ++ 47 :: b.data.toList) := ba_ext (by rw [app_list, app_list, ofL_list, slash_list]; simp)
  unfold kauditref04_Join.f
  by_cases h0 : 0 < a.size
  · have e : wrap64 ((a.size : Int) - 1) = ((a.size - 1 : Nat) : Int) := by unfold wrap64; omega
    have hl := last_bt a h0
    rw [if_pos (by omega), e, if_pos (by omega), if_pos (by omega), joinL]
    by_cases c : bt a ((a.size - 1 : Nat) : Int) = 47
    · have hg : a.data.toList.getLast? = some 47 := by
        rw [c] at hl
        exact of_decide_eq_true (by unfold lastSlash at hl; rw [← hl]; rfl)
      rw [if_pos c, if_pos (by omega), if_pos hg, hyes]
    · have hg : a.data.toList.getLast? ≠ some 47 := by
        intro h
        have : lastSlash a = true := by unfold lastSlash; exact decide_eq_true h
        rw [this, beq_iff_eq] at hl
        exact c hl
      rw [if_neg c, if_pos (by omega), if_pos (by rw [ByteArray.size_append, e1]; omega), if_neg hg, hno]
  · have hl : a.data.toList = [] := List.length_eq_zero_iff.1 (by rw [← size_len]; omega)
    rw [if_neg (by omega), if_pos (by omega), if_pos (by rw [ByteArray.size_append, e1]; omega), hno, joinL, hl]
    rfl

theorem piecesOf_map (s : ByteArray) : piecesOf s = (piecesL [] s.data.toList).map ofL := rfl

theorem joinP_pieces_le : ∀ (l cur : List UInt8), (joinP (piecesL cur l)).length ≤ l.length + cur.length + 1
  | [], cur => by
    by_cases h : cur = []
    · rw [piecesL, if_pos h]; simp [joinP]
    · rw [piecesL, if_neg h]; simp [joinP]
  | b :: l, cur => by
    have h1 := joinP_pieces_le l []
    have h2 := joinP_pieces_le l (cur ++ [b])
    rw [List.length_append] at h2
    simp at h1 h2
    by_cases hb : b = 47
    · by_cases h : cur = []
      · rw [piecesL, if_pos hb, if_pos h]; simp; omega
      · rw [piecesL, if_pos hb, if_neg h, joinP_cons]; simp; omega
    · rw [piecesL, if_neg hb]; simp; omega

theorem joinP_count (qs : List (List UInt8)) : qs.length ≤ (joinP qs).length := by
  induction qs with
  | nil => simp
  | cons q qs ih => rw [joinP_cons]; simp; omega

theorem joinP_parts (ps : List (List UInt8)) (i : Nat) (hi : i < ps.length) : joinP ps = joinP (ps.take i) ++ (47 :: (ps[i]'hi) ++ joinP (ps.drop (i + 1))) := by
  have h1 := List.take_append_drop i ps
  rw [List.drop_eq_getElem_cons hi] at h1
  conv => lhs; rw [← h1]
  rw [joinP_append, joinP_cons]
  simp

theorem refClean_end (s t : ByteArray) (xs : List ByteArray) (k : Nat) : kauditref04_Clean.l0 (k + 1) s xs t (xs.length : Int) = some (s.data.toList == [47] || (decide (xs.length ≠ 0) && s.data.toList == t.data.toList)) := by
  rw [kauditref04_Clean.l0, if_neg (by omega), Lib.toList_data, Lib.toList_data]
  by_cases h1 : s.data.toList = [47]
  · rw [if_pos h1, h1]; rfl
  · have hb : (s.data.toList == [47]) = false := by simpa using h1
    rw [if_neg h1, hb, Bool.false_or]
    by_cases h0 : xs.length = 0
    · rw [if_neg (by omega), decide_eq_false (fun h => h h0), Bool.false_and]
    · rw [if_pos (by omega), decide_eq_true h0, Bool.true_and]

theorem refClean_round (s t P : ByteArray) (xs : List ByteArray) (i k : Nat) (hi : i < xs.length) (hi2 : i ≤ 1000000) (hP : rdOf ByteArray.empty xs (i : Int) = P) (ht : t.size ≤ 200000) (hPz : P.size ≤ 200000) (hk : 15 ≤ k) :
    kauditref04_Clean.l0 (k + 1) s xs t (i : Int) = if nameL P.data.toList = true then kauditref04_Clean.l0 k s xs (t ++ ((⟨#[47]⟩ : ByteArray) ++ P)) ((i + 1 : Nat) : Int) else some false := by
  have e1 : (⟨#[47]⟩ : ByteArray).size = 1 := rfl
  have e2 : wrap64 ((i : Int) + 1) = ((i + 1 : Nat) : Int) := by unfold wrap64; omega
  rw [kauditref04_Clean.l0, if_pos (by omega), if_pos (by omega), hP, refName_eq P k hk, Option.bind_some, if_pos (show 1 + P.size ≤ 9223372036854775807 by omega), if_pos (show t.size + ((⟨#[47]⟩ : ByteArray) ++ P).size ≤ 9223372036854775807 by rw [ByteArray.size_append, e1]; omega), e2]

theorem refClean_loop (s : ByteArray) (ps : List (List UInt8)) (hps : (joinP ps).length ≤ 200000) : ∀ (d i k : Nat) (t : ByteArray), i + d = ps.length → t.data.toList = joinP (ps.take i) → d + 16 ≤ k →
    kauditref04_Clean.l0 k s (ps.map ofL) t (i : Int) = some ((ps.drop i).all nameL && (s.data.toList == [47] || (decide (ps ≠ []) && s.data.toList == joinP ps))) := by
  have hcount := joinP_count ps
  have hml : (ps.map ofL).length = ps.length := List.length_map _
  intro d
  induction d with
  | zero =>
    intro i k t hi ht hk
    obtain ⟨k, rfl⟩ : ∃ j, k = j + 1 := ⟨k - 1, by omega⟩
    obtain rfl : i = ps.length := by omega
    have h := refClean_end s t (ps.map ofL) k
    rw [hml] at h
    rw [h, List.drop_length, List.all_nil, Bool.true_and, ht, List.take_length]
    congr 3
    rw [Bool.eq_iff_iff, decide_eq_true_eq, decide_eq_true_eq]
    exact ⟨fun h e => h (by rw [e]; rfl), fun h e => h (List.length_eq_zero_iff.1 e)⟩
  | succ d ih =>
    intro i k t hi ht hk
    obtain ⟨k, rfl⟩ : ∃ j, k = j + 1 := ⟨k - 1, by omega⟩
    have hlt : i < ps.length := by omega
    have hlen := congrArg List.length (joinP_parts ps i hlt)
    simp only [List.length_append, List.length_cons] at hlen
    have htz : t.size ≤ 200000 := by rw [size_len, ht]; omega
    have hPz : (ofL (ps[i]'hlt)).size ≤ 200000 := by rw [ofL_size]; omega
    have hr := refClean_round s t (ofL (ps[i]'hlt)) (ps.map ofL) i k (by omega) (by omega) (rdOf_map ps i hlt) htz hPz (by omega)
    rw [ofL_list] at hr
    rw [hr, List.drop_eq_getElem_cons hlt, List.all_cons]
    by_cases hn : nameL (ps[i]'hlt) = true
    · have hih := ih (i + 1) k (t ++ ((⟨#[47]⟩ : ByteArray) ++ ofL (ps[i]'hlt))) (by omega) (by
        rw [app_list, app_list, slash_list, ofL_list, ht, List.take_succ_eq_append_getElem hlt, joinP_append, joinP_single]
        rfl) (by omega)
      rw [if_pos hn, hih, hn, Bool.true_and]
    · rw [if_neg hn, Bool.eq_false_iff.2 hn, Bool.false_and, Bool.false_and]

theorem refClean_eq (s : ByteArray) (k : Nat) (hs : s.size ≤ 100000) (hk : 2 * s.size + 20 ≤ k) : kauditref04_Clean.f k s = some (cleanL s.data.toList) := by
  have hj := joinP_pieces_le s.data.toList []
  rw [← size_len] at hj
  simp at hj
  have hc := joinP_count (piecesL [] s.data.toList)
  unfold kauditref04_Clean.f
  rw [refSplit_eq s k hs (by omega), Option.bind_some]
  dsimp only
  have h := refClean_loop s (piecesL [] s.data.toList) (by omega) (piecesL [] s.data.toList).length 0 k ⟨#[]⟩ (by omega) rfl (by omega)
  rw [show ((0 : Nat) : Int) = 0 from rfl, List.drop_zero] at h
  rw [piecesOf_map, h, ← clean_pieces]

theorem refParent_loop (qs : List (List UInt8)) (n : List UInt8) (hn : ∀ p ∈ qs ++ [n], nameL p = true) (hz : (joinP (qs ++ [n])).length ≤ 200000) : ∀ (d i k : Nat) (dir : ByteArray), i + d = qs.length → dir.data.toList = (if i = 0 then [47] else joinP (qs.take i)) → d + 1 ≤ k →
    kauditref04_Parent.l0 k ((qs ++ [n]).map ofL) dir (i : Int) = some (ofL (if qs = [] then [47] else joinP qs), ofL n, true) := by
  have hcount := joinP_count (qs ++ [n])
  have hlen : ((qs ++ [n]).map ofL).length = qs.length + 1 := by simp
  rw [List.length_append, List.length_singleton] at hcount
  intro d
  induction d with
  | zero =>
    intro i k dir hi hdir hk
    obtain ⟨k, rfl⟩ : ∃ j, k = j + 1 := ⟨k - 1, by omega⟩
    obtain rfl : i = qs.length := by omega
    have e2 : wrap64 ((qs.length : Int) + 1) = ((qs.length + 1 : Nat) : Int) := by unfold wrap64; omega
    have e3 : wrap64 (((qs.length + 1 : Nat) : Int) - 1) = (qs.length : Int) := by unfold wrap64; omega
    have hlt : qs.length < (qs ++ [n]).length := by simp
    rw [kauditref04_Parent.l0, hlen, e2, if_neg (by omega), e3, if_pos (by omega), if_pos (by omega), rdOf_map (qs ++ [n]) qs.length hlt]
    refine congrArg some (Prod.ext ?_ (Prod.ext ?_ rfl))
    · refine ba_ext ?_
      rw [ofL_list, hdir, List.take_length]
      cases qs with
      | nil => rfl
      | cons q qs => rw [if_neg (by simp), if_neg (by simp)]
    · show ofL _ = ofL n
      congr 1
      simp
  | succ d ih =>
    intro i k dir hi hdir hk
    obtain ⟨k, rfl⟩ : ∃ j, k = j + 1 := ⟨k - 1, by omega⟩
    have hlt : i < (qs ++ [n]).length := by simp; omega
    have hlq : i < qs.length := by omega
    have hget : (qs ++ [n])[i]'hlt = qs[i]'hlq := List.getElem_append_left hlq
    have e2 : wrap64 ((i : Int) + 1) = ((i + 1 : Nat) : Int) := by unfold wrap64; omega
    have hparts := congrArg List.length (joinP_parts (qs ++ [n]) i hlt)
    simp only [List.length_append, List.length_cons] at hparts
    have htake : (qs ++ [n]).take i = qs.take i := List.take_append_of_le_length (by omega)
    rw [htake, hget] at hparts
    have hdz : dir.size < 4294967296 := by
      rw [size_len, hdir]
      split
      · simp
      · omega
    have hpz : (ofL (qs[i]'hlq)).size < 4294967296 := by
      rw [ofL_size]
      have := nameL_len (hn (qs[i]'hlq) (by simp))
      omega
    rw [kauditref04_Parent.l0, hlen, e2, if_pos (by omega), if_pos (by omega), if_pos (by omega), rdOf_map (qs ++ [n]) i hlt, hget, refJoin_eq dir _ hdz hpz, Option.bind_some]
    refine ih (i + 1) k _ (by omega) ?_ (by omega)
    rw [ofL_list, ofL_list, if_neg (by omega), List.take_succ_eq_append_getElem hlq, joinP_append, joinP_single, hdir]
    by_cases h0 : i = 0
    · subst h0
      rw [if_pos rfl, List.take_zero, joinP_nil]
      rfl
    · rw [if_neg h0]
      refine joinL_clean (fun p hp => hn p ?_) ?_ _
      · exact List.mem_append_left _ (List.mem_of_mem_take hp)
      · intro e
        have := congrArg List.length e
        rw [List.length_take, List.length_nil] at this
        omega

theorem refParent_eq (s : ByteArray) (k : Nat) (hs : s.size ≤ 100000) (hk : 2 * s.size + 20 ≤ k) :
    kauditref04_Parent.f k s = some (ofL (parentL s.data.toList).1, ofL (parentL s.data.toList).2.1, (parentL s.data.toList).2.2) := by
  have hno : ¬ (cleanL s.data.toList = true ∧ s.data.toList ≠ [47]) → (some ((⟨#[]⟩ : ByteArray), (⟨#[]⟩ : ByteArray), false) : Option (ByteArray × ByteArray × Bool)) = some (ofL (parentL s.data.toList).1, ofL (parentL s.data.toList).2.1, (parentL s.data.toList).2.2) := fun h => by
    rw [parentL_no h]; rfl
  obtain ⟨j, hj⟩ : ∃ j, k = j + 1 := ⟨k - 1, by omega⟩
  unfold kauditref04_Parent.f
  rw [refClean_eq s k hs hk, Option.bind_some]
  by_cases hc : cleanL s.data.toList = true
  · rw [if_pos hc, Lib.toList_data, hj, kauditref04_Parent.j0]
    by_cases h1 : s.data.toList = [47]
    · rw [if_pos (by simpa using h1)]
      exact hno (fun h => h.2 h1)
    · obtain ⟨qs, n, hn, hl⟩ := clean_snoc hc h1
      have hp := pieces_join (ps := qs ++ [n]) (fun p hp => nameL_free (hn p hp)) (fun p hp => nameL_ne (hn p hp))
      have hjz : (joinP (qs ++ [n])).length = s.size := by rw [← hl, ← size_len]
      have hcount := joinP_count (qs ++ [n])
      rw [List.length_append, List.length_singleton] at hcount
      have h := refParent_loop qs n hn (by omega) qs.length 0 j ⟨#[47]⟩ (by omega) rfl (by omega)
      rw [show ((0 : Nat) : Int) = 0 from rfl] at h
      have hpar : parentL s.data.toList = (if qs = [] then [47] else joinP qs, n, true) := by rw [hl]; exact parentL_join hn
      rw [if_neg (by simpa using h1), refSplit_eq s j hs (by omega), Option.bind_some]
      dsimp only
      rw [piecesOf_map, hl, hp, h, ← hl, hpar]
  · rw [if_neg hc, hj, kauditref04_Parent.j0, if_pos rfl]
    exact hno (fun h => hc h.1)

theorem same_loop (xs : List ByteArray) (hl : xs.length ≤ 1000000) : ∀ (d i k : Nat), i + d = xs.length → d + 1 ≤ k → kauditlaw04_same.l0 k xs xs (i : Int) = some true := by
  intro d
  induction d with
  | zero =>
    intro i k hi hk
    obtain ⟨k, rfl⟩ : ∃ j, k = j + 1 := ⟨k - 1, by omega⟩
    rw [kauditlaw04_same.l0, if_neg (by omega)]
  | succ d ih =>
    intro i k hi hk
    obtain ⟨k, rfl⟩ : ∃ j, k = j + 1 := ⟨k - 1, by omega⟩
    have e2 : wrap64 ((i : Int) + 1) = ((i + 1 : Nat) : Int) := by unfold wrap64; omega
    rw [kauditlaw04_same.l0, if_pos (by omega), if_pos (by omega), if_pos (by omega), if_pos rfl, e2]
    exact ih (i + 1) k (by omega) (by omega)

theorem same_eq (xs : List ByteArray) (hl : xs.length ≤ 1000000) (k : Nat) (hk : xs.length + 1 ≤ k) : kauditlaw04_same.f k xs xs = some true := by
  unfold kauditlaw04_same.f
  rw [if_pos rfl]
  exact same_loop xs hl xs.length 0 k (by omega) hk

/-- The functions of one text agree with the reference. -/
theorem agrees_eq (s : ByteArray) (k : Nat) (hs : s.size ≤ 100000) (hk : 3 * s.size + 20 ≤ k) : kauditlaw04_agrees.f k s = some true := by
  have hl := piecesOf_length s
  unfold kauditlaw04_agrees.f
  rw [split_eq s (by omega), Option.bind_some, refSplit_eq s k hs (by omega), Option.bind_some, pathParent_eq s k (by omega) (by omega), Option.bind_some, refParent_eq s k hs (by omega), Option.bind_some,
    name_eq, Option.bind_some, refName_eq s k (by omega), Option.bind_some, if_pos (by simp), pathClean_eq s k (by omega) (by omega), Option.bind_some, refClean_eq s k hs (by omega), Option.bind_some, if_pos (by simp)]
  dsimp only
  rw [same_eq _ (by omega) k (by omega), Option.bind_some, if_pos rfl, if_pos (by simp), if_pos (by simp), if_pos rfl, if_pos rfl]
  simp

end Go.Proofs.YtnjabpgbpgocnaaDoor.PAll

-- PAllx54
namespace Go.Proofs.YtnjabpgbpgocnaaDoor.PAll
open Go.RowKit Go.Proofs.YtnjabpgbpgocnaaDoorW.PrintWords Go.Proofs.YtnjabpgbpgocnaaDoorW.PrintLast Go.Proofs.YtnjabpgbpgocnaaDoorW.PrintMore
attribute [local go_sem] max2_int min2_int max_two min_two max_three min_three max_four min_four   -- for this text's walks alone
set_option linter.unusedVariables false
set_option linter.unusedSimpArgs false

/-! ### kauditref04_Under: function 23 -/
mutual
def kauditref04_Under.j0 : Nat → ByteArray → ByteArray → Bool → Option (Bool)
  | 0, _, _, _ => none
  | k + 1, x0, x1, x19 => if x19 = true then (some false) else ((kauditref04_Split.f k x0).bind fun bt280 => ((kauditref04_Split.f k x1).bind fun bt285 => (if (bt280.1.length : Int) > (bt285.1.length : Int) then (some false) else (kauditref04_Under.l0 k bt280.1 bt285.1 0))))
def kauditref04_Under.l0 : Nat → List ByteArray → List ByteArray → Int → Option (Bool)
  | 0, _, _, _ => none
  | k + 1, x5, x8, x11 => if x11 < (x5.length : Int) then (if 0 ≤ x11 then (if x11 < (x8.length : Int) then (if (rdOf ByteArray.empty x5 x11).toList = (rdOf ByteArray.empty x8 x11).toList then (kauditref04_Under.l0 k x5 x8 (wrap64 (x11 + 1))) else (some false)) else (none)) else (none)) else (some true)
end
def kauditref04_Under.f (k : Nat) (a0 : ByteArray) (a1 : ByteArray) : Option (Bool) := (kauditref04_Clean.f k a0).bind fun t278 => (if t278 = true then ((kauditref04_Clean.f k a1).bind fun t279 => (kauditref04_Under.j0 k a0 a1 (!t279))) else (kauditref04_Under.j0 k a0 a1 true))
theorem kauditref04_Under.mono_l : ∀ k, (∀ y0 y1 y2, LeO (kauditref04_Under.j0 k y0 y1 y2) (kauditref04_Under.j0 (k + 1) y0 y1 y2)) ∧ (∀ y0 y1 y2, LeO (kauditref04_Under.l0 k y0 y1 y2) (kauditref04_Under.l0 (k + 1) y0 y1 y2))
  | 0 => ⟨fun _ _ _ r h => by simp [kauditref04_Under.j0] at h, fun _ _ _ r h => by simp [kauditref04_Under.l0] at h⟩
  | k + 1 => by
    obtain ⟨ih0, ih1⟩ := kauditref04_Under.mono_l k
    refine ⟨?_, ?_⟩
    · intro y0 y1 y2
      unfold kauditref04_Under.j0
      repeat' first
      | (with_reducible exact ih0 _ _ _)
      | (with_reducible exact ih1 _ _ _)
      | (with_reducible exact kauditref04_Clean.mono _ _)
      | (with_reducible exact kauditref04_Split.mono _ _)
      | (with_reducible exact LeO.refl _)
      | (with_reducible exact LeO.none _)
      | (with_reducible refine LeO.ite ?_ ?_)
      | (with_reducible refine LeO.bind ?_ (fun _ => ?_))
      | exact ih0 _ _ _
      | exact ih1 _ _ _
      | exact kauditref04_Clean.mono _ _
      | exact kauditref04_Split.mono _ _
      | exact LeO.none _
      | refine LeO.ite ?_ ?_
      | refine LeO.bind ?_ (fun _ => ?_)
    · intro y0 y1 y2
      unfold kauditref04_Under.l0
      repeat' first
      | (with_reducible exact ih0 _ _ _)
      | (with_reducible exact ih1 _ _ _)
      | (with_reducible exact kauditref04_Clean.mono _ _)
      | (with_reducible exact kauditref04_Split.mono _ _)
      | (with_reducible exact LeO.refl _)
      | (with_reducible exact LeO.none _)
      | (with_reducible refine LeO.ite ?_ ?_)
      | (with_reducible refine LeO.bind ?_ (fun _ => ?_))
      | exact ih0 _ _ _
      | exact ih1 _ _ _
      | exact kauditref04_Clean.mono _ _
      | exact kauditref04_Split.mono _ _
      | exact LeO.none _
      | refine LeO.ite ?_ ?_
      | refine LeO.bind ?_ (fun _ => ?_)
theorem kauditref04_Under.mono : ∀ a0 a1 k, LeO (kauditref04_Under.f k a0 a1) (kauditref04_Under.f (k + 1) a0 a1) := by
  intro a0 a1 k
  obtain ⟨ih0, ih1⟩ := kauditref04_Under.mono_l k
  unfold kauditref04_Under.f
  repeat' first
      | (with_reducible exact ih0 _ _ _)
      | (with_reducible exact ih1 _ _ _)
      | (with_reducible exact kauditref04_Clean.mono _ _)
      | (with_reducible exact kauditref04_Split.mono _ _)
      | (with_reducible exact LeO.refl _)
      | (with_reducible exact LeO.none _)
      | (with_reducible refine LeO.ite ?_ ?_)
      | (with_reducible refine LeO.bind ?_ (fun _ => ?_))
      | exact ih0 _ _ _
      | exact ih1 _ _ _
      | exact kauditref04_Clean.mono _ _
      | exact kauditref04_Split.mono _ _
      | exact LeO.none _
      | refine LeO.ite ?_ ?_
      | refine LeO.bind ?_ (fun _ => ?_)
set_option maxHeartbeats 8000000 in
set_option maxRecDepth 100000 in
theorem kauditref04_Under.calls (k : Nat) (a0 : ByteArray) (a1 : ByteArray) (r : Bool) (w : World) (h : kauditref04_Under.f k a0 a1 = some r) :
    Calls Tryd.prog 23 #[.string a0, .string a1] w fun e w' => e = .returned (.bool r) ∧ Below w.heap.size w w' := by
  have HB := Aside0.mk (Below.refl w.heap.size w)
  have H : ((kauditref04_Clean.f k a0).bind fun t278 => (if t278 = true then ((kauditref04_Clean.f k a1).bind fun t279 => (kauditref04_Under.j0 k a0 a1 (!t279))) else (kauditref04_Under.j0 k a0 a1 true))) = some r := h
  clear h
  have HC3 := Aside0.mk H
  clear H
  go_enter Tryd.func23, Tryd.ntmps23
  go_upto_region 1 with (fail)
  repeat (go_quiet (fail); go_upto_region 1 with (fail))
  go_cut [19] (fun v19 wc => ∃ (kq : Nat) (x19_2 : Bool), v19 = .bool x19_2 ∧ Aside0 (kauditref04_Under.j0 kq a0 a1 x19_2 = some r) ∧ Aside0 (kq ≤ k) ∧ Aside0 (Below w.heap.size w wc))
  case first =>
    have H := HC3.out
    clear HC3
    replace H := Option.bind_eq_some_iff.mp H
    obtain ⟨t278, A40, H⟩ := H
    replace H : (if t278 = true then ((kauditref04_Clean.f k a1).bind fun t279 => (kauditref04_Under.j0 k a0 a1 (!t279))) else (kauditref04_Under.j0 k a0 a1 true)) = some r := H
    have A4 := Aside0.mk A40
    clear A40
    by_cases c5 : t278 = true
    · subst c5
      have H1 : ((kauditref04_Clean.f k a1).bind fun t279 => (kauditref04_Under.j0 k a0 a1 (!t279))) = some r := by rw [if_pos rfl] at H; exact H
      clear H
      have H := H1
      clear H1
      replace H := Option.bind_eq_some_iff.mp H
      obtain ⟨t279, A60, H⟩ := H
      replace H : (kauditref04_Under.j0 k a0 a1 (!t279)) = some r := H
      have A6 := Aside0.mk A60
      clear A60
      have H' := Aside0.mk H
      clear H
      go_wp2_with (first | (go_at_call 35; (with_reducible refine (kauditref04_Clean.calls k a0 true _ A4.out).mono ?_); rintro e w7 ⟨rfl, hb⟩; have n0_ := Aside0.mk (below_step (by repeat (first | (with_reducible first | exact HB.out | apply below_alloc | apply pw_below_drewN | apply below_drew1) | exact HB.out)) hb); clear HB; have HB := n0_; clear n0_; (try clear hb); (try clear hb2); (try clear hk); (try clear hi)) | (go_at_call 35; (with_reducible refine (kauditref04_Clean.calls k a1 t279 _ A6.out).mono ?_); rintro e w8 ⟨rfl, hb⟩; have n0_ := Aside0.mk (below_step (by repeat (first | (with_reducible first | exact HB.out | apply below_alloc | apply pw_below_drewN | apply below_drew1) | exact HB.out)) hb); clear HB; have HB := n0_; clear n0_; (try clear hb); (try clear hb2); (try clear hk); (try clear hi)))
      repeat (go_quiet (first | (go_at_call 35; (with_reducible refine (kauditref04_Clean.calls k a0 true _ A4.out).mono ?_); rintro e w7 ⟨rfl, hb⟩; have n0_ := Aside0.mk (below_step (by repeat (first | (with_reducible first | exact HB.out | apply below_alloc | apply pw_below_drewN | apply below_drew1) | exact HB.out)) hb); clear HB; have HB := n0_; clear n0_; (try clear hb); (try clear hb2); (try clear hk); (try clear hi)) | (go_at_call 35; (with_reducible refine (kauditref04_Clean.calls k a1 t279 _ A6.out).mono ?_); rintro e w8 ⟨rfl, hb⟩; have n0_ := Aside0.mk (below_step (by repeat (first | (with_reducible first | exact HB.out | apply below_alloc | apply pw_below_drewN | apply below_drew1) | exact HB.out)) hb); clear HB; have HB := n0_; clear n0_; (try clear hb); (try clear hb2); (try clear hk); (try clear hi))); try go_wp2_with (first | (go_at_call 35; (with_reducible refine (kauditref04_Clean.calls k a0 true _ A4.out).mono ?_); rintro e w7 ⟨rfl, hb⟩; have n0_ := Aside0.mk (below_step (by repeat (first | (with_reducible first | exact HB.out | apply below_alloc | apply pw_below_drewN | apply below_drew1) | exact HB.out)) hb); clear HB; have HB := n0_; clear n0_; (try clear hb); (try clear hb2); (try clear hk); (try clear hi)) | (go_at_call 35; (with_reducible refine (kauditref04_Clean.calls k a1 t279 _ A6.out).mono ?_); rintro e w8 ⟨rfl, hb⟩; have n0_ := Aside0.mk (below_step (by repeat (first | (with_reducible first | exact HB.out | apply below_alloc | apply pw_below_drewN | apply below_drew1) | exact HB.out)) hb); clear HB; have HB := n0_; clear n0_; (try clear hb); (try clear hb2); (try clear hk); (try clear hi))))
      go_meet
      case rel => exact ⟨_, (!t279), (by first | rfl | (simp; done) | (simp [*]; done)), H', ⟨by first | omega | exact Nat.le_refl _⟩, ⟨by repeat (first | (with_reducible first | exact HB.out | apply below_alloc | apply pw_below_drewN | apply below_drew1) | exact HB.out)⟩⟩
    · replace c5 := Bool.eq_false_iff.mpr c5
      subst c5
      have H1 : (kauditref04_Under.j0 k a0 a1 true) = some r := by rw [if_neg (show ¬ (false = true) by decide)] at H; exact H
      clear H
      have H := H1
      clear H1
      have H' := Aside0.mk H
      clear H
      go_wp2_with (first | (go_at_call 35; (with_reducible refine (kauditref04_Clean.calls k a0 false _ A4.out).mono ?_); rintro e w9 ⟨rfl, hb⟩; have n0_ := Aside0.mk (below_step (by repeat (first | (with_reducible first | exact HB.out | apply below_alloc | apply pw_below_drewN | apply below_drew1) | exact HB.out)) hb); clear HB; have HB := n0_; clear n0_; (try clear hb); (try clear hb2); (try clear hk); (try clear hi)))
      repeat (go_quiet (first | (go_at_call 35; (with_reducible refine (kauditref04_Clean.calls k a0 false _ A4.out).mono ?_); rintro e w9 ⟨rfl, hb⟩; have n0_ := Aside0.mk (below_step (by repeat (first | (with_reducible first | exact HB.out | apply below_alloc | apply pw_below_drewN | apply below_drew1) | exact HB.out)) hb); clear HB; have HB := n0_; clear n0_; (try clear hb); (try clear hb2); (try clear hk); (try clear hi))); try go_wp2_with (first | (go_at_call 35; (with_reducible refine (kauditref04_Clean.calls k a0 false _ A4.out).mono ?_); rintro e w9 ⟨rfl, hb⟩; have n0_ := Aside0.mk (below_step (by repeat (first | (with_reducible first | exact HB.out | apply below_alloc | apply pw_below_drewN | apply below_drew1) | exact HB.out)) hb); clear HB; have HB := n0_; clear n0_; (try clear hb); (try clear hb2); (try clear hk); (try clear hi))))
      go_meet
      case rel => exact ⟨_, (true), (by first | rfl | (simp; done) | (simp [*]; done)), H', ⟨by first | omega | exact Nat.le_refl _⟩, ⟨by repeat (first | (with_reducible first | exact HB.out | apply below_alloc | apply pw_below_drewN | apply below_drew1) | exact HB.out)⟩⟩
  case rest =>
    clear HC3
    try clear c2
    try clear p2
    try clear c5
    obtain ⟨kq, x19_2, rfl, HA, HJ2, HB⟩ := hcut
    cases kq with
    | zero => exact absurd HA.out (by simp [kauditref04_Under.j0])
    | succ kj2 =>
      have H := HA.out
      clear HA
      simp only [kauditref04_Under.j0] at H
      by_cases c10 : x19_2 = true
      · subst c10
        have H1 : (some false) = some r := by rw [if_pos rfl] at H; exact H
        clear H
        have H := H1
        clear H1
        obtain rfl := Option.some.inj H
        go_wp2
        repeat (go_quiet (fail); try go_wp2)
        go_ret
        exact ⟨by first | rfl | (simp [errW_none, errW_some] <;> rfl) | (simp [*, errW_none, errW_some] <;> rfl), by repeat (first | (with_reducible first | exact HB.out | apply below_alloc | apply pw_below_drewN | apply below_drew1) | exact HB.out)⟩
      · replace c10 := Bool.eq_false_iff.mpr c10
        subst c10
        have H1 : ((kauditref04_Split.f kj2 a0).bind fun bt280 => ((kauditref04_Split.f kj2 a1).bind fun bt285 => (if (bt280.1.length : Int) > (bt285.1.length : Int) then (some false) else (kauditref04_Under.l0 kj2 bt280.1 bt285.1 0)))) = some r := by rw [if_neg (show ¬ (false = true) by decide)] at H; exact H
        clear H
        have H := H1
        clear H1
        replace H := Option.bind_eq_some_iff.mp H
        obtain ⟨⟨t280, t281, t282⟩, A110, H⟩ := H
        replace H : ((kauditref04_Split.f kj2 a1).bind fun bt285 => (if (t280.length : Int) > (bt285.1.length : Int) then (some false) else (kauditref04_Under.l0 kj2 t280 bt285.1 0))) = some r := H
        have A11 := Aside0.mk A110
        clear A110
        replace H := Option.bind_eq_some_iff.mp H
        obtain ⟨⟨t285, t286, t287⟩, A120, H⟩ := H
        replace H : (if (t280.length : Int) > (t285.length : Int) then (some false) else (kauditref04_Under.l0 kj2 t280 t285 0)) = some r := H
        have A12 := Aside0.mk A120
        clear A120
        by_cases c13 : (t280.length : Int) > (t285.length : Int)
        · rw [if_pos c13] at H
          have c13b0 : decide ((t285.length : Int) < (t280.length : Int)) = true := decide_eq_true c13
          have c13b1 : decide (t285.length < t280.length) = true := decide_eq_true (Int.ofNat_lt.mp c13)
          clear c13
          obtain rfl := Option.some.inj H
          go_wp2_with (first | (go_at_call 32; (with_reducible refine (kauditref04_Split.calls kj2 a0 t280 t281 t282 _ A11.out).mono ?_); rintro e w14 ⟨v283, rfl, ho0, hb⟩; have n0_ := Aside0.mk (Kd.R_lower ho0 (below_size (by repeat (first | (with_reducible first | exact HB.out | apply below_alloc | apply pw_below_drewN | apply below_drew1) | exact HB.out)))); have n1_ := Aside0.mk (below_step (by repeat (first | (with_reducible first | exact HB.out | apply below_alloc | apply pw_below_drewN | apply below_drew1) | exact HB.out)) hb); clear HB; have HO284 := n0_; have HB := n1_; clear n0_ n1_; (try clear hb); (try clear hb2); (try clear hk); (try clear hi); (try clear ho0)) | (go_at_call 32; (with_reducible refine (kauditref04_Split.calls kj2 a1 t285 t286 t287 _ A12.out).mono ?_); rintro e w15 ⟨v288, rfl, ho0, hb⟩; have n0_ := Aside0.mk (Kd.R_elder' (by (with_reducible repeat (first | apply Kd.R_alloc | apply Kd.R_drewN | apply Kd.R_drew)); exact HO284.out) (Kd.R_base ho0) hb); have n1_ := Aside0.mk (Kd.R_lower (Kd.R_new' ho0 (Kd.R_lt (by (with_reducible repeat (first | apply Kd.R_alloc | apply Kd.R_drewN | apply Kd.R_drew)); exact HO284.out))) (below_size (by repeat (first | (with_reducible first | exact HB.out | apply below_alloc | apply pw_below_drewN | apply below_drew1) | exact HB.out)))); have n2_ := Aside0.mk (below_step (by repeat (first | (with_reducible first | exact HB.out | apply below_alloc | apply pw_below_drewN | apply below_drew1) | exact HB.out)) hb); clear HO284; clear HB; have HO284 := n0_; have HO289 := n1_; have HB := n2_; clear n0_ n1_ n2_; (try clear hb); (try clear hb2); (try clear hk); (try clear hi); (try clear ho0); obtain ⟨Ao16, co16, eo16⟩ := Kd.R_slice HO284.out; subst eo16; obtain ⟨Ao17, co17, eo17⟩ := Kd.R_slice HO289.out; subst eo17))
          repeat (go_quiet (first | (go_at_call 32; (with_reducible refine (kauditref04_Split.calls kj2 a0 t280 t281 t282 _ A11.out).mono ?_); rintro e w14 ⟨v283, rfl, ho0, hb⟩; have n0_ := Aside0.mk (Kd.R_lower ho0 (below_size (by repeat (first | (with_reducible first | exact HB.out | apply below_alloc | apply pw_below_drewN | apply below_drew1) | exact HB.out)))); have n1_ := Aside0.mk (below_step (by repeat (first | (with_reducible first | exact HB.out | apply below_alloc | apply pw_below_drewN | apply below_drew1) | exact HB.out)) hb); clear HB; have HO284 := n0_; have HB := n1_; clear n0_ n1_; (try clear hb); (try clear hb2); (try clear hk); (try clear hi); (try clear ho0)) | (go_at_call 32; (with_reducible refine (kauditref04_Split.calls kj2 a1 t285 t286 t287 _ A12.out).mono ?_); rintro e w15 ⟨v288, rfl, ho0, hb⟩; have n0_ := Aside0.mk (Kd.R_elder' (by (with_reducible repeat (first | apply Kd.R_alloc | apply Kd.R_drewN | apply Kd.R_drew)); exact HO284.out) (Kd.R_base ho0) hb); have n1_ := Aside0.mk (Kd.R_lower (Kd.R_new' ho0 (Kd.R_lt (by (with_reducible repeat (first | apply Kd.R_alloc | apply Kd.R_drewN | apply Kd.R_drew)); exact HO284.out))) (below_size (by repeat (first | (with_reducible first | exact HB.out | apply below_alloc | apply pw_below_drewN | apply below_drew1) | exact HB.out)))); have n2_ := Aside0.mk (below_step (by repeat (first | (with_reducible first | exact HB.out | apply below_alloc | apply pw_below_drewN | apply below_drew1) | exact HB.out)) hb); clear HO284; clear HB; have HO284 := n0_; have HO289 := n1_; have HB := n2_; clear n0_ n1_ n2_; (try clear hb); (try clear hb2); (try clear hk); (try clear hi); (try clear ho0); obtain ⟨Ao16, co16, eo16⟩ := Kd.R_slice HO284.out; subst eo16; obtain ⟨Ao17, co17, eo17⟩ := Kd.R_slice HO289.out; subst eo17)); try go_wp2_with (first | (go_at_call 32; (with_reducible refine (kauditref04_Split.calls kj2 a0 t280 t281 t282 _ A11.out).mono ?_); rintro e w14 ⟨v283, rfl, ho0, hb⟩; have n0_ := Aside0.mk (Kd.R_lower ho0 (below_size (by repeat (first | (with_reducible first | exact HB.out | apply below_alloc | apply pw_below_drewN | apply below_drew1) | exact HB.out)))); have n1_ := Aside0.mk (below_step (by repeat (first | (with_reducible first | exact HB.out | apply below_alloc | apply pw_below_drewN | apply below_drew1) | exact HB.out)) hb); clear HB; have HO284 := n0_; have HB := n1_; clear n0_ n1_; (try clear hb); (try clear hb2); (try clear hk); (try clear hi); (try clear ho0)) | (go_at_call 32; (with_reducible refine (kauditref04_Split.calls kj2 a1 t285 t286 t287 _ A12.out).mono ?_); rintro e w15 ⟨v288, rfl, ho0, hb⟩; have n0_ := Aside0.mk (Kd.R_elder' (by (with_reducible repeat (first | apply Kd.R_alloc | apply Kd.R_drewN | apply Kd.R_drew)); exact HO284.out) (Kd.R_base ho0) hb); have n1_ := Aside0.mk (Kd.R_lower (Kd.R_new' ho0 (Kd.R_lt (by (with_reducible repeat (first | apply Kd.R_alloc | apply Kd.R_drewN | apply Kd.R_drew)); exact HO284.out))) (below_size (by repeat (first | (with_reducible first | exact HB.out | apply below_alloc | apply pw_below_drewN | apply below_drew1) | exact HB.out)))); have n2_ := Aside0.mk (below_step (by repeat (first | (with_reducible first | exact HB.out | apply below_alloc | apply pw_below_drewN | apply below_drew1) | exact HB.out)) hb); clear HO284; clear HB; have HO284 := n0_; have HO289 := n1_; have HB := n2_; clear n0_ n1_ n2_; (try clear hb); (try clear hb2); (try clear hk); (try clear hi); (try clear ho0); obtain ⟨Ao16, co16, eo16⟩ := Kd.R_slice HO284.out; subst eo16; obtain ⟨Ao17, co17, eo17⟩ := Kd.R_slice HO289.out; subst eo17)))
          go_ret
          exact ⟨by first | rfl | (simp [errW_none, errW_some] <;> rfl) | (simp [*, errW_none, errW_some] <;> rfl), by repeat (first | (with_reducible first | exact HB.out | apply below_alloc | apply pw_below_drewN | apply below_drew1) | exact HB.out)⟩
        · rw [if_neg c13] at H
          have c13b0 : decide ((t285.length : Int) < (t280.length : Int)) = false := decide_eq_false c13
          have c13b1 : decide (t285.length < t280.length) = false := decide_eq_false (fun h => c13 (Int.ofNat_lt.mpr h))
          clear c13
          have H' := Aside0.mk H
          clear H
          go_wp2_with (first | (go_at_call 32; (with_reducible refine (kauditref04_Split.calls kj2 a0 t280 t281 t282 _ A11.out).mono ?_); rintro e w18 ⟨v283, rfl, ho0, hb⟩; have n0_ := Aside0.mk (Kd.R_lower ho0 (below_size (by repeat (first | (with_reducible first | exact HB.out | apply below_alloc | apply pw_below_drewN | apply below_drew1) | exact HB.out)))); have n1_ := Aside0.mk (below_step (by repeat (first | (with_reducible first | exact HB.out | apply below_alloc | apply pw_below_drewN | apply below_drew1) | exact HB.out)) hb); clear HB; have HO284 := n0_; have HB := n1_; clear n0_ n1_; (try clear hb); (try clear hb2); (try clear hk); (try clear hi); (try clear ho0)) | (go_at_call 32; (with_reducible refine (kauditref04_Split.calls kj2 a1 t285 t286 t287 _ A12.out).mono ?_); rintro e w19 ⟨v288, rfl, ho0, hb⟩; have n0_ := Aside0.mk (Kd.R_elder' (by (with_reducible repeat (first | apply Kd.R_alloc | apply Kd.R_drewN | apply Kd.R_drew)); exact HO284.out) (Kd.R_base ho0) hb); have n1_ := Aside0.mk (Kd.R_lower (Kd.R_new' ho0 (Kd.R_lt (by (with_reducible repeat (first | apply Kd.R_alloc | apply Kd.R_drewN | apply Kd.R_drew)); exact HO284.out))) (below_size (by repeat (first | (with_reducible first | exact HB.out | apply below_alloc | apply pw_below_drewN | apply below_drew1) | exact HB.out)))); have n2_ := Aside0.mk (below_step (by repeat (first | (with_reducible first | exact HB.out | apply below_alloc | apply pw_below_drewN | apply below_drew1) | exact HB.out)) hb); clear HO284; clear HB; have HO284 := n0_; have HO289 := n1_; have HB := n2_; clear n0_ n1_ n2_; (try clear hb); (try clear hb2); (try clear hk); (try clear hi); (try clear ho0); obtain ⟨Ao20, co20, eo20⟩ := Kd.R_slice HO284.out; subst eo20; obtain ⟨Ao21, co21, eo21⟩ := Kd.R_slice HO289.out; subst eo21))
          repeat (go_quiet (first | (go_at_call 32; (with_reducible refine (kauditref04_Split.calls kj2 a0 t280 t281 t282 _ A11.out).mono ?_); rintro e w18 ⟨v283, rfl, ho0, hb⟩; have n0_ := Aside0.mk (Kd.R_lower ho0 (below_size (by repeat (first | (with_reducible first | exact HB.out | apply below_alloc | apply pw_below_drewN | apply below_drew1) | exact HB.out)))); have n1_ := Aside0.mk (below_step (by repeat (first | (with_reducible first | exact HB.out | apply below_alloc | apply pw_below_drewN | apply below_drew1) | exact HB.out)) hb); clear HB; have HO284 := n0_; have HB := n1_; clear n0_ n1_; (try clear hb); (try clear hb2); (try clear hk); (try clear hi); (try clear ho0)) | (go_at_call 32; (with_reducible refine (kauditref04_Split.calls kj2 a1 t285 t286 t287 _ A12.out).mono ?_); rintro e w19 ⟨v288, rfl, ho0, hb⟩; have n0_ := Aside0.mk (Kd.R_elder' (by (with_reducible repeat (first | apply Kd.R_alloc | apply Kd.R_drewN | apply Kd.R_drew)); exact HO284.out) (Kd.R_base ho0) hb); have n1_ := Aside0.mk (Kd.R_lower (Kd.R_new' ho0 (Kd.R_lt (by (with_reducible repeat (first | apply Kd.R_alloc | apply Kd.R_drewN | apply Kd.R_drew)); exact HO284.out))) (below_size (by repeat (first | (with_reducible first | exact HB.out | apply below_alloc | apply pw_below_drewN | apply below_drew1) | exact HB.out)))); have n2_ := Aside0.mk (below_step (by repeat (first | (with_reducible first | exact HB.out | apply below_alloc | apply pw_below_drewN | apply below_drew1) | exact HB.out)) hb); clear HO284; clear HB; have HO284 := n0_; have HO289 := n1_; have HB := n2_; clear n0_ n1_ n2_; (try clear hb); (try clear hb2); (try clear hk); (try clear hi); (try clear ho0); obtain ⟨Ao20, co20, eo20⟩ := Kd.R_slice HO284.out; subst eo20; obtain ⟨Ao21, co21, eo21⟩ := Kd.R_slice HO289.out; subst eo21)); try go_wp2_with (first | (go_at_call 32; (with_reducible refine (kauditref04_Split.calls kj2 a0 t280 t281 t282 _ A11.out).mono ?_); rintro e w18 ⟨v283, rfl, ho0, hb⟩; have n0_ := Aside0.mk (Kd.R_lower ho0 (below_size (by repeat (first | (with_reducible first | exact HB.out | apply below_alloc | apply pw_below_drewN | apply below_drew1) | exact HB.out)))); have n1_ := Aside0.mk (below_step (by repeat (first | (with_reducible first | exact HB.out | apply below_alloc | apply pw_below_drewN | apply below_drew1) | exact HB.out)) hb); clear HB; have HO284 := n0_; have HB := n1_; clear n0_ n1_; (try clear hb); (try clear hb2); (try clear hk); (try clear hi); (try clear ho0)) | (go_at_call 32; (with_reducible refine (kauditref04_Split.calls kj2 a1 t285 t286 t287 _ A12.out).mono ?_); rintro e w19 ⟨v288, rfl, ho0, hb⟩; have n0_ := Aside0.mk (Kd.R_elder' (by (with_reducible repeat (first | apply Kd.R_alloc | apply Kd.R_drewN | apply Kd.R_drew)); exact HO284.out) (Kd.R_base ho0) hb); have n1_ := Aside0.mk (Kd.R_lower (Kd.R_new' ho0 (Kd.R_lt (by (with_reducible repeat (first | apply Kd.R_alloc | apply Kd.R_drewN | apply Kd.R_drew)); exact HO284.out))) (below_size (by repeat (first | (with_reducible first | exact HB.out | apply below_alloc | apply pw_below_drewN | apply below_drew1) | exact HB.out)))); have n2_ := Aside0.mk (below_step (by repeat (first | (with_reducible first | exact HB.out | apply below_alloc | apply pw_below_drewN | apply below_drew1) | exact HB.out)) hb); clear HO284; clear HB; have HO284 := n0_; have HO289 := n1_; have HB := n2_; clear n0_ n1_ n2_; (try clear hb); (try clear hb2); (try clear hk); (try clear hi); (try clear ho0); obtain ⟨Ao20, co20, eo20⟩ := Kd.R_slice HO284.out; subst eo20; obtain ⟨Ao21, co21, eo21⟩ := Kd.R_slice HO289.out; subst eo21)))
          (first | go_loopg [11] kj2 (fun kq v11 w' => ∃ (x11_2 : Int), v11 = .int .i64 x11_2 ∧ Aside0 (kauditref04_Under.l0 kq t280 t285 x11_2 = some r) ∧ Aside0 (kq ≤ kj2) ∧ Aside0 (Kd.R Kd.string 9 w' w.heap.size (fun k_ => some k_ ≠ ((.slice Ao21 t285.length co21) : Value).ownBlock) (.slice Ao20 t280.length co20) t280) ∧ Aside0 (Kd.R Kd.string 9 w' w.heap.size (fun k_ => some k_ ≠ ((.slice Ao20 t280.length co20) : Value).ownBlock) (.slice Ao21 t285.length co21) t285) ∧ Aside0 (Below w.heap.size w w')) | (go_simp; go_loopg [11] kj2 (fun kq v11 w' => ∃ (x11_2 : Int), v11 = .int .i64 x11_2 ∧ Aside0 (kauditref04_Under.l0 kq t280 t285 x11_2 = some r) ∧ Aside0 (kq ≤ kj2) ∧ Aside0 (Kd.R Kd.string 9 w' w.heap.size (fun k_ => some k_ ≠ ((.slice Ao21 t285.length co21) : Value).ownBlock) (.slice Ao20 t280.length co20) t280) ∧ Aside0 (Kd.R Kd.string 9 w' w.heap.size (fun k_ => some k_ ≠ ((.slice Ao20 t280.length co20) : Value).ownBlock) (.slice Ao21 t285.length co21) t285) ∧ Aside0 (Below w.heap.size w w'))))
          case atStart => exact ⟨(0), (by first | rfl | (simp; done) | (simp [*]; done)), H', ⟨Nat.le_refl _⟩, ⟨by (with_reducible repeat (first | apply Kd.R_alloc | apply Kd.R_drewN | apply Kd.R_drew)); exact Kd.R_mono HO284.out (fun _ hk => hk.2)⟩, ⟨by (with_reducible repeat (first | apply Kd.R_alloc | apply Kd.R_drewN | apply Kd.R_drew)); exact Kd.R_mono HO289.out (fun _ hk => hk.2)⟩, ⟨by repeat (first | (with_reducible first | exact HB.out | apply below_alloc | apply pw_below_drewN | apply below_drew1) | exact HB.out)⟩⟩
          case round =>
            clear H'
            try clear c1
            try clear c2
            try clear p2
            try clear c5
            try clear c10
            try clear c13
            try clear c13b0
            try clear c13b1
            try clear p2
            obtain ⟨x11_2, rfl, HA, HK2, HO_5, HO_8, HB⟩ := hrel
            cases gk with
            | zero => exact absurd HA.out (by simp [kauditref04_Under.l0])
            | succ k2 =>
              have H := HA.out
              clear HA
              simp only [kauditref04_Under.l0] at H
              by_cases c22 : x11_2 < (t280.length : Int)
              · rw [if_pos c22] at H
                have c22b0 : decide (x11_2 < (t280.length : Int)) = true := decide_eq_true c22
                clear c22
                by_cases c23 : 0 ≤ x11_2
                · rw [if_pos c23] at H
                  have c23b0 : decide (0 ≤ x11_2) = true := decide_eq_true c23
                  clear c23
                  by_cases c24 : x11_2 < (t285.length : Int)
                  · rw [if_pos c24] at H
                    have c24b0 : decide (x11_2 < (t285.length : Int)) = true := decide_eq_true c24
                    clear c24
                    by_cases c25 : (rdOf ByteArray.empty t280 x11_2).toList = (rdOf ByteArray.empty t285 x11_2).toList
                    · rw [if_pos c25] at H
                      have c25b0 : ((rdOf ByteArray.empty t280 x11_2).toList == (rdOf ByteArray.empty t285 x11_2).toList) = true := beq_iff_eq.mpr c25
                      have c25b1 : ((rdOf ByteArray.empty t280 x11_2).toList != (rdOf ByteArray.empty t285 x11_2).toList) = false := bne_eq_false_iff_eq.mpr c25
                      clear c25
                      have H' := Aside0.mk H
                      clear H
                      have p290 : 0 ≤ (x11_2 : Int) := of_decide_eq_true (by first | (with_reducible assumption) | assumption)
                      have q290 : x11_2 < (t280.length : Int) := of_decide_eq_true (by first | (with_reducible assumption) | assumption)
                      obtain ⟨ad290, e290, hx290_0⟩ := Kd.at_string (Kd.R_reads' HO_5.out).2.2 x11_2 p290 q290
                      cases e290
                      replace p290 := eq_true p290
                      replace q290 := eq_true q290
                      have p291 : 0 ≤ (x11_2 : Int) := of_decide_eq_true (by first | (with_reducible assumption) | assumption)
                      have q291 : x11_2 < (t285.length : Int) := of_decide_eq_true (by first | (with_reducible assumption) | assumption)
                      obtain ⟨ad291, e291, hx291_0⟩ := Kd.at_string (Kd.R_reads' HO_8.out).2.2 x11_2 p291 q291
                      cases e291
                      replace p291 := eq_true p291
                      replace q291 := eq_true q291
                      go_wp2
                      repeat (go_quiet (fail); try go_wp2)
                      go_roundg k2
                      case measure => have := HJ2.out; have := HK2.out; omega
                      case rel => exact ⟨(wrap64 (x11_2 + 1)), (by first | rfl | (simp; done) | (simp [*]; done)), H', ⟨by have := HJ2.out; have := HK2.out; omega⟩, ⟨by (with_reducible repeat (first | apply Kd.R_alloc | apply Kd.R_drewN | apply Kd.R_drew)); exact HO_5.out⟩, ⟨by (with_reducible repeat (first | apply Kd.R_alloc | apply Kd.R_drewN | apply Kd.R_drew)); exact HO_8.out⟩, ⟨by repeat (first | (with_reducible first | exact HB.out | apply below_alloc | apply pw_below_drewN | apply below_drew1) | exact HB.out)⟩⟩
                    · rw [if_neg c25] at H
                      have c25b0 : ((rdOf ByteArray.empty t280 x11_2).toList == (rdOf ByteArray.empty t285 x11_2).toList) = false := beq_eq_false_iff_ne.mpr c25
                      have c25b1 : ((rdOf ByteArray.empty t280 x11_2).toList != (rdOf ByteArray.empty t285 x11_2).toList) = true := bne_iff_ne.mpr c25
                      obtain rfl := Option.some.inj H
                      have p290 : 0 ≤ (x11_2 : Int) := of_decide_eq_true (by first | (with_reducible assumption) | assumption)
                      have q290 : x11_2 < (t280.length : Int) := of_decide_eq_true (by first | (with_reducible assumption) | assumption)
                      obtain ⟨ad290, e290, hx290_0⟩ := Kd.at_string (Kd.R_reads' HO_5.out).2.2 x11_2 p290 q290
                      cases e290
                      replace p290 := eq_true p290
                      replace q290 := eq_true q290
                      have p291 : 0 ≤ (x11_2 : Int) := of_decide_eq_true (by first | (with_reducible assumption) | assumption)
                      have q291 : x11_2 < (t285.length : Int) := of_decide_eq_true (by first | (with_reducible assumption) | assumption)
                      obtain ⟨ad291, e291, hx291_0⟩ := Kd.at_string (Kd.R_reads' HO_8.out).2.2 x11_2 p291 q291
                      cases e291
                      replace p291 := eq_true p291
                      replace q291 := eq_true q291
                      go_wp2
                      repeat (go_quiet (fail); try go_wp2)
                      go_ret
                      exact ⟨by first | rfl | (simp [errW_none, errW_some] <;> rfl) | (simp [*, errW_none, errW_some] <;> rfl), by repeat (first | (with_reducible first | exact HB.out | apply below_alloc | apply pw_below_drewN | apply below_drew1) | exact HB.out)⟩
                  · rw [if_neg c24] at H
                    exact absurd H (by simp)
                · rw [if_neg c23] at H
                  exact absurd H (by simp)
              · rw [if_neg c22] at H
                have c22b0 : decide (x11_2 < (t280.length : Int)) = false := decide_eq_false c22
                clear c22
                obtain rfl := Option.some.inj H
                go_wp2
                repeat (go_quiet (fail); try go_wp2)
                go_ret
                exact ⟨by first | rfl | (simp [errW_none, errW_some] <;> rfl) | (simp [*, errW_none, errW_some] <;> rfl), by repeat (first | (with_reducible first | exact HB.out | apply below_alloc | apply pw_below_drewN | apply below_drew1) | exact HB.out)⟩

end Go.Proofs.YtnjabpgbpgocnaaDoor.PAll

-- PureG
/- The reference's Under and the maker of names, in plain words. Condition: texts of at most 100000 bytes. -/
namespace Go.Proofs.YtnjabpgbpgocnaaDoor.PAll
open Go Go.RowKit Go.Proofs.YtnjabpgbpgocnaaDoorW.PrintWords Go.Proofs.YtnjabpgbpgocnaaDoorW.PrintLast Go.Proofs.YtnjabpgbpgocnaaDoorW.PrintMore
set_option linter.unusedVariables false
set_option linter.unusedSimpArgs false

theorem ofL_inj {p q : List UInt8} (h : (ofL p).toList = (ofL q).toList) : p = q := by
  rw [Lib.toList_data, Lib.toList_data, ofL_list, ofL_list] at h
  exact h

theorem refUnder_round (xs ys : List ByteArray) (i k : Nat) (hi : i < xs.length) (hle : xs.length ≤ ys.length) (hi2 : i ≤ 1000000) :
    kauditref04_Under.l0 (k + 1) xs ys (i : Int) = if (rdOf ByteArray.empty xs (i : Int)).toList = (rdOf ByteArray.empty ys (i : Int)).toList then kauditref04_Under.l0 k xs ys ((i + 1 : Nat) : Int) else some false := by
  have e2 : wrap64 ((i : Int) + 1) = ((i + 1 : Nat) : Int) := by unfold wrap64; omega
  rw [kauditref04_Under.l0, if_pos (by omega), if_pos (by omega), if_pos (by omega), e2]

theorem refUnder_loop (ps qs : List (List UInt8)) (hle : ps.length ≤ qs.length) (hz : ps.length ≤ 1000000) : ∀ (d i k : Nat), i + d = ps.length → d + 1 ≤ k →
    kauditref04_Under.l0 k (ps.map ofL) (qs.map ofL) (i : Int) = some ((ps.drop i).isPrefixOf (qs.drop i)) := by
  have hp : (ps.map ofL).length = ps.length := List.length_map _
  have hq : (qs.map ofL).length = qs.length := List.length_map _
  intro d
  induction d with
  | zero =>
    intro i k hi hk
    obtain ⟨k, rfl⟩ : ∃ j, k = j + 1 := ⟨k - 1, by omega⟩
    rw [kauditref04_Under.l0, if_neg (by omega), List.drop_eq_nil_of_le (by omega)]
    rfl
  | succ d ih =>
    intro i k hi hk
    obtain ⟨k, rfl⟩ : ∃ j, k = j + 1 := ⟨k - 1, by omega⟩
    have hlt : i < ps.length := by omega
    have hlq : i < qs.length := by omega
    rw [refUnder_round _ _ i k (by omega) (by omega) (by omega), rdOf_map ps i hlt, rdOf_map qs i hlq, List.drop_eq_getElem_cons hlt, List.drop_eq_getElem_cons hlq, List.isPrefixOf_cons_cons]
    by_cases e : ps[i]'hlt = qs[i]'hlq
    · rw [if_pos (by rw [e]), ih (i + 1) k (by omega) (by omega), show (ps[i]'hlt == qs[i]'hlq) = true by simpa using e, Bool.true_and]
    · rw [if_neg (fun h => e (ofL_inj h)), show (ps[i]'hlt == qs[i]'hlq) = false by simpa using e, Bool.false_and]

theorem refUnder_eq (a b : ByteArray) (k : Nat) (ha : a.size ≤ 100000) (hb : b.size ≤ 100000) (hka : 2 * a.size + 30 ≤ k) (hkb : 2 * b.size + 30 ≤ k) :
    kauditref04_Under.f k a b = some (underL a.data.toList b.data.toList) := by
  obtain ⟨j, hj⟩ : ∃ j, k = j + 1 := ⟨k - 1, by omega⟩
  have la := piecesOf_length a
  have lb := piecesOf_length b
  unfold kauditref04_Under.f
  rw [refClean_eq a k ha (by omega), Option.bind_some, underL]
  by_cases hca : cleanL a.data.toList = true
  · rw [if_pos hca, refClean_eq b k hb (by omega), Option.bind_some, hca, Bool.true_and, hj, kauditref04_Under.j0]
    by_cases hcb : cleanL b.data.toList = true
    · rw [hcb, Bool.true_and, if_neg (by simp), refSplit_eq a j ha (by omega), Option.bind_some, refSplit_eq b j hb (by omega), Option.bind_some]
      dsimp only
      rw [piecesOf, List.length_map] at la lb
      by_cases hl : (piecesL [] a.data.toList).length ≤ (piecesL [] b.data.toList).length
      · have h := refUnder_loop (piecesL [] a.data.toList) (piecesL [] b.data.toList) hl (by omega) (piecesL [] a.data.toList).length 0 j (by omega) (by omega)
        rw [List.drop_zero, List.drop_zero] at h
        rw [if_neg (by rw [piecesOf_map, piecesOf_map, List.length_map, List.length_map]; omega)]
        exact h
      · rw [if_pos (by rw [piecesOf_map, piecesOf_map, List.length_map, List.length_map]; omega)]
        refine congrArg some ?_
        symm
        rw [Bool.eq_false_iff, ne_eq, List.isPrefixOf_iff_prefix]
        intro hp
        exact hl hp.length_le
    · rw [Bool.eq_false_iff.2 hcb, Bool.false_and]
      rfl
  · rw [if_neg hca, Bool.eq_false_iff.2 hca, Bool.false_and, Bool.false_and, hj, kauditref04_Under.j0, if_pos rfl]

/-- The names that the maker tells. -/
def makerNames : List ByteArray := [⟨#[]⟩, ⟨#[46]⟩, ⟨#[46, 46]⟩, ⟨#[97, 47, 98]⟩, ⟨#[97, 98, 99, 100, 101, 102, 103, 104, 105, 106, 107, 108]⟩, ⟨#[97, 98, 99, 100, 101, 102, 103, 104, 105, 106, 107, 108, 109]⟩, ⟨#[97, 0]⟩, ⟨#[126]⟩, ⟨#[97]⟩, ⟨#[98]⟩, ⟨#[99]⟩, ⟨#[100]⟩, ⟨#[108]⟩, ⟨#[109]⟩]

theorem makerName_eq (s : List Int) (i : Int) (hi : 0 ≤ i) (hi2 : i ≤ 999999000) : ∃ w, w ∈ makerNames ∧ kauditmake_Src_Name.f s i = some (w, i + 2) := by
  obtain ⟨v, hv, h0, h1⟩ := N_eq s i 20 hi (by omega) (by omega) (by omega)
  unfold kauditmake_Src_Name.f
  rw [hv, Option.bind_some]
  dsimp only
  by_cases h : v = 19
  · obtain ⟨w, hw, he⟩ := Word_eq s (i + 1) [⟨#[]⟩, ⟨#[46]⟩, ⟨#[46, 46]⟩, ⟨#[97, 47, 98]⟩, ⟨#[97, 98, 99, 100, 101, 102, 103, 104, 105, 106, 107, 108]⟩, ⟨#[97, 98, 99, 100, 101, 102, 103, 104, 105, 106, 107, 108, 109]⟩, ⟨#[97, 0]⟩, ⟨#[126]⟩] (by omega) (by omega) (by simp) (by simp)
    refine ⟨w, ?_, ?_⟩
    · simp only [List.mem_cons, List.not_mem_nil, or_false] at hw
      rcases hw with rfl | rfl | rfl | rfl | rfl | rfl | rfl | rfl <;> simp [makerNames]
    · rw [if_pos h, he, Option.bind_some]
      refine congrArg some (Prod.ext rfl ?_)
      show i + 1 + 1 = i + 2
      omega
  · obtain ⟨w, hw, he⟩ := Word_eq s (i + 1) [⟨#[97]⟩, ⟨#[98]⟩, ⟨#[99]⟩, ⟨#[100]⟩, ⟨#[108]⟩, ⟨#[109]⟩] (by omega) (by omega) (by simp) (by simp)
    refine ⟨w, ?_, ?_⟩
    · simp only [List.mem_cons, List.not_mem_nil, or_false] at hw
      rcases hw with rfl | rfl | rfl | rfl | rfl | rfl <;> simp [makerNames]
    · rw [if_neg h, he, Option.bind_some]
      refine congrArg some (Prod.ext rfl ?_)
      show i + 1 + 1 = i + 2
      omega

theorem maker_small {w : ByteArray} (h : w ∈ makerNames) : w.size ≤ 13 := by
  simp only [makerNames, List.mem_cons, List.not_mem_nil, or_false] at h
  rcases h with rfl | rfl | rfl | rfl | rfl | rfl | rfl | rfl | rfl | rfl | rfl | rfl | rfl | rfl <;> decide

theorem maker_free {w : ByteArray} (h : w ∈ makerNames) (hne : w.data.toList ≠ [97, 47, 98]) : Free w.data.toList := by
  simp only [makerNames, List.mem_cons, List.not_mem_nil, or_false] at h
  rcases h with rfl | rfl | rfl | rfl | rfl | rfl | rfl | rfl | rfl | rfl | rfl | rfl | rfl | rfl
  case inr.inr.inr.inl => exact absurd rfl hne
  all_goals (intro b hb; revert b; decide)

end Go.Proofs.YtnjabpgbpgocnaaDoor.PAll

-- PurePathBack
/- PathBack: Join of what Parent returns is the path, and Parent of what Join makes is the path and the name: plain law. No condition. -/
namespace Go.Proofs.YtnjabpgbpgocnaaDoor.Pure
open Go Go.RowKit Go.Proofs.YtnjabpgbpgocnaaDoor.PAll Go.Proofs.YtnjabpgbpgocnaaDoorW.PrintWords Go.Proofs.YtnjabpgbpgocnaaDoorW.PrintLast
set_option linter.unusedVariables false
set_option linter.unusedSimpArgs false

/-- The path of a list of names: the root where there are none. -/
def pathOf (ps : List (List UInt8)) : List UInt8 := if ps = [] then [47] else joinP ps

theorem joinL_pathOf {ps : List (List UInt8)} (hn : ∀ p ∈ ps, nameL p = true) (n : List UInt8) : joinL (pathOf ps) n = joinP (ps ++ [n]) := by
  unfold pathOf
  by_cases h : ps = []
  · rw [if_pos h, h, List.nil_append, joinP_single, joinL, if_pos (by decide)]
    rfl
  · rw [if_neg h, joinL_clean hn h, joinP_append, joinP_single]

theorem clean_free {rs : List (List UInt8)} (h0 : rs ≠ []) (hf : ∀ p ∈ rs, Free p) : cleanL (joinP rs) = (joinP rs == [47] || rs.all nameL) := by
  have hs := split_join0 rs hf
  cases rs with
  | nil => exact absurd rfl h0
  | cons r rs =>
    rw [joinP_cons] at hs ⊢
    rw [split_slash] at hs
    rw [cleanL, List.head?_cons, List.tail_cons, (List.cons.inj hs).2]
    rfl

/-- Parent of the path of names and one thing more. -/
theorem parent_yes {ps : List (List UInt8)} {n : List UInt8} (hn : ∀ p ∈ ps, nameL p = true) (h : nameL n = true) : parentL (joinP (ps ++ [n])) = (pathOf ps, n, true) := by
  refine parentL_join (fun p hp => ?_)
  rcases List.mem_append.1 hp with hp | hp
  · exact hn p hp
  · rw [List.mem_singleton.1 hp]; exact h
theorem parent_no {ps : List (List UInt8)} {n : List UInt8} (hn : ∀ p ∈ ps, nameL p = true) (hf : Free n) (h : nameL n = false) : parentL (joinP (ps ++ [n])) = ([], [], false) := by
  refine parentL_no (fun hc => ?_)
  rw [clean_free (by simp) (fun p hp => by
    rcases List.mem_append.1 hp with hp | hp
    · exact nameL_free (hn p hp)
    · rw [List.mem_singleton.1 hp]; exact hf), List.all_append, Bool.or_eq_true, Bool.and_eq_true, beq_iff_eq] at hc
  rcases hc.1 with hc1 | hc1
  · exact hc.2 hc1
  · have := hc1.2
    simp [h] at this

theorem back_j2 (k : Nat) (ps : List (List UInt8)) (hn : ∀ p ∈ ps, nameL p = true) (hz : (pathOf ps).length ≤ 100) (n : ByteArray) (hnz : n.size ≤ 13) (hf : Free n.data.toList) (hk : 1000 ≤ k) :
    kauditlaw04_PathBack.j2 k (ofL (pathOf ps)) n false = some true := by
  obtain ⟨k, rfl⟩ : ∃ j, k = j + 1 := ⟨k - 1, by omega⟩
  have hpz : (ofL (pathOf ps)).size ≤ 100 := by rw [ofL_size]; exact hz
  have hjoin : joinL (ofL (pathOf ps)).data.toList n.data.toList = joinP (ps ++ [n.data.toList]) := by rw [ofL_list, joinL_pathOf hn]
  have hjz : (ofL (joinP (ps ++ [n.data.toList]))).size ≤ 200 := by
    have h1 : (joinL (pathOf ps) n.data.toList).length ≤ (pathOf ps).length + n.data.toList.length + 1 := by
      unfold joinL
      split <;> simp <;> omega
    rw [joinL_pathOf hn] at h1
    rw [ofL_size]
    rw [size_len] at hnz
    omega
  rw [kauditlaw04_PathBack.j2, if_neg (by simp), pathJoin_eq _ n (by omega) (by omega), Option.bind_some, hjoin, pathParent_eq _ k (by omega) (by omega), Option.bind_some, ofL_list, name_eq, Option.bind_some]
  cases h : nameL n.data.toList
  · rw [parent_no hn hf h]
    dsimp only
    rw [if_pos (by decide), if_neg (by simp), awake_eq k (by omega)]
    rfl
  · rw [parent_yes hn h]
    dsimp only
    rw [if_pos (by decide), if_pos rfl, if_pos rfl, if_pos (by rw [Lib.toList_data, Lib.toList_data, ofL_list]), awake_eq k (by omega)]
    rfl

theorem pathOf_ne {ps : List (List UInt8)} (hn : ∀ p ∈ ps, nameL p = true) (h0 : ps ≠ []) : pathOf ps ≠ [47] := by
  unfold pathOf
  rw [if_neg h0]
  exact joinP_ne_slash hn h0

theorem back_j1 (k : Nat) (ps : List (List UInt8)) (hn : ∀ p ∈ ps, nameL p = true) (hz : (pathOf ps).length ≤ 100) (n : ByteArray) (hnz : n.size ≤ 13) (hf : Free n.data.toList) (hk : 1001 ≤ k) :
    kauditlaw04_PathBack.j1 k (ofL (pathOf ps)) n = some true := by
  obtain ⟨k, rfl⟩ : ∃ j, k = j + 1 := ⟨k - 1, by omega⟩
  have hpz : (ofL (pathOf ps)).size ≤ 100 := by rw [ofL_size]; exact hz
  have hj2 := back_j2 k ps hn hz n hnz hf (by omega)
  rw [kauditlaw04_PathBack.j1, pathParent_eq _ k (by omega) (by omega), Option.bind_some, ofL_list, Lib.toList_data, ofL_list]
  by_cases h0 : ps = []
  · have hp : pathOf ps = [47] := by rw [h0]; rfl
    rw [hp] at hj2 ⊢
    rw [parentL_no (fun h => h.2 rfl)]
    dsimp only
    rw [if_neg (by decide), if_neg (by simp)]
    exact hj2
  · rcases List.eq_nil_or_concat ps with e | ⟨qs, m, e⟩
    · exact absurd e h0
    · rw [List.concat_eq_append] at e
      have hq : ∀ p ∈ qs, nameL p = true := fun p hp => hn p (by rw [e]; exact List.mem_append_left _ hp)
      have hm : nameL m = true := hn m (by rw [e]; simp)
      have hpar : parentL (pathOf ps) = (pathOf qs, m, true) := by
        rw [show pathOf ps = joinP (qs ++ [m]) by unfold pathOf; rw [if_neg h0, e]]
        exact parent_yes hq hm
      have hne : (pathOf ps != [47]) = true := by simpa using pathOf_ne hn h0
      have hback : joinL (pathOf qs) m = pathOf ps := by
        rw [joinL_pathOf hq]
        unfold pathOf
        rw [if_neg h0, e]
      have hlen : (pathOf qs).length ≤ (pathOf ps).length := by
        rw [← hback]
        unfold joinL
        split <;> simp
      have hml := nameL_len hm
      rw [hpar]
      dsimp only
      rw [hne, if_neg (by decide), if_pos rfl, pathJoin_eq _ _ (by rw [ofL_size]; omega) (by rw [ofL_size]; omega), Option.bind_some, ofL_list, ofL_list, hback]
      rw [show ((ofL (pathOf ps)).toList != pathOf ps) = false by rw [Lib.toList_data, ofL_list]; simp]
      exact hj2

theorem back_j0 (k : Nat) (l : List Int) (i : Int) (hi : 0 ≤ i) (hi2 : i ≤ 1000) (ps : List (List UInt8)) (h0 : ps ≠ []) (hn : ∀ p ∈ ps, nameL p = true) (hz : (pathOf ps).length ≤ 100) (n : ByteArray) (hnz : n.size ≤ 13) (hf : Free n.data.toList) (hk : 1002 ≤ k) :
    kauditlaw04_PathBack.j0 k (ofL (joinP ps)) n l i = some true := by
  obtain ⟨k, rfl⟩ : ∃ j, k = j + 1 := ⟨k - 1, by omega⟩
  obtain ⟨v, hv, _, _⟩ := N_eq l i 6 hi (by omega) (by omega) (by omega)
  rw [kauditlaw04_PathBack.j0, hv, Option.bind_some]
  dsimp only
  by_cases h : v = 0
  · rw [if_pos h]
    exact back_j1 k [] (fun _ h => by cases h) (by decide) n hnz hf (by omega)
  · rw [if_neg h]
    have := back_j1 k ps hn hz n hnz hf (by omega)
    rwa [show pathOf ps = joinP ps by unfold pathOf; rw [if_neg h0]] at this

theorem PathBack : kauditlaw04_PathBack.Pure := by
  intro l0 hl _ _
  refine ⟨2000, ?_⟩
  obtain ⟨ps, i1, hp0, hp3, hps, hi1, hi1', e1⟩ := srcClean_eq l0 0 2000 (by omega) (by omega) (by omega)
  obtain ⟨w, hw, e2⟩ := makerName_eq l0 i1 (by omega) (by omega)
  have hn : ∀ p ∈ ps, nameL p = true := fun p hp => (hps p hp).1
  have hz : (pathOf ps).length ≤ 100 := by
    have := joinP_length (ps := ps) (m := 1) (fun p hp => Nat.le_of_eq (hps p hp).2)
    unfold pathOf
    rw [if_neg hp0]
    omega
  unfold kauditlaw04_PathBack.f kauditmake_New.f
  rw [Option.bind_some]
  dsimp only
  rw [e1, Option.bind_some]
  dsimp only
  rw [e2, Option.bind_some]
  dsimp only
  rw [Lib.toList_data]
  by_cases h : w.data.toList = [97, 47, 98]
  · rw [if_pos h]
    exact back_j0 2000 l0 (i1 + 2) (by omega) (by omega) ps hp0 hn hz ⟨#[46, 46, 46]⟩ (by decide) (by intro b hb; revert b; decide) (by omega)
  · rw [if_neg h]
    exact back_j0 2000 l0 (i1 + 2) (by omega) (by omega) ps hp0 hn hz w (maker_small hw) (maker_free hw h) (by omega)

end Go.Proofs.YtnjabpgbpgocnaaDoor.Pure
