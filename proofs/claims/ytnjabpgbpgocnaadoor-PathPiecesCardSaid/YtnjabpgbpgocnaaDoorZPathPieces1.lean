/- For PathPieces: contracts of the functions that it reaches and plain facts, joined out of 14 texts by a program (merge_claim.py): PAllx40, PAllx51, PureA, PAllx6, PAllx7, PAllx8, PAllx31, PAllx32, PureB, PureC, PAllx1, PAllx2, PAllx3, PAllx4. Each text's own conditions stand at its head below. -/
import Derived.Test.YtnjabpgbpgocnaaDoorZPathPieces0
import Derived.Lib.IndexBytes

-- PAllx40
namespace Go.Proofs.YtnjabpgbpgocnaaDoor.PAll
open Go.RowKit Go.Proofs.YtnjabpgbpgocnaaDoorW.PrintWords Go.Proofs.YtnjabpgbpgocnaaDoorW.PrintLast Go.Proofs.YtnjabpgbpgocnaaDoorW.PrintMore
attribute [local go_sem] max2_int min2_int max_two min_two max_three min_three max_four min_four   -- for this text's walks alone
set_option linter.unusedVariables false
set_option linter.unusedSimpArgs false

/-! ### kauditlaw04_awake: function 15 -/
def kauditlaw04_awake.f (k : Nat)  : Option (Bool) := (path_Split.f (⟨#[47, 47, 97, 47, 46, 46, 47, 98, 47]⟩ : ByteArray)).bind fun bt148 => ((path_Parent.f k (⟨#[47, 97]⟩ : ByteArray)).bind fun bt153 => (if (bt148.1.length : Int) = 3 then (if 1 < (bt148.1.length : Int) then (if (rdOf ByteArray.empty bt148.1 1).toList = ([46, 46] : List UInt8) then (if bt148.2.1 = true then (if bt148.2.2 = true then (if bt153.2.2 = true then (if bt153.1.toList = ([47] : List UInt8) then (if bt153.2.1.toList = ([97] : List UInt8) then ((path_Name.f (⟨#[97, 98, 99, 100, 101, 102, 103, 104, 105, 106, 107, 108]⟩ : ByteArray)).bind fun t157 => (if t157 = true then (some true) else (some false))) else (some false)) else (some false)) else (some false)) else (some false)) else (some false)) else (some false)) else (none)) else (some false)))
theorem kauditlaw04_awake.mono : ∀ k, LeO (kauditlaw04_awake.f k ) (kauditlaw04_awake.f (k + 1) ) := by
  intro  k
  unfold kauditlaw04_awake.f
  repeat' first
      | (with_reducible exact path_Parent.mono _ _)
      | (with_reducible exact LeO.refl _)
      | (with_reducible exact LeO.none _)
      | (with_reducible refine LeO.ite ?_ ?_)
      | (with_reducible refine LeO.bind ?_ (fun _ => ?_))
      | exact path_Parent.mono _ _
      | exact LeO.none _
      | refine LeO.ite ?_ ?_
      | refine LeO.bind ?_ (fun _ => ?_)
set_option maxHeartbeats 8000000 in
set_option maxRecDepth 100000 in
theorem kauditlaw04_awake.calls (k : Nat)  (r : Bool) (w : World) (h : kauditlaw04_awake.f k  = some r) :
    Calls Tryd.prog 15 #[] w fun e w' => e = .returned (.bool r) ∧ Below w.heap.size w w' := by
  have HB := Aside0.mk (Below.refl w.heap.size w)
  have H : ((path_Split.f (⟨#[47, 47, 97, 47, 46, 46, 47, 98, 47]⟩ : ByteArray)).bind fun bt148 => ((path_Parent.f k (⟨#[47, 97]⟩ : ByteArray)).bind fun bt153 => (if (bt148.1.length : Int) = 3 then (if 1 < (bt148.1.length : Int) then (if (rdOf ByteArray.empty bt148.1 1).toList = ([46, 46] : List UInt8) then (if bt148.2.1 = true then (if bt148.2.2 = true then (if bt153.2.2 = true then (if bt153.1.toList = ([47] : List UInt8) then (if bt153.2.1.toList = ([97] : List UInt8) then ((path_Name.f (⟨#[97, 98, 99, 100, 101, 102, 103, 104, 105, 106, 107, 108]⟩ : ByteArray)).bind fun t157 => (if t157 = true then (some true) else (some false))) else (some false)) else (some false)) else (some false)) else (some false)) else (some false)) else (some false)) else (none)) else (some false)))) = some r := h
  clear h
  replace H := Option.bind_eq_some_iff.mp H
  obtain ⟨⟨t148, t149, t150⟩, A10, H⟩ := H
  replace H : ((path_Parent.f k (⟨#[47, 97]⟩ : ByteArray)).bind fun bt153 => (if (t148.length : Int) = 3 then (if 1 < (t148.length : Int) then (if (rdOf ByteArray.empty t148 1).toList = ([46, 46] : List UInt8) then (if t149 = true then (if t150 = true then (if bt153.2.2 = true then (if bt153.1.toList = ([47] : List UInt8) then (if bt153.2.1.toList = ([97] : List UInt8) then ((path_Name.f (⟨#[97, 98, 99, 100, 101, 102, 103, 104, 105, 106, 107, 108]⟩ : ByteArray)).bind fun t157 => (if t157 = true then (some true) else (some false))) else (some false)) else (some false)) else (some false)) else (some false)) else (some false)) else (some false)) else (none)) else (some false))) = some r := H
  have A1 := Aside0.mk A10
  clear A10
  replace H := Option.bind_eq_some_iff.mp H
  obtain ⟨⟨t153, t154, t155⟩, A20, H⟩ := H
  replace H : (if (t148.length : Int) = 3 then (if 1 < (t148.length : Int) then (if (rdOf ByteArray.empty t148 1).toList = ([46, 46] : List UInt8) then (if t149 = true then (if t150 = true then (if t155 = true then (if t153.toList = ([47] : List UInt8) then (if t154.toList = ([97] : List UInt8) then ((path_Name.f (⟨#[97, 98, 99, 100, 101, 102, 103, 104, 105, 106, 107, 108]⟩ : ByteArray)).bind fun t157 => (if t157 = true then (some true) else (some false))) else (some false)) else (some false)) else (some false)) else (some false)) else (some false)) else (some false)) else (none)) else (some false)) = some r := H
  have A2 := Aside0.mk A20
  clear A20
  by_cases c3 : (t148.length : Int) = 3
  · rw [if_pos c3] at H
    have c3b0 : ((t148.length : Int) == 3) = true := beq_iff_eq.mpr c3
    have c3b1 : ((t148.length : Int) != 3) = false := bne_eq_false_iff_eq.mpr c3
    clear c3
    by_cases c4 : 1 < (t148.length : Int)
    · rw [if_pos c4] at H
      have c4b0 : decide (1 < (t148.length : Int)) = true := decide_eq_true c4
      have c4b1 : decide (1 < t148.length) = true := decide_eq_true (by omega)
      clear c4
      by_cases c5 : (rdOf ByteArray.empty t148 1).toList = ([46, 46] : List UInt8)
      · rw [if_pos c5] at H
        have c5b0 : ((rdOf ByteArray.empty t148 1).toList == ([46, 46] : List UInt8)) = true := beq_iff_eq.mpr c5
        have c5b1 : ((rdOf ByteArray.empty t148 1).toList != ([46, 46] : List UInt8)) = false := bne_eq_false_iff_eq.mpr c5
        clear c5
        by_cases c6 : t149 = true
        · subst c6
          have H1 : (if t150 = true then (if t155 = true then (if t153.toList = ([47] : List UInt8) then (if t154.toList = ([97] : List UInt8) then ((path_Name.f (⟨#[97, 98, 99, 100, 101, 102, 103, 104, 105, 106, 107, 108]⟩ : ByteArray)).bind fun t157 => (if t157 = true then (some true) else (some false))) else (some false)) else (some false)) else (some false)) else (some false)) = some r := by rw [if_pos rfl] at H; exact H
          clear H
          have H := H1
          clear H1
          by_cases c7 : t150 = true
          · subst c7
            have H1 : (if t155 = true then (if t153.toList = ([47] : List UInt8) then (if t154.toList = ([97] : List UInt8) then ((path_Name.f (⟨#[97, 98, 99, 100, 101, 102, 103, 104, 105, 106, 107, 108]⟩ : ByteArray)).bind fun t157 => (if t157 = true then (some true) else (some false))) else (some false)) else (some false)) else (some false)) = some r := by rw [if_pos rfl] at H; exact H
            clear H
            have H := H1
            clear H1
            by_cases c8 : t155 = true
            · subst c8
              have H1 : (if t153.toList = ([47] : List UInt8) then (if t154.toList = ([97] : List UInt8) then ((path_Name.f (⟨#[97, 98, 99, 100, 101, 102, 103, 104, 105, 106, 107, 108]⟩ : ByteArray)).bind fun t157 => (if t157 = true then (some true) else (some false))) else (some false)) else (some false)) = some r := by rw [if_pos rfl] at H; exact H
              clear H
              have H := H1
              clear H1
              by_cases c9 : t153.toList = ([47] : List UInt8)
              · rw [if_pos c9] at H
                have c9b0 : (t153.toList == ([47] : List UInt8)) = true := beq_iff_eq.mpr c9
                have c9b1 : (t153.toList != ([47] : List UInt8)) = false := bne_eq_false_iff_eq.mpr c9
                clear c9
                by_cases c10 : t154.toList = ([97] : List UInt8)
                · rw [if_pos c10] at H
                  have c10b0 : (t154.toList == ([97] : List UInt8)) = true := beq_iff_eq.mpr c10
                  have c10b1 : (t154.toList != ([97] : List UInt8)) = false := bne_eq_false_iff_eq.mpr c10
                  clear c10
                  replace H := Option.bind_eq_some_iff.mp H
                  obtain ⟨t157, A110, H⟩ := H
                  replace H : (if t157 = true then (some true) else (some false)) = some r := H
                  have A11 := Aside0.mk A110
                  clear A110
                  by_cases c12 : t157 = true
                  · subst c12
                    have H1 : (some true) = some r := by rw [if_pos rfl] at H; exact H
                    clear H
                    have H := H1
                    clear H1
                    obtain rfl := Option.some.inj H
                    go_enter Tryd.func15, Tryd.ntmps15
                    go_wp2_with (first | ((with_reducible refine gate_callee (f := 19) rfl ?_); refine goesL_ (some 8) rfl rfl Tryd.func19 (by kernel_rfl) rfl #[.string (⟨#[47, 47, 97, 47, 46, 46, 47, 98, 47]⟩ : ByteArray)] rfl (by (try simp only [List.map_toArray, List.map_cons, List.map_nil]); first | done | rfl | (simp only [List.length_drop, List.length_take]; rfl)) ?_; (with_reducible refine (path_Split.calls (⟨#[47, 47, 97, 47, 46, 46, 47, 98, 47]⟩ : ByteArray) t148 true true _ A1.out).mono ?_); rintro e w13 ⟨v151, rfl, ho0, hb⟩; refine ⟨_, rfl, ?_⟩; have n0_ := Aside0.mk (Kd.R_lower ho0 (below_size (by repeat (first | (with_reducible first | exact HB.out | apply below_alloc | apply pw_below_drewN | apply below_drew1) | exact HB.out)))); have n1_ := Aside0.mk (below_step (by repeat (first | (with_reducible first | exact HB.out | apply below_alloc | apply pw_below_drewN | apply below_drew1) | exact HB.out)) hb); clear HB; have HO152 := n0_; have HB := n1_; clear n0_ n1_; (try clear hb); (try clear hb2); (try clear hk); (try clear hi); (try clear ho0)) | ((with_reducible refine gate_callee (f := 21) rfl ?_); refine goesL_ (some 13) rfl rfl Tryd.func21 (by kernel_rfl) rfl #[.string (⟨#[47, 97]⟩ : ByteArray)] rfl (by (try simp only [List.map_toArray, List.map_cons, List.map_nil]); first | done | rfl | (simp only [List.length_drop, List.length_take]; rfl)) ?_; (with_reducible refine (path_Parent.calls k (⟨#[47, 97]⟩ : ByteArray) t153 t154 true _ A2.out).mono ?_); rintro e w14 ⟨rfl, hb⟩; refine ⟨_, rfl, ?_⟩; have n0_ := Aside0.mk (Kd.R_below (by (with_reducible repeat (first | apply Kd.R_alloc | apply Kd.R_drewN | apply Kd.R_drew)); exact HO152.out) hb); have n1_ := Aside0.mk (below_step (by repeat (first | (with_reducible first | exact HB.out | apply below_alloc | apply pw_below_drewN | apply below_drew1) | exact HB.out)) hb); clear HO152; clear HB; have HO152 := n0_; have HB := n1_; clear n0_ n1_; (try clear hb); (try clear hb2); (try clear hk); (try clear hi); obtain ⟨Ao15, co15, eo15⟩ := Kd.R_slice HO152.out; subst eo15; have p156 : 0 ≤ (1 : Int) := (by omega); have q156 : 1 < (t148.length : Int) := of_decide_eq_true (by first | (with_reducible assumption) | assumption); obtain ⟨ad156, e156, hx156_0⟩ := Kd.at_string (Kd.R_reads' HO152.out).2.2 1 p156 q156; cases e156; (try simp only [show (1 : Int).toNat = 1 from rfl, Nat.reduceMul, Nat.reduceEqDiff, Go.Addr.add, ↓reduceIte] at hx156_0); have qi156 : (1 < t148.length) = True := eq_true (by omega); (try rw [show ((1 : Int)).toNat = 1 from rfl] at hx156_0); replace p156 := eq_true p156; replace q156 := eq_true q156) | (go_at_call 16; (with_reducible refine (path_Name.calls (⟨#[97, 98, 99, 100, 101, 102, 103, 104, 105, 106, 107, 108]⟩ : ByteArray) true _ A11.out).mono ?_); rintro e w16 ⟨rfl, hb⟩; have n0_ := Aside0.mk (Kd.R_below (by (with_reducible repeat (first | apply Kd.R_alloc | apply Kd.R_drewN | apply Kd.R_drew)); exact HO152.out) hb); have n1_ := Aside0.mk (below_step (by repeat (first | (with_reducible first | exact HB.out | apply below_alloc | apply pw_below_drewN | apply below_drew1) | exact HB.out)) hb); clear HO152; clear HB; have HO152 := n0_; have HB := n1_; clear n0_ n1_; (try clear hb); (try clear hb2); (try clear hk); (try clear hi)))
                    go_ret
                    exact ⟨by first | rfl | (simp [errW_none, errW_some] <;> rfl) | (simp [*, errW_none, errW_some] <;> rfl), by repeat (first | (with_reducible first | exact HB.out | apply below_alloc | apply pw_below_drewN | apply below_drew1) | exact HB.out)⟩
                  · replace c12 := Bool.eq_false_iff.mpr c12
                    subst c12
                    have H1 : (some false) = some r := by rw [if_neg (show ¬ (false = true) by decide)] at H; exact H
                    clear H
                    have H := H1
                    clear H1
                    obtain rfl := Option.some.inj H
                    go_enter Tryd.func15, Tryd.ntmps15
                    go_wp2_with (first | ((with_reducible refine gate_callee (f := 19) rfl ?_); refine goesL_ (some 8) rfl rfl Tryd.func19 (by kernel_rfl) rfl #[.string (⟨#[47, 47, 97, 47, 46, 46, 47, 98, 47]⟩ : ByteArray)] rfl (by (try simp only [List.map_toArray, List.map_cons, List.map_nil]); first | done | rfl | (simp only [List.length_drop, List.length_take]; rfl)) ?_; (with_reducible refine (path_Split.calls (⟨#[47, 47, 97, 47, 46, 46, 47, 98, 47]⟩ : ByteArray) t148 true true _ A1.out).mono ?_); rintro e w17 ⟨v151, rfl, ho0, hb⟩; refine ⟨_, rfl, ?_⟩; have n0_ := Aside0.mk (Kd.R_lower ho0 (below_size (by repeat (first | (with_reducible first | exact HB.out | apply below_alloc | apply pw_below_drewN | apply below_drew1) | exact HB.out)))); have n1_ := Aside0.mk (below_step (by repeat (first | (with_reducible first | exact HB.out | apply below_alloc | apply pw_below_drewN | apply below_drew1) | exact HB.out)) hb); clear HB; have HO152 := n0_; have HB := n1_; clear n0_ n1_; (try clear hb); (try clear hb2); (try clear hk); (try clear hi); (try clear ho0)) | ((with_reducible refine gate_callee (f := 21) rfl ?_); refine goesL_ (some 13) rfl rfl Tryd.func21 (by kernel_rfl) rfl #[.string (⟨#[47, 97]⟩ : ByteArray)] rfl (by (try simp only [List.map_toArray, List.map_cons, List.map_nil]); first | done | rfl | (simp only [List.length_drop, List.length_take]; rfl)) ?_; (with_reducible refine (path_Parent.calls k (⟨#[47, 97]⟩ : ByteArray) t153 t154 true _ A2.out).mono ?_); rintro e w18 ⟨rfl, hb⟩; refine ⟨_, rfl, ?_⟩; have n0_ := Aside0.mk (Kd.R_below (by (with_reducible repeat (first | apply Kd.R_alloc | apply Kd.R_drewN | apply Kd.R_drew)); exact HO152.out) hb); have n1_ := Aside0.mk (below_step (by repeat (first | (with_reducible first | exact HB.out | apply below_alloc | apply pw_below_drewN | apply below_drew1) | exact HB.out)) hb); clear HO152; clear HB; have HO152 := n0_; have HB := n1_; clear n0_ n1_; (try clear hb); (try clear hb2); (try clear hk); (try clear hi); obtain ⟨Ao19, co19, eo19⟩ := Kd.R_slice HO152.out; subst eo19; have p156 : 0 ≤ (1 : Int) := (by omega); have q156 : 1 < (t148.length : Int) := of_decide_eq_true (by first | (with_reducible assumption) | assumption); obtain ⟨ad156, e156, hx156_0⟩ := Kd.at_string (Kd.R_reads' HO152.out).2.2 1 p156 q156; cases e156; (try simp only [show (1 : Int).toNat = 1 from rfl, Nat.reduceMul, Nat.reduceEqDiff, Go.Addr.add, ↓reduceIte] at hx156_0); have qi156 : (1 < t148.length) = True := eq_true (by omega); (try rw [show ((1 : Int)).toNat = 1 from rfl] at hx156_0); replace p156 := eq_true p156; replace q156 := eq_true q156) | (go_at_call 16; (with_reducible refine (path_Name.calls (⟨#[97, 98, 99, 100, 101, 102, 103, 104, 105, 106, 107, 108]⟩ : ByteArray) false _ A11.out).mono ?_); rintro e w20 ⟨rfl, hb⟩; have n0_ := Aside0.mk (Kd.R_below (by (with_reducible repeat (first | apply Kd.R_alloc | apply Kd.R_drewN | apply Kd.R_drew)); exact HO152.out) hb); have n1_ := Aside0.mk (below_step (by repeat (first | (with_reducible first | exact HB.out | apply below_alloc | apply pw_below_drewN | apply below_drew1) | exact HB.out)) hb); clear HO152; clear HB; have HO152 := n0_; have HB := n1_; clear n0_ n1_; (try clear hb); (try clear hb2); (try clear hk); (try clear hi)))
                    go_ret
                    exact ⟨by first | rfl | (simp [errW_none, errW_some] <;> rfl) | (simp [*, errW_none, errW_some] <;> rfl), by repeat (first | (with_reducible first | exact HB.out | apply below_alloc | apply pw_below_drewN | apply below_drew1) | exact HB.out)⟩
                · rw [if_neg c10] at H
                  have c10b0 : (t154.toList == ([97] : List UInt8)) = false := beq_eq_false_iff_ne.mpr c10
                  have c10b1 : (t154.toList != ([97] : List UInt8)) = true := bne_iff_ne.mpr c10
                  obtain rfl := Option.some.inj H
                  go_enter Tryd.func15, Tryd.ntmps15
                  go_wp2_with (first | ((with_reducible refine gate_callee (f := 19) rfl ?_); refine goesL_ (some 8) rfl rfl Tryd.func19 (by kernel_rfl) rfl #[.string (⟨#[47, 47, 97, 47, 46, 46, 47, 98, 47]⟩ : ByteArray)] rfl (by (try simp only [List.map_toArray, List.map_cons, List.map_nil]); first | done | rfl | (simp only [List.length_drop, List.length_take]; rfl)) ?_; (with_reducible refine (path_Split.calls (⟨#[47, 47, 97, 47, 46, 46, 47, 98, 47]⟩ : ByteArray) t148 true true _ A1.out).mono ?_); rintro e w21 ⟨v151, rfl, ho0, hb⟩; refine ⟨_, rfl, ?_⟩; have n0_ := Aside0.mk (Kd.R_lower ho0 (below_size (by repeat (first | (with_reducible first | exact HB.out | apply below_alloc | apply pw_below_drewN | apply below_drew1) | exact HB.out)))); have n1_ := Aside0.mk (below_step (by repeat (first | (with_reducible first | exact HB.out | apply below_alloc | apply pw_below_drewN | apply below_drew1) | exact HB.out)) hb); clear HB; have HO152 := n0_; have HB := n1_; clear n0_ n1_; (try clear hb); (try clear hb2); (try clear hk); (try clear hi); (try clear ho0)) | ((with_reducible refine gate_callee (f := 21) rfl ?_); refine goesL_ (some 13) rfl rfl Tryd.func21 (by kernel_rfl) rfl #[.string (⟨#[47, 97]⟩ : ByteArray)] rfl (by (try simp only [List.map_toArray, List.map_cons, List.map_nil]); first | done | rfl | (simp only [List.length_drop, List.length_take]; rfl)) ?_; (with_reducible refine (path_Parent.calls k (⟨#[47, 97]⟩ : ByteArray) t153 t154 true _ A2.out).mono ?_); rintro e w22 ⟨rfl, hb⟩; refine ⟨_, rfl, ?_⟩; have n0_ := Aside0.mk (Kd.R_below (by (with_reducible repeat (first | apply Kd.R_alloc | apply Kd.R_drewN | apply Kd.R_drew)); exact HO152.out) hb); have n1_ := Aside0.mk (below_step (by repeat (first | (with_reducible first | exact HB.out | apply below_alloc | apply pw_below_drewN | apply below_drew1) | exact HB.out)) hb); clear HO152; clear HB; have HO152 := n0_; have HB := n1_; clear n0_ n1_; (try clear hb); (try clear hb2); (try clear hk); (try clear hi); obtain ⟨Ao23, co23, eo23⟩ := Kd.R_slice HO152.out; subst eo23; have p156 : 0 ≤ (1 : Int) := (by omega); have q156 : 1 < (t148.length : Int) := of_decide_eq_true (by first | (with_reducible assumption) | assumption); obtain ⟨ad156, e156, hx156_0⟩ := Kd.at_string (Kd.R_reads' HO152.out).2.2 1 p156 q156; cases e156; (try simp only [show (1 : Int).toNat = 1 from rfl, Nat.reduceMul, Nat.reduceEqDiff, Go.Addr.add, ↓reduceIte] at hx156_0); have qi156 : (1 < t148.length) = True := eq_true (by omega); (try rw [show ((1 : Int)).toNat = 1 from rfl] at hx156_0); replace p156 := eq_true p156; replace q156 := eq_true q156))
                  go_ret
                  exact ⟨by first | rfl | (simp [errW_none, errW_some] <;> rfl) | (simp [*, errW_none, errW_some] <;> rfl), by repeat (first | (with_reducible first | exact HB.out | apply below_alloc | apply pw_below_drewN | apply below_drew1) | exact HB.out)⟩
              · rw [if_neg c9] at H
                have c9b0 : (t153.toList == ([47] : List UInt8)) = false := beq_eq_false_iff_ne.mpr c9
                have c9b1 : (t153.toList != ([47] : List UInt8)) = true := bne_iff_ne.mpr c9
                obtain rfl := Option.some.inj H
                go_enter Tryd.func15, Tryd.ntmps15
                go_wp2_with (first | ((with_reducible refine gate_callee (f := 19) rfl ?_); refine goesL_ (some 8) rfl rfl Tryd.func19 (by kernel_rfl) rfl #[.string (⟨#[47, 47, 97, 47, 46, 46, 47, 98, 47]⟩ : ByteArray)] rfl (by (try simp only [List.map_toArray, List.map_cons, List.map_nil]); first | done | rfl | (simp only [List.length_drop, List.length_take]; rfl)) ?_; (with_reducible refine (path_Split.calls (⟨#[47, 47, 97, 47, 46, 46, 47, 98, 47]⟩ : ByteArray) t148 true true _ A1.out).mono ?_); rintro e w24 ⟨v151, rfl, ho0, hb⟩; refine ⟨_, rfl, ?_⟩; have n0_ := Aside0.mk (Kd.R_lower ho0 (below_size (by repeat (first | (with_reducible first | exact HB.out | apply below_alloc | apply pw_below_drewN | apply below_drew1) | exact HB.out)))); have n1_ := Aside0.mk (below_step (by repeat (first | (with_reducible first | exact HB.out | apply below_alloc | apply pw_below_drewN | apply below_drew1) | exact HB.out)) hb); clear HB; have HO152 := n0_; have HB := n1_; clear n0_ n1_; (try clear hb); (try clear hb2); (try clear hk); (try clear hi); (try clear ho0)) | ((with_reducible refine gate_callee (f := 21) rfl ?_); refine goesL_ (some 13) rfl rfl Tryd.func21 (by kernel_rfl) rfl #[.string (⟨#[47, 97]⟩ : ByteArray)] rfl (by (try simp only [List.map_toArray, List.map_cons, List.map_nil]); first | done | rfl | (simp only [List.length_drop, List.length_take]; rfl)) ?_; (with_reducible refine (path_Parent.calls k (⟨#[47, 97]⟩ : ByteArray) t153 t154 true _ A2.out).mono ?_); rintro e w25 ⟨rfl, hb⟩; refine ⟨_, rfl, ?_⟩; have n0_ := Aside0.mk (Kd.R_below (by (with_reducible repeat (first | apply Kd.R_alloc | apply Kd.R_drewN | apply Kd.R_drew)); exact HO152.out) hb); have n1_ := Aside0.mk (below_step (by repeat (first | (with_reducible first | exact HB.out | apply below_alloc | apply pw_below_drewN | apply below_drew1) | exact HB.out)) hb); clear HO152; clear HB; have HO152 := n0_; have HB := n1_; clear n0_ n1_; (try clear hb); (try clear hb2); (try clear hk); (try clear hi); obtain ⟨Ao26, co26, eo26⟩ := Kd.R_slice HO152.out; subst eo26; have p156 : 0 ≤ (1 : Int) := (by omega); have q156 : 1 < (t148.length : Int) := of_decide_eq_true (by first | (with_reducible assumption) | assumption); obtain ⟨ad156, e156, hx156_0⟩ := Kd.at_string (Kd.R_reads' HO152.out).2.2 1 p156 q156; cases e156; (try simp only [show (1 : Int).toNat = 1 from rfl, Nat.reduceMul, Nat.reduceEqDiff, Go.Addr.add, ↓reduceIte] at hx156_0); have qi156 : (1 < t148.length) = True := eq_true (by omega); (try rw [show ((1 : Int)).toNat = 1 from rfl] at hx156_0); replace p156 := eq_true p156; replace q156 := eq_true q156))
                go_ret
                exact ⟨by first | rfl | (simp [errW_none, errW_some] <;> rfl) | (simp [*, errW_none, errW_some] <;> rfl), by repeat (first | (with_reducible first | exact HB.out | apply below_alloc | apply pw_below_drewN | apply below_drew1) | exact HB.out)⟩
            · replace c8 := Bool.eq_false_iff.mpr c8
              subst c8
              have H1 : (some false) = some r := by rw [if_neg (show ¬ (false = true) by decide)] at H; exact H
              clear H
              have H := H1
              clear H1
              obtain rfl := Option.some.inj H
              go_enter Tryd.func15, Tryd.ntmps15
              go_wp2_with (first | ((with_reducible refine gate_callee (f := 19) rfl ?_); refine goesL_ (some 8) rfl rfl Tryd.func19 (by kernel_rfl) rfl #[.string (⟨#[47, 47, 97, 47, 46, 46, 47, 98, 47]⟩ : ByteArray)] rfl (by (try simp only [List.map_toArray, List.map_cons, List.map_nil]); first | done | rfl | (simp only [List.length_drop, List.length_take]; rfl)) ?_; (with_reducible refine (path_Split.calls (⟨#[47, 47, 97, 47, 46, 46, 47, 98, 47]⟩ : ByteArray) t148 true true _ A1.out).mono ?_); rintro e w27 ⟨v151, rfl, ho0, hb⟩; refine ⟨_, rfl, ?_⟩; have n0_ := Aside0.mk (Kd.R_lower ho0 (below_size (by repeat (first | (with_reducible first | exact HB.out | apply below_alloc | apply pw_below_drewN | apply below_drew1) | exact HB.out)))); have n1_ := Aside0.mk (below_step (by repeat (first | (with_reducible first | exact HB.out | apply below_alloc | apply pw_below_drewN | apply below_drew1) | exact HB.out)) hb); clear HB; have HO152 := n0_; have HB := n1_; clear n0_ n1_; (try clear hb); (try clear hb2); (try clear hk); (try clear hi); (try clear ho0)) | ((with_reducible refine gate_callee (f := 21) rfl ?_); refine goesL_ (some 13) rfl rfl Tryd.func21 (by kernel_rfl) rfl #[.string (⟨#[47, 97]⟩ : ByteArray)] rfl (by (try simp only [List.map_toArray, List.map_cons, List.map_nil]); first | done | rfl | (simp only [List.length_drop, List.length_take]; rfl)) ?_; (with_reducible refine (path_Parent.calls k (⟨#[47, 97]⟩ : ByteArray) t153 t154 false _ A2.out).mono ?_); rintro e w28 ⟨rfl, hb⟩; refine ⟨_, rfl, ?_⟩; have n0_ := Aside0.mk (Kd.R_below (by (with_reducible repeat (first | apply Kd.R_alloc | apply Kd.R_drewN | apply Kd.R_drew)); exact HO152.out) hb); have n1_ := Aside0.mk (below_step (by repeat (first | (with_reducible first | exact HB.out | apply below_alloc | apply pw_below_drewN | apply below_drew1) | exact HB.out)) hb); clear HO152; clear HB; have HO152 := n0_; have HB := n1_; clear n0_ n1_; (try clear hb); (try clear hb2); (try clear hk); (try clear hi); obtain ⟨Ao29, co29, eo29⟩ := Kd.R_slice HO152.out; subst eo29; have p156 : 0 ≤ (1 : Int) := (by omega); have q156 : 1 < (t148.length : Int) := of_decide_eq_true (by first | (with_reducible assumption) | assumption); obtain ⟨ad156, e156, hx156_0⟩ := Kd.at_string (Kd.R_reads' HO152.out).2.2 1 p156 q156; cases e156; (try simp only [show (1 : Int).toNat = 1 from rfl, Nat.reduceMul, Nat.reduceEqDiff, Go.Addr.add, ↓reduceIte] at hx156_0); have qi156 : (1 < t148.length) = True := eq_true (by omega); (try rw [show ((1 : Int)).toNat = 1 from rfl] at hx156_0); replace p156 := eq_true p156; replace q156 := eq_true q156))
              go_ret
              exact ⟨by first | rfl | (simp [errW_none, errW_some] <;> rfl) | (simp [*, errW_none, errW_some] <;> rfl), by repeat (first | (with_reducible first | exact HB.out | apply below_alloc | apply pw_below_drewN | apply below_drew1) | exact HB.out)⟩
          · replace c7 := Bool.eq_false_iff.mpr c7
            subst c7
            have H1 : (some false) = some r := by rw [if_neg (show ¬ (false = true) by decide)] at H; exact H
            clear H
            have H := H1
            clear H1
            obtain rfl := Option.some.inj H
            go_enter Tryd.func15, Tryd.ntmps15
            go_wp2_with (first | ((with_reducible refine gate_callee (f := 19) rfl ?_); refine goesL_ (some 8) rfl rfl Tryd.func19 (by kernel_rfl) rfl #[.string (⟨#[47, 47, 97, 47, 46, 46, 47, 98, 47]⟩ : ByteArray)] rfl (by (try simp only [List.map_toArray, List.map_cons, List.map_nil]); first | done | rfl | (simp only [List.length_drop, List.length_take]; rfl)) ?_; (with_reducible refine (path_Split.calls (⟨#[47, 47, 97, 47, 46, 46, 47, 98, 47]⟩ : ByteArray) t148 true false _ A1.out).mono ?_); rintro e w30 ⟨v151, rfl, ho0, hb⟩; refine ⟨_, rfl, ?_⟩; have n0_ := Aside0.mk (Kd.R_lower ho0 (below_size (by repeat (first | (with_reducible first | exact HB.out | apply below_alloc | apply pw_below_drewN | apply below_drew1) | exact HB.out)))); have n1_ := Aside0.mk (below_step (by repeat (first | (with_reducible first | exact HB.out | apply below_alloc | apply pw_below_drewN | apply below_drew1) | exact HB.out)) hb); clear HB; have HO152 := n0_; have HB := n1_; clear n0_ n1_; (try clear hb); (try clear hb2); (try clear hk); (try clear hi); (try clear ho0)) | ((with_reducible refine gate_callee (f := 21) rfl ?_); refine goesL_ (some 13) rfl rfl Tryd.func21 (by kernel_rfl) rfl #[.string (⟨#[47, 97]⟩ : ByteArray)] rfl (by (try simp only [List.map_toArray, List.map_cons, List.map_nil]); first | done | rfl | (simp only [List.length_drop, List.length_take]; rfl)) ?_; (with_reducible refine (path_Parent.calls k (⟨#[47, 97]⟩ : ByteArray) t153 t154 t155 _ A2.out).mono ?_); rintro e w31 ⟨rfl, hb⟩; refine ⟨_, rfl, ?_⟩; have n0_ := Aside0.mk (Kd.R_below (by (with_reducible repeat (first | apply Kd.R_alloc | apply Kd.R_drewN | apply Kd.R_drew)); exact HO152.out) hb); have n1_ := Aside0.mk (below_step (by repeat (first | (with_reducible first | exact HB.out | apply below_alloc | apply pw_below_drewN | apply below_drew1) | exact HB.out)) hb); clear HO152; clear HB; have HO152 := n0_; have HB := n1_; clear n0_ n1_; (try clear hb); (try clear hb2); (try clear hk); (try clear hi); obtain ⟨Ao32, co32, eo32⟩ := Kd.R_slice HO152.out; subst eo32; have p156 : 0 ≤ (1 : Int) := (by omega); have q156 : 1 < (t148.length : Int) := of_decide_eq_true (by first | (with_reducible assumption) | assumption); obtain ⟨ad156, e156, hx156_0⟩ := Kd.at_string (Kd.R_reads' HO152.out).2.2 1 p156 q156; cases e156; (try simp only [show (1 : Int).toNat = 1 from rfl, Nat.reduceMul, Nat.reduceEqDiff, Go.Addr.add, ↓reduceIte] at hx156_0); have qi156 : (1 < t148.length) = True := eq_true (by omega); (try rw [show ((1 : Int)).toNat = 1 from rfl] at hx156_0); replace p156 := eq_true p156; replace q156 := eq_true q156))
            go_ret
            exact ⟨by first | rfl | (simp [errW_none, errW_some] <;> rfl) | (simp [*, errW_none, errW_some] <;> rfl), by repeat (first | (with_reducible first | exact HB.out | apply below_alloc | apply pw_below_drewN | apply below_drew1) | exact HB.out)⟩
        · replace c6 := Bool.eq_false_iff.mpr c6
          subst c6
          have H1 : (some false) = some r := by rw [if_neg (show ¬ (false = true) by decide)] at H; exact H
          clear H
          have H := H1
          clear H1
          obtain rfl := Option.some.inj H
          go_enter Tryd.func15, Tryd.ntmps15
          go_wp2_with (first | ((with_reducible refine gate_callee (f := 19) rfl ?_); refine goesL_ (some 8) rfl rfl Tryd.func19 (by kernel_rfl) rfl #[.string (⟨#[47, 47, 97, 47, 46, 46, 47, 98, 47]⟩ : ByteArray)] rfl (by (try simp only [List.map_toArray, List.map_cons, List.map_nil]); first | done | rfl | (simp only [List.length_drop, List.length_take]; rfl)) ?_; (with_reducible refine (path_Split.calls (⟨#[47, 47, 97, 47, 46, 46, 47, 98, 47]⟩ : ByteArray) t148 false t150 _ A1.out).mono ?_); rintro e w33 ⟨v151, rfl, ho0, hb⟩; refine ⟨_, rfl, ?_⟩; have n0_ := Aside0.mk (Kd.R_lower ho0 (below_size (by repeat (first | (with_reducible first | exact HB.out | apply below_alloc | apply pw_below_drewN | apply below_drew1) | exact HB.out)))); have n1_ := Aside0.mk (below_step (by repeat (first | (with_reducible first | exact HB.out | apply below_alloc | apply pw_below_drewN | apply below_drew1) | exact HB.out)) hb); clear HB; have HO152 := n0_; have HB := n1_; clear n0_ n1_; (try clear hb); (try clear hb2); (try clear hk); (try clear hi); (try clear ho0)) | ((with_reducible refine gate_callee (f := 21) rfl ?_); refine goesL_ (some 13) rfl rfl Tryd.func21 (by kernel_rfl) rfl #[.string (⟨#[47, 97]⟩ : ByteArray)] rfl (by (try simp only [List.map_toArray, List.map_cons, List.map_nil]); first | done | rfl | (simp only [List.length_drop, List.length_take]; rfl)) ?_; (with_reducible refine (path_Parent.calls k (⟨#[47, 97]⟩ : ByteArray) t153 t154 t155 _ A2.out).mono ?_); rintro e w34 ⟨rfl, hb⟩; refine ⟨_, rfl, ?_⟩; have n0_ := Aside0.mk (Kd.R_below (by (with_reducible repeat (first | apply Kd.R_alloc | apply Kd.R_drewN | apply Kd.R_drew)); exact HO152.out) hb); have n1_ := Aside0.mk (below_step (by repeat (first | (with_reducible first | exact HB.out | apply below_alloc | apply pw_below_drewN | apply below_drew1) | exact HB.out)) hb); clear HO152; clear HB; have HO152 := n0_; have HB := n1_; clear n0_ n1_; (try clear hb); (try clear hb2); (try clear hk); (try clear hi); obtain ⟨Ao35, co35, eo35⟩ := Kd.R_slice HO152.out; subst eo35; have p156 : 0 ≤ (1 : Int) := (by omega); have q156 : 1 < (t148.length : Int) := of_decide_eq_true (by first | (with_reducible assumption) | assumption); obtain ⟨ad156, e156, hx156_0⟩ := Kd.at_string (Kd.R_reads' HO152.out).2.2 1 p156 q156; cases e156; (try simp only [show (1 : Int).toNat = 1 from rfl, Nat.reduceMul, Nat.reduceEqDiff, Go.Addr.add, ↓reduceIte] at hx156_0); have qi156 : (1 < t148.length) = True := eq_true (by omega); (try rw [show ((1 : Int)).toNat = 1 from rfl] at hx156_0); replace p156 := eq_true p156; replace q156 := eq_true q156))
          go_ret
          exact ⟨by first | rfl | (simp [errW_none, errW_some] <;> rfl) | (simp [*, errW_none, errW_some] <;> rfl), by repeat (first | (with_reducible first | exact HB.out | apply below_alloc | apply pw_below_drewN | apply below_drew1) | exact HB.out)⟩
      · rw [if_neg c5] at H
        have c5b0 : ((rdOf ByteArray.empty t148 1).toList == ([46, 46] : List UInt8)) = false := beq_eq_false_iff_ne.mpr c5
        have c5b1 : ((rdOf ByteArray.empty t148 1).toList != ([46, 46] : List UInt8)) = true := bne_iff_ne.mpr c5
        obtain rfl := Option.some.inj H
        go_enter Tryd.func15, Tryd.ntmps15
        go_wp2_with (first | ((with_reducible refine gate_callee (f := 19) rfl ?_); refine goesL_ (some 8) rfl rfl Tryd.func19 (by kernel_rfl) rfl #[.string (⟨#[47, 47, 97, 47, 46, 46, 47, 98, 47]⟩ : ByteArray)] rfl (by (try simp only [List.map_toArray, List.map_cons, List.map_nil]); first | done | rfl | (simp only [List.length_drop, List.length_take]; rfl)) ?_; (with_reducible refine (path_Split.calls (⟨#[47, 47, 97, 47, 46, 46, 47, 98, 47]⟩ : ByteArray) t148 t149 t150 _ A1.out).mono ?_); rintro e w36 ⟨v151, rfl, ho0, hb⟩; refine ⟨_, rfl, ?_⟩; have n0_ := Aside0.mk (Kd.R_lower ho0 (below_size (by repeat (first | (with_reducible first | exact HB.out | apply below_alloc | apply pw_below_drewN | apply below_drew1) | exact HB.out)))); have n1_ := Aside0.mk (below_step (by repeat (first | (with_reducible first | exact HB.out | apply below_alloc | apply pw_below_drewN | apply below_drew1) | exact HB.out)) hb); clear HB; have HO152 := n0_; have HB := n1_; clear n0_ n1_; (try clear hb); (try clear hb2); (try clear hk); (try clear hi); (try clear ho0)) | ((with_reducible refine gate_callee (f := 21) rfl ?_); refine goesL_ (some 13) rfl rfl Tryd.func21 (by kernel_rfl) rfl #[.string (⟨#[47, 97]⟩ : ByteArray)] rfl (by (try simp only [List.map_toArray, List.map_cons, List.map_nil]); first | done | rfl | (simp only [List.length_drop, List.length_take]; rfl)) ?_; (with_reducible refine (path_Parent.calls k (⟨#[47, 97]⟩ : ByteArray) t153 t154 t155 _ A2.out).mono ?_); rintro e w37 ⟨rfl, hb⟩; refine ⟨_, rfl, ?_⟩; have n0_ := Aside0.mk (Kd.R_below (by (with_reducible repeat (first | apply Kd.R_alloc | apply Kd.R_drewN | apply Kd.R_drew)); exact HO152.out) hb); have n1_ := Aside0.mk (below_step (by repeat (first | (with_reducible first | exact HB.out | apply below_alloc | apply pw_below_drewN | apply below_drew1) | exact HB.out)) hb); clear HO152; clear HB; have HO152 := n0_; have HB := n1_; clear n0_ n1_; (try clear hb); (try clear hb2); (try clear hk); (try clear hi); obtain ⟨Ao38, co38, eo38⟩ := Kd.R_slice HO152.out; subst eo38; have p156 : 0 ≤ (1 : Int) := (by omega); have q156 : 1 < (t148.length : Int) := of_decide_eq_true (by first | (with_reducible assumption) | assumption); obtain ⟨ad156, e156, hx156_0⟩ := Kd.at_string (Kd.R_reads' HO152.out).2.2 1 p156 q156; cases e156; (try simp only [show (1 : Int).toNat = 1 from rfl, Nat.reduceMul, Nat.reduceEqDiff, Go.Addr.add, ↓reduceIte] at hx156_0); have qi156 : (1 < t148.length) = True := eq_true (by omega); (try rw [show ((1 : Int)).toNat = 1 from rfl] at hx156_0); replace p156 := eq_true p156; replace q156 := eq_true q156))
        go_ret
        exact ⟨by first | rfl | (simp [errW_none, errW_some] <;> rfl) | (simp [*, errW_none, errW_some] <;> rfl), by repeat (first | (with_reducible first | exact HB.out | apply below_alloc | apply pw_below_drewN | apply below_drew1) | exact HB.out)⟩
    · rw [if_neg c4] at H
      exact absurd H (by simp)
  · rw [if_neg c3] at H
    have c3b0 : ((t148.length : Int) == 3) = false := beq_eq_false_iff_ne.mpr c3
    have c3b1 : ((t148.length : Int) != 3) = true := bne_iff_ne.mpr c3
    obtain rfl := Option.some.inj H
    go_enter Tryd.func15, Tryd.ntmps15
    go_wp2_with (first | ((with_reducible refine gate_callee (f := 19) rfl ?_); refine goesL_ (some 8) rfl rfl Tryd.func19 (by kernel_rfl) rfl #[.string (⟨#[47, 47, 97, 47, 46, 46, 47, 98, 47]⟩ : ByteArray)] rfl (by (try simp only [List.map_toArray, List.map_cons, List.map_nil]); first | done | rfl | (simp only [List.length_drop, List.length_take]; rfl)) ?_; (with_reducible refine (path_Split.calls (⟨#[47, 47, 97, 47, 46, 46, 47, 98, 47]⟩ : ByteArray) t148 t149 t150 _ A1.out).mono ?_); rintro e w39 ⟨v151, rfl, ho0, hb⟩; refine ⟨_, rfl, ?_⟩; have n0_ := Aside0.mk (Kd.R_lower ho0 (below_size (by repeat (first | (with_reducible first | exact HB.out | apply below_alloc | apply pw_below_drewN | apply below_drew1) | exact HB.out)))); have n1_ := Aside0.mk (below_step (by repeat (first | (with_reducible first | exact HB.out | apply below_alloc | apply pw_below_drewN | apply below_drew1) | exact HB.out)) hb); clear HB; have HO152 := n0_; have HB := n1_; clear n0_ n1_; (try clear hb); (try clear hb2); (try clear hk); (try clear hi); (try clear ho0)) | ((with_reducible refine gate_callee (f := 21) rfl ?_); refine goesL_ (some 13) rfl rfl Tryd.func21 (by kernel_rfl) rfl #[.string (⟨#[47, 97]⟩ : ByteArray)] rfl (by (try simp only [List.map_toArray, List.map_cons, List.map_nil]); first | done | rfl | (simp only [List.length_drop, List.length_take]; rfl)) ?_; (with_reducible refine (path_Parent.calls k (⟨#[47, 97]⟩ : ByteArray) t153 t154 t155 _ A2.out).mono ?_); rintro e w40 ⟨rfl, hb⟩; refine ⟨_, rfl, ?_⟩; have n0_ := Aside0.mk (Kd.R_below (by (with_reducible repeat (first | apply Kd.R_alloc | apply Kd.R_drewN | apply Kd.R_drew)); exact HO152.out) hb); have n1_ := Aside0.mk (below_step (by repeat (first | (with_reducible first | exact HB.out | apply below_alloc | apply pw_below_drewN | apply below_drew1) | exact HB.out)) hb); clear HO152; clear HB; have HO152 := n0_; have HB := n1_; clear n0_ n1_; (try clear hb); (try clear hb2); (try clear hk); (try clear hi); obtain ⟨Ao41, co41, eo41⟩ := Kd.R_slice HO152.out; subst eo41))
    go_ret
    exact ⟨by first | rfl | (simp [errW_none, errW_some] <;> rfl) | (simp [*, errW_none, errW_some] <;> rfl), by repeat (first | (with_reducible first | exact HB.out | apply below_alloc | apply pw_below_drewN | apply below_drew1) | exact HB.out)⟩

end Go.Proofs.YtnjabpgbpgocnaaDoor.PAll

-- PAllx51
namespace Go.Proofs.YtnjabpgbpgocnaaDoor.PAll
open Go.RowKit Go.Proofs.YtnjabpgbpgocnaaDoorW.PrintWords Go.Proofs.YtnjabpgbpgocnaaDoorW.PrintLast Go.Proofs.YtnjabpgbpgocnaaDoorW.PrintMore
attribute [local go_sem] max2_int min2_int max_two min_two max_three min_three max_four min_four   -- for this text's walks alone
set_option linter.unusedVariables false
set_option linter.unusedSimpArgs false

/-! ### kauditlaw04_PathPieces: function 6 -/
mutual
def kauditlaw04_PathPieces.j0 : Nat → ByteArray → List ByteArray → Bool → Option (Bool)
  | 0, _, _, _ => none
  | k + 1, x0, x3, x43 => if x43 = true then (some false) else (kauditlaw04_PathPieces.l0 k x0 x3 (⟨#[]⟩ : ByteArray) 0)
def kauditlaw04_PathPieces.l0 : Nat → ByteArray → List ByteArray → ByteArray → Int → Option (Bool)
  | 0, _, _, _, _ => none
  | k + 1, x0, x3, x6, x7 => if x7 < (x3.length : Int) then (if 0 ≤ x7 then (if (rdOf ByteArray.empty x3 x7).toList = ([] : List UInt8) then (some false) else (kauditlaw04_PathPieces.l1 k x0 x3 x6 x7 0)) else (none)) else ((path_Clean.f k x0).bind fun t238 => (if t238 = true then (if x0.toList = ([47] : List UInt8) then ((kauditlaw04_awake.f k).bind fun t239 => (some t239)) else (if x0.toList = x6.toList then ((kauditlaw04_awake.f k).bind fun t240 => (some t240)) else (some false))) else ((kauditlaw04_awake.f k).bind fun t241 => (some t241))))
def kauditlaw04_PathPieces.l1 : Nat → ByteArray → List ByteArray → ByteArray → Int → Int → Option (Bool)
  | 0, _, _, _, _, _ => none
  | k + 1, x0, x3, x6, x7, x8 => if 0 ≤ x7 then (if x7 < (x3.length : Int) then (if x8 < ((rdOf ByteArray.empty x3 x7).size : Int) then (if 0 ≤ x8 then (if (bt (rdOf ByteArray.empty x3 x7) x8) = 47 then (some false) else (kauditlaw04_PathPieces.l1 k x0 x3 x6 x7 (wrap64 (x8 + 1)))) else (none)) else (if 1 + (rdOf ByteArray.empty x3 x7).size ≤ 9223372036854775807 then (if x6.size + ((⟨#[47]⟩ : ByteArray) ++ (rdOf ByteArray.empty x3 x7)).size ≤ 9223372036854775807 then (kauditlaw04_PathPieces.l0 k x0 x3 (x6 ++ ((⟨#[47]⟩ : ByteArray) ++ (rdOf ByteArray.empty x3 x7))) (wrap64 (x7 + 1))) else (none)) else (none))) else (none)) else (none)
end
def kauditlaw04_PathPieces.f (k : Nat) (a0 : ByteArray) : Option (Bool) := if (a0.size : Int) > 400 then ((kauditlaw04_awake.f k).bind fun t232 => (some t232)) else ((path_Split.f a0).bind fun bt233 => (if (a0.size : Int) > 0 then (if 0 < (a0.size : Int) then (if (bt233.2.1 != ((bt a0 0) == 47)) = true then (kauditlaw04_PathPieces.j0 k a0 bt233.1 true) else (if 0 ≤ (wrap64 ((a0.size : Int) - 1)) then (if (wrap64 ((a0.size : Int) - 1)) < (a0.size : Int) then (kauditlaw04_PathPieces.j0 k a0 bt233.1 (bt233.2.2 != ((bt a0 (wrap64 ((a0.size : Int) - 1))) == 47))) else (none)) else (none))) else (none)) else (if (bt233.2.1 != false) = true then (kauditlaw04_PathPieces.j0 k a0 bt233.1 true) else (kauditlaw04_PathPieces.j0 k a0 bt233.1 (bt233.2.2 != false)))))
theorem kauditlaw04_PathPieces.mono_l : ∀ k, (∀ y0 y1 y2, LeO (kauditlaw04_PathPieces.j0 k y0 y1 y2) (kauditlaw04_PathPieces.j0 (k + 1) y0 y1 y2)) ∧ (∀ y0 y1 y2 y3, LeO (kauditlaw04_PathPieces.l0 k y0 y1 y2 y3) (kauditlaw04_PathPieces.l0 (k + 1) y0 y1 y2 y3)) ∧ (∀ y0 y1 y2 y3 y4, LeO (kauditlaw04_PathPieces.l1 k y0 y1 y2 y3 y4) (kauditlaw04_PathPieces.l1 (k + 1) y0 y1 y2 y3 y4))
  | 0 => ⟨fun _ _ _ r h => by simp [kauditlaw04_PathPieces.j0] at h, fun _ _ _ _ r h => by simp [kauditlaw04_PathPieces.l0] at h, fun _ _ _ _ _ r h => by simp [kauditlaw04_PathPieces.l1] at h⟩
  | k + 1 => by
    obtain ⟨ih0, ih1, ih2⟩ := kauditlaw04_PathPieces.mono_l k
    refine ⟨?_, ?_, ?_⟩
    · intro y0 y1 y2
      unfold kauditlaw04_PathPieces.j0
      repeat' first
      | (with_reducible exact ih0 _ _ _)
      | (with_reducible exact ih1 _ _ _ _)
      | (with_reducible exact ih2 _ _ _ _ _)
      | (with_reducible exact kauditlaw04_awake.mono _)
      | (with_reducible exact path_Clean.mono _ _)
      | (with_reducible exact LeO.refl _)
      | (with_reducible exact LeO.none _)
      | (with_reducible refine LeO.ite ?_ ?_)
      | (with_reducible refine LeO.bind ?_ (fun _ => ?_))
      | exact ih0 _ _ _
      | exact ih1 _ _ _ _
      | exact ih2 _ _ _ _ _
      | exact kauditlaw04_awake.mono _
      | exact path_Clean.mono _ _
      | exact LeO.none _
      | refine LeO.ite ?_ ?_
      | refine LeO.bind ?_ (fun _ => ?_)
    · intro y0 y1 y2 y3
      unfold kauditlaw04_PathPieces.l0
      repeat' first
      | (with_reducible exact ih0 _ _ _)
      | (with_reducible exact ih1 _ _ _ _)
      | (with_reducible exact ih2 _ _ _ _ _)
      | (with_reducible exact kauditlaw04_awake.mono _)
      | (with_reducible exact path_Clean.mono _ _)
      | (with_reducible exact LeO.refl _)
      | (with_reducible exact LeO.none _)
      | (with_reducible refine LeO.ite ?_ ?_)
      | (with_reducible refine LeO.bind ?_ (fun _ => ?_))
      | exact ih0 _ _ _
      | exact ih1 _ _ _ _
      | exact ih2 _ _ _ _ _
      | exact kauditlaw04_awake.mono _
      | exact path_Clean.mono _ _
      | exact LeO.none _
      | refine LeO.ite ?_ ?_
      | refine LeO.bind ?_ (fun _ => ?_)
    · intro y0 y1 y2 y3 y4
      unfold kauditlaw04_PathPieces.l1
      repeat' first
      | (with_reducible exact ih0 _ _ _)
      | (with_reducible exact ih1 _ _ _ _)
      | (with_reducible exact ih2 _ _ _ _ _)
      | (with_reducible exact kauditlaw04_awake.mono _)
      | (with_reducible exact path_Clean.mono _ _)
      | (with_reducible exact LeO.refl _)
      | (with_reducible exact LeO.none _)
      | (with_reducible refine LeO.ite ?_ ?_)
      | (with_reducible refine LeO.bind ?_ (fun _ => ?_))
      | exact ih0 _ _ _
      | exact ih1 _ _ _ _
      | exact ih2 _ _ _ _ _
      | exact kauditlaw04_awake.mono _
      | exact path_Clean.mono _ _
      | exact LeO.none _
      | refine LeO.ite ?_ ?_
      | refine LeO.bind ?_ (fun _ => ?_)
theorem kauditlaw04_PathPieces.mono : ∀ a0 k, LeO (kauditlaw04_PathPieces.f k a0) (kauditlaw04_PathPieces.f (k + 1) a0) := by
  intro a0 k
  obtain ⟨ih0, ih1, ih2⟩ := kauditlaw04_PathPieces.mono_l k
  unfold kauditlaw04_PathPieces.f
  repeat' first
      | (with_reducible exact ih0 _ _ _)
      | (with_reducible exact ih1 _ _ _ _)
      | (with_reducible exact ih2 _ _ _ _ _)
      | (with_reducible exact kauditlaw04_awake.mono _)
      | (with_reducible exact path_Clean.mono _ _)
      | (with_reducible exact LeO.refl _)
      | (with_reducible exact LeO.none _)
      | (with_reducible refine LeO.ite ?_ ?_)
      | (with_reducible refine LeO.bind ?_ (fun _ => ?_))
      | exact ih0 _ _ _
      | exact ih1 _ _ _ _
      | exact ih2 _ _ _ _ _
      | exact kauditlaw04_awake.mono _
      | exact path_Clean.mono _ _
      | exact LeO.none _
      | refine LeO.ite ?_ ?_
      | refine LeO.bind ?_ (fun _ => ?_)
set_option maxHeartbeats 8000000 in
set_option maxRecDepth 100000 in
theorem kauditlaw04_PathPieces.calls (k : Nat) (a0 : ByteArray) (r : Bool) (w : World) (h : kauditlaw04_PathPieces.f k a0 = some r) :
    Calls Tryd.prog 6 #[.string a0] w fun e w' => e = .returned (.bool r) ∧ Below w.heap.size w w' := by
  have HB := Aside0.mk (Below.refl w.heap.size w)
  have H : (if (a0.size : Int) > 400 then ((kauditlaw04_awake.f k).bind fun t232 => (some t232)) else ((path_Split.f a0).bind fun bt233 => (if (a0.size : Int) > 0 then (if 0 < (a0.size : Int) then (if (bt233.2.1 != ((bt a0 0) == 47)) = true then (kauditlaw04_PathPieces.j0 k a0 bt233.1 true) else (if 0 ≤ (wrap64 ((a0.size : Int) - 1)) then (if (wrap64 ((a0.size : Int) - 1)) < (a0.size : Int) then (kauditlaw04_PathPieces.j0 k a0 bt233.1 (bt233.2.2 != ((bt a0 (wrap64 ((a0.size : Int) - 1))) == 47))) else (none)) else (none))) else (none)) else (if (bt233.2.1 != false) = true then (kauditlaw04_PathPieces.j0 k a0 bt233.1 true) else (kauditlaw04_PathPieces.j0 k a0 bt233.1 (bt233.2.2 != false)))))) = some r := h
  clear h
  by_cases c2 : (a0.size : Int) > 400
  · rw [if_pos c2] at H
    have c2b0 : decide (400 < (a0.size : Int)) = true := decide_eq_true c2
    have c2b1 : decide (400 < a0.size) = true := decide_eq_true (by omega)
    clear c2
    replace H := Option.bind_eq_some_iff.mp H
    obtain ⟨t232, A30, H⟩ := H
    replace H : (some t232) = some r := H
    have A3 := Aside0.mk A30
    clear A30
    obtain rfl := Option.some.inj H
    go_enter Tryd.func6, Tryd.ntmps6
    go_wp2_with (first | ((with_reducible refine gate_callee (f := 15) rfl ?_); refine goesL_ (some 12) rfl rfl Tryd.func15 (by kernel_rfl) rfl #[] rfl (by (try simp only [List.map_toArray, List.map_cons, List.map_nil]); first | done | rfl | (simp only [List.length_drop, List.length_take]; rfl)) ?_; (with_reducible refine (kauditlaw04_awake.calls k  t232 _ A3.out).mono ?_); rintro e w4 ⟨rfl, hb⟩; refine ⟨_, rfl, ?_⟩; have n0_ := Aside0.mk (below_step (by repeat (first | (with_reducible first | exact HB.out | apply below_alloc | apply pw_below_drewN | apply below_drew1) | exact HB.out)) hb); clear HB; have HB := n0_; clear n0_; (try clear hb); (try clear hb2); (try clear hk); (try clear hi)))
    go_ret
    exact ⟨by first | rfl | (simp [errW_none, errW_some] <;> rfl) | (simp [*, errW_none, errW_some] <;> rfl), by repeat (first | (with_reducible first | exact HB.out | apply below_alloc | apply pw_below_drewN | apply below_drew1) | exact HB.out)⟩
  · rw [if_neg c2] at H
    have c2b0 : decide (400 < (a0.size : Int)) = false := decide_eq_false c2
    have c2b1 : decide (400 < a0.size) = false := decide_eq_false (by omega)
    clear c2
    replace H := Option.bind_eq_some_iff.mp H
    obtain ⟨⟨t233, t234, t235⟩, A50, H⟩ := H
    replace H : (if (a0.size : Int) > 0 then (if 0 < (a0.size : Int) then (if (t234 != ((bt a0 0) == 47)) = true then (kauditlaw04_PathPieces.j0 k a0 t233 true) else (if 0 ≤ (wrap64 ((a0.size : Int) - 1)) then (if (wrap64 ((a0.size : Int) - 1)) < (a0.size : Int) then (kauditlaw04_PathPieces.j0 k a0 t233 (t235 != ((bt a0 (wrap64 ((a0.size : Int) - 1))) == 47))) else (none)) else (none))) else (none)) else (if (t234 != false) = true then (kauditlaw04_PathPieces.j0 k a0 t233 true) else (kauditlaw04_PathPieces.j0 k a0 t233 (t235 != false)))) = some r := H
    have A5 := Aside0.mk A50
    clear A50
    have HC6 := Aside0.mk H
    clear H
    go_enter Tryd.func6, Tryd.ntmps6
    go_upto_region 4 with (first | ((with_reducible refine gate_callee (f := 19) rfl ?_); refine goesL_ (some 15) rfl rfl Tryd.func19 (by kernel_rfl) rfl #[.string a0] rfl (by (try simp only [List.map_toArray, List.map_cons, List.map_nil]); first | done | rfl | (simp only [List.length_drop, List.length_take]; rfl)) ?_; (with_reducible refine (path_Split.calls a0 t233 t234 t235 _ A5.out).mono ?_); rintro e w7 ⟨v236, rfl, ho0, hb⟩; refine ⟨_, rfl, ?_⟩; have n0_ := Aside0.mk (Kd.R_lower ho0 (below_size (by repeat (first | (with_reducible first | exact HB.out | apply below_alloc | apply pw_below_drewN | apply below_drew1) | exact HB.out)))); have n1_ := Aside0.mk (below_step (by repeat (first | (with_reducible first | exact HB.out | apply below_alloc | apply pw_below_drewN | apply below_drew1) | exact HB.out)) hb); clear HB; have HO237 := n0_; have HB := n1_; clear n0_ n1_; (try clear hb); (try clear hb2); (try clear hk); (try clear hi); (try clear ho0)))
    (try simp only [Act.put, List.setIfInBounds_toArray, List.set_cons_zero, List.set_cons_succ])
    go_cut [43] (fun v43 wc => ∃ (kq : Nat) (x43_5 : Bool), v43 = .bool x43_5 ∧ Aside0 (kauditlaw04_PathPieces.j0 kq a0 t233 x43_5 = some r) ∧ Aside0 (kq ≤ k) ∧ Aside0 (Kd.R Kd.string 9 wc w.heap.size (fun _ => True) v236 t233) ∧ Aside0 (Below w.heap.size w wc))
    case first =>
      have H := HC6.out
      clear HC6
      by_cases c8 : (a0.size : Int) > 0
      · rw [if_pos c8] at H
        have c8b0 : decide (0 < (a0.size : Int)) = true := decide_eq_true c8
        have c8b1 : decide (0 < a0.size) = true := decide_eq_true (by omega)
        clear c8
        (first | rw [c8b0] | (simp only [i64_w, i32_w]; rw [c8b0]) | skip)
        by_cases c9 : 0 < (a0.size : Int)
        · rw [if_pos c9] at H
          have c9b0 : decide (0 < (a0.size : Int)) = true := decide_eq_true c9
          have c9b1 : decide (0 < a0.size) = true := decide_eq_true (by omega)
          clear c9
          by_cases c11 : (t234 != ((bt a0 0) == 47)) = true
          · rw [if_pos c11] at H
            have c11b0 : (t234 != ((bt a0 0) == 47)) = true := c11
            (try (have c11b1 : decide (t234 = ((bt a0 0) == 47)) = false := by simpa using c11))
            (try (have c11b2 : (t234 == ((bt a0 0) == 47)) = false := by simpa using c11))
            (try (have c11b3 : ¬ (t234 = ((bt a0 0) == 47)) := by simpa using c11))
            clear c11
            have H' := Aside0.mk H
            clear H
            have p10 : 0 ≤ (0 : Int) := (by omega)
            have q10 : 0 < a0.size := (by have : (0 : Int) < (a0.size : Int) := of_decide_eq_true (by first | (with_reducible assumption) | assumption); omega)
            have hx10 : ∀ h : 0 < a0.size, ((a0[0]'h).toNat : Int) = bt a0 0 := bt_at a0 0
            clear p10
            have qi10 : (0 < (a0.size : Int)) = True := eq_true (of_decide_eq_true (by first | (with_reducible assumption) | assumption))
            replace q10 := eq_true q10
            go_wp2
            go_meet
            case rel => exact ⟨_, (true), (by first | rfl | (simp; done) | (simp [*]; done)), H', ⟨by first | omega | exact Nat.le_refl _⟩, ⟨by (with_reducible repeat (first | apply Kd.R_alloc | apply Kd.R_drewN | apply Kd.R_drew)); exact HO237.out⟩, ⟨by repeat (first | (with_reducible first | exact HB.out | apply below_alloc | apply pw_below_drewN | apply below_drew1) | exact HB.out)⟩⟩
          · rw [if_neg c11] at H
            have c11b0 : (t234 != ((bt a0 0) == 47)) = false := by simpa using c11
            (try (have c11b1 : decide (t234 = ((bt a0 0) == 47)) = true := by simpa using c11))
            (try (have c11b2 : (t234 == ((bt a0 0) == 47)) = true := by simpa using c11))
            clear c11
            obtain ⟨ji12, hji12⟩ : ∃ j_ : Int, (wrap64 ((a0.size : Int) - 1)) = j_ := ⟨_, rfl⟩
            replace H : (if 0 ≤ (ji12) then (if (ji12) < (a0.size : Int) then (kauditlaw04_PathPieces.j0 k a0 t233 (t235 != ((bt a0 (ji12)) == 47))) else (none)) else (none)) = some r := by first | (rw [hji12] at H; exact H) | (simp only [hji12] at H ⊢; exact H)
            have hji12w : (IntKind.i64.wrap ((a0.size : Int) - 1)) = ji12 := (i64_w _).trans hji12
            by_cases c13 : 0 ≤ (ji12)
            · rw [if_pos c13] at H
              have c13b0 : decide (0 ≤ (ji12)) = true := decide_eq_true c13
              clear c13
              by_cases c14 : (ji12) < (a0.size : Int)
              · rw [if_pos c14] at H
                have c14b0 : decide ((ji12) < (a0.size : Int)) = true := decide_eq_true c14
                clear c14
                have H' := Aside0.mk H
                clear H
                have p10 : 0 ≤ (0 : Int) := (by omega)
                have q10 : 0 < a0.size := (by have : (0 : Int) < (a0.size : Int) := of_decide_eq_true (by first | (with_reducible assumption) | assumption); omega)
                have hx10 : ∀ h : 0 < a0.size, ((a0[0]'h).toNat : Int) = bt a0 0 := bt_at a0 0
                clear p10
                have qi10 : (0 < (a0.size : Int)) = True := eq_true (of_decide_eq_true (by first | (with_reducible assumption) | assumption))
                replace q10 := eq_true q10
                have p15 : 0 ≤ ((ji12) : Int) := of_decide_eq_true (by first | (with_reducible assumption) | assumption)
                have q15 : (ji12) < (a0.size : Int) := of_decide_eq_true (by first | (with_reducible assumption) | assumption)
                have hx15 := bt_at a0 (ji12)
                replace p15 := eq_true p15
                replace q15 := eq_true q15
                go_wp2
                go_meet
                case rel => exact ⟨_, ((t235 != ((bt a0 (ji12)) == 47))), (by first | rfl | (simp; done) | (simp only [← hji12] <;> (first | rfl | simp)) | (simp [*]; done)), H', ⟨by first | omega | exact Nat.le_refl _⟩, ⟨by (with_reducible repeat (first | apply Kd.R_alloc | apply Kd.R_drewN | apply Kd.R_drew)); exact HO237.out⟩, ⟨by repeat (first | (with_reducible first | exact HB.out | apply below_alloc | apply pw_below_drewN | apply below_drew1) | exact HB.out)⟩⟩
              · rw [if_neg c14] at H
                exact absurd H (by simp)
            · rw [if_neg c13] at H
              exact absurd H (by simp)
        · rw [if_neg c9] at H
          exact absurd H (by simp)
      · rw [if_neg c8] at H
        have c8b0 : decide (0 < (a0.size : Int)) = false := decide_eq_false c8
        have c8b1 : decide (0 < a0.size) = false := decide_eq_false (by omega)
        clear c8
        (first | rw [c8b0] | (simp only [i64_w, i32_w]; rw [c8b0]) | skip)
        by_cases c16 : (t234 != false) = true
        · rw [if_pos c16] at H
          have c16b0 : (t234 != false) = true := c16
          (try (have c16b1 : decide (t234 = false) = false := by simpa using c16))
          (try (have c16b2 : (t234 == false) = false := by simpa using c16))
          (try (have c16b3 : ¬ (t234 = false) := by simpa using c16))
          clear c16
          have H' := Aside0.mk H
          clear H
          go_wp2
          go_meet
          case rel => exact ⟨_, (true), (by first | rfl | (simp; done) | (simp [*]; done)), H', ⟨by first | omega | exact Nat.le_refl _⟩, ⟨by (with_reducible repeat (first | apply Kd.R_alloc | apply Kd.R_drewN | apply Kd.R_drew)); exact HO237.out⟩, ⟨by repeat (first | (with_reducible first | exact HB.out | apply below_alloc | apply pw_below_drewN | apply below_drew1) | exact HB.out)⟩⟩
        · rw [if_neg c16] at H
          have c16b0 : (t234 != false) = false := by simpa using c16
          (try (have c16b1 : decide (t234 = false) = true := by simpa using c16))
          (try (have c16b2 : (t234 == false) = true := by simpa using c16))
          clear c16
          have H' := Aside0.mk H
          clear H
          go_wp2
          go_meet
          case rel => exact ⟨_, ((t235 != false)), (by first | rfl | (simp; done) | (simp [*]; done)), H', ⟨by first | omega | exact Nat.le_refl _⟩, ⟨by (with_reducible repeat (first | apply Kd.R_alloc | apply Kd.R_drewN | apply Kd.R_drew)); exact HO237.out⟩, ⟨by repeat (first | (with_reducible first | exact HB.out | apply below_alloc | apply pw_below_drewN | apply below_drew1) | exact HB.out)⟩⟩
    case rest =>
      clear HC6
      try clear c1
      try clear p1
      try clear q1
      try clear hx1
      try clear qi1
      try clear c2
      try clear c2b0
      try clear c2b1
      try clear p2
      try clear c6
      try clear p6
      try clear c8
      try clear c8b0
      try clear c8b1
      try clear c9
      try clear c9b0
      try clear c9b1
      try clear p10
      try clear q10
      try clear hx10
      try clear qi10
      try clear c11
      try clear c11b0
      try clear c11b1
      try clear c11b2
      try clear c13
      try clear c13b0
      try clear c14
      try clear c14b0
      try clear c15
      try clear p15
      try clear q15
      try clear hx15
      try clear c16
      try clear c16b0
      try clear c16b1
      try clear c16b2
      try clear p10
      try clear p15
      try clear q10
      try clear q15
      obtain ⟨kq, x43_5, rfl, HA, HJ5, HO_3, HB⟩ := hcut
      cases kq with
      | zero => exact absurd HA.out (by simp [kauditlaw04_PathPieces.j0])
      | succ kj5 =>
        have H := HA.out
        clear HA
        simp only [kauditlaw04_PathPieces.j0] at H
        by_cases c17 : x43_5 = true
        · subst c17
          have H1 : (some false) = some r := by rw [if_pos rfl] at H; exact H
          clear H
          have H := H1
          clear H1
          obtain rfl := Option.some.inj H
          go_wp2
          go_ret
          exact ⟨by first | rfl | (simp [errW_none, errW_some] <;> rfl) | (simp [*, errW_none, errW_some] <;> rfl), by repeat (first | (with_reducible first | exact HB.out | apply below_alloc | apply pw_below_drewN | apply below_drew1) | exact HB.out)⟩
        · replace c17 := Bool.eq_false_iff.mpr c17
          subst c17
          have H1 : (kauditlaw04_PathPieces.l0 kj5 a0 t233 (⟨#[]⟩ : ByteArray) 0) = some r := by rw [if_neg (show ¬ (false = true) by decide)] at H; exact H
          clear H
          have H := H1
          clear H1
          have H' := Aside0.mk H
          clear H
          go_wp2
          (first | go_loopg [6, 7] kj5 (fun kq v6 v7 w' => ∃ (x6_2 : ByteArray) (x7_2 : Int), v6 = .string x6_2 ∧ v7 = .int .i64 x7_2 ∧ Aside0 (kauditlaw04_PathPieces.l0 kq a0 t233 x6_2 x7_2 = some r) ∧ Aside0 (kq ≤ kj5) ∧ Aside0 (Kd.R Kd.string 9 w' w.heap.size (fun _ => True) v236 t233) ∧ Aside0 (Below w.heap.size w w')) | (go_simp; go_loopg [6, 7] kj5 (fun kq v6 v7 w' => ∃ (x6_2 : ByteArray) (x7_2 : Int), v6 = .string x6_2 ∧ v7 = .int .i64 x7_2 ∧ Aside0 (kauditlaw04_PathPieces.l0 kq a0 t233 x6_2 x7_2 = some r) ∧ Aside0 (kq ≤ kj5) ∧ Aside0 (Kd.R Kd.string 9 w' w.heap.size (fun _ => True) v236 t233) ∧ Aside0 (Below w.heap.size w w'))))
          case atStart => exact ⟨((⟨#[]⟩ : ByteArray)), (0), (by first | rfl | (simp; done) | (simp [*]; done)), (by first | rfl | (simp; done) | (simp [*]; done)), H', ⟨Nat.le_refl _⟩, ⟨by (with_reducible repeat (first | apply Kd.R_alloc | apply Kd.R_drewN | apply Kd.R_drew)); exact HO_3.out⟩, ⟨by repeat (first | (with_reducible first | exact HB.out | apply below_alloc | apply pw_below_drewN | apply below_drew1) | exact HB.out)⟩⟩
          case round =>
            clear H'
            try clear c1
            try clear p1
            try clear q1
            try clear hx1
            try clear qi1
            try clear c2
            try clear c2b0
            try clear c2b1
            try clear p2
            try clear c6
            try clear p6
            try clear c8
            try clear c8b0
            try clear c8b1
            try clear c9
            try clear c9b0
            try clear c9b1
            try clear p10
            try clear q10
            try clear hx10
            try clear qi10
            try clear c11
            try clear c11b0
            try clear c11b1
            try clear c11b2
            try clear c13
            try clear c13b0
            try clear c14
            try clear c14b0
            try clear c15
            try clear p15
            try clear q15
            try clear hx15
            try clear c16
            try clear c16b0
            try clear c16b1
            try clear c16b2
            try clear c17
            try clear p1
            try clear p10
            try clear p15
            try clear p2
            try clear p6
            try clear q1
            try clear q10
            try clear q15
            obtain ⟨x6_2, x7_2, rfl, rfl, HA, HK2, HO_3, HB⟩ := hrel
            cases gk with
            | zero => exact absurd HA.out (by simp [kauditlaw04_PathPieces.l0])
            | succ k2 =>
              have H := HA.out
              clear HA
              simp only [kauditlaw04_PathPieces.l0] at H
              by_cases c18 : x7_2 < (t233.length : Int)
              · rw [if_pos c18] at H
                have c18b0 : decide (x7_2 < (t233.length : Int)) = true := decide_eq_true c18
                clear c18
                by_cases c19 : 0 ≤ x7_2
                · rw [if_pos c19] at H
                  have c19b0 : decide (0 ≤ x7_2) = true := decide_eq_true c19
                  clear c19
                  by_cases c20 : (rdOf ByteArray.empty t233 x7_2).toList = ([] : List UInt8)
                  · rw [if_pos c20] at H
                    have c20b0 : ((rdOf ByteArray.empty t233 x7_2).toList == ([] : List UInt8)) = true := beq_iff_eq.mpr c20
                    have c20b1 : ((rdOf ByteArray.empty t233 x7_2).toList != ([] : List UInt8)) = false := bne_eq_false_iff_eq.mpr c20
                    clear c20
                    obtain rfl := Option.some.inj H
                    obtain ⟨Ao21, co21, eo21⟩ := Kd.R_slice HO_3.out
                    subst eo21
                    have p242 : 0 ≤ (x7_2 : Int) := of_decide_eq_true (by first | (with_reducible assumption) | assumption)
                    have q242 : x7_2 < (t233.length : Int) := of_decide_eq_true (by first | (with_reducible assumption) | assumption)
                    obtain ⟨ad242, e242, hx242_0⟩ := Kd.at_string (Kd.R_reads' HO_3.out).2.2 x7_2 p242 q242
                    cases e242
                    replace p242 := eq_true p242
                    replace q242 := eq_true q242
                    go_wp2
                    go_ret
                    exact ⟨by first | rfl | (simp [errW_none, errW_some] <;> rfl) | (simp [*, errW_none, errW_some] <;> rfl), by repeat (first | (with_reducible first | exact HB.out | apply below_alloc | apply pw_below_drewN | apply below_drew1) | exact HB.out)⟩
                  · rw [if_neg c20] at H
                    have c20b0 : ((rdOf ByteArray.empty t233 x7_2).toList == ([] : List UInt8)) = false := beq_eq_false_iff_ne.mpr c20
                    have c20b1 : ((rdOf ByteArray.empty t233 x7_2).toList != ([] : List UInt8)) = true := bne_iff_ne.mpr c20
                    have H' := Aside0.mk H
                    clear H
                    obtain ⟨Ao22, co22, eo22⟩ := Kd.R_slice HO_3.out
                    subst eo22
                    have p242 : 0 ≤ (x7_2 : Int) := of_decide_eq_true (by first | (with_reducible assumption) | assumption)
                    have q242 : x7_2 < (t233.length : Int) := of_decide_eq_true (by first | (with_reducible assumption) | assumption)
                    obtain ⟨ad242, e242, hx242_0⟩ := Kd.at_string (Kd.R_reads' HO_3.out).2.2 x7_2 p242 q242
                    cases e242
                    replace p242 := eq_true p242
                    replace q242 := eq_true q242
                    go_wp2
                    (first | go_loopg [8] k2 (fun kq v8 w' => ∃ (x8_3 : Int), v8 = .int .i64 x8_3 ∧ Aside0 (kauditlaw04_PathPieces.l1 kq a0 t233 x6_2 x7_2 x8_3 = some r) ∧ Aside0 (kq ≤ k2) ∧ Aside0 (Kd.R Kd.string 9 w' w.heap.size (fun _ => True) (.slice (some ad242) t233.length co22) t233) ∧ Aside0 (Below w.heap.size w w')) | (go_simp; go_loopg [8] k2 (fun kq v8 w' => ∃ (x8_3 : Int), v8 = .int .i64 x8_3 ∧ Aside0 (kauditlaw04_PathPieces.l1 kq a0 t233 x6_2 x7_2 x8_3 = some r) ∧ Aside0 (kq ≤ k2) ∧ Aside0 (Kd.R Kd.string 9 w' w.heap.size (fun _ => True) (.slice (some ad242) t233.length co22) t233) ∧ Aside0 (Below w.heap.size w w'))))
                    case atStart => exact ⟨(0), (by first | rfl | (simp; done) | (simp [*]; done)), H', ⟨Nat.le_refl _⟩, ⟨by (with_reducible repeat (first | apply Kd.R_alloc | apply Kd.R_drewN | apply Kd.R_drew)); exact HO_3.out⟩, ⟨by repeat (first | (with_reducible first | exact HB.out | apply below_alloc | apply pw_below_drewN | apply below_drew1) | exact HB.out)⟩⟩
                    case round =>
                      clear H'
                      try clear c1
                      try clear p1
                      try clear q1
                      try clear hx1
                      try clear qi1
                      try clear c2
                      try clear c2b0
                      try clear c2b1
                      try clear p2
                      try clear q2
                      try clear hx2
                      try clear c6
                      try clear p6
                      try clear c8
                      try clear c8b0
                      try clear c8b1
                      try clear c9
                      try clear c9b0
                      try clear c9b1
                      try clear p10
                      try clear q10
                      try clear hx10
                      try clear qi10
                      try clear c11
                      try clear c11b0
                      try clear c11b1
                      try clear c11b2
                      try clear c13
                      try clear c13b0
                      try clear c14
                      try clear c14b0
                      try clear c15
                      try clear p15
                      try clear q15
                      try clear hx15
                      try clear c16
                      try clear c16b0
                      try clear c16b1
                      try clear c16b2
                      try clear c17
                      try clear c18
                      try clear c18b0
                      try clear c19
                      try clear c19b0
                      try clear c20
                      try clear c20b0
                      try clear c20b1
                      try clear hx242_0
                      try clear p1
                      try clear p10
                      try clear p15
                      try clear p2
                      try clear p242
                      try clear p6
                      try clear q1
                      try clear q10
                      try clear q15
                      try clear q242
                      obtain ⟨x8_3, rfl, HA, HK3, HO_3, HB⟩ := hrel
                      cases gk with
                      | zero => exact absurd HA.out (by simp [kauditlaw04_PathPieces.l1])
                      | succ k3 =>
                        have H := HA.out
                        clear HA
                        simp only [kauditlaw04_PathPieces.l1] at H
                        by_cases c23 : 0 ≤ x7_2
                        · rw [if_pos c23] at H
                          have c23b0 : decide (0 ≤ x7_2) = true := decide_eq_true c23
                          clear c23
                          by_cases c24 : x7_2 < (t233.length : Int)
                          · rw [if_pos c24] at H
                            have c24b0 : decide (x7_2 < (t233.length : Int)) = true := decide_eq_true c24
                            clear c24
                            by_cases c25 : x8_3 < ((rdOf ByteArray.empty t233 x7_2).size : Int)
                            · rw [if_pos c25] at H
                              have c25b0 : decide (x8_3 < ((rdOf ByteArray.empty t233 x7_2).size : Int)) = true := decide_eq_true c25
                              clear c25
                              by_cases c26 : 0 ≤ x8_3
                              · rw [if_pos c26] at H
                                have c26b0 : decide (0 ≤ x8_3) = true := decide_eq_true c26
                                clear c26
                                by_cases c28 : (bt (rdOf ByteArray.empty t233 x7_2) x8_3) = 47
                                · rw [if_pos c28] at H
                                  have c28b0 : ((bt (rdOf ByteArray.empty t233 x7_2) x8_3) == 47) = true := beq_iff_eq.mpr c28
                                  have c28b1 : ((bt (rdOf ByteArray.empty t233 x7_2) x8_3) != 47) = false := bne_eq_false_iff_eq.mpr c28
                                  clear c28
                                  obtain rfl := Option.some.inj H
                                  have p243 : 0 ≤ (x7_2 : Int) := of_decide_eq_true (by first | (with_reducible assumption) | assumption)
                                  have q243 : x7_2 < (t233.length : Int) := of_decide_eq_true (by first | (with_reducible assumption) | assumption)
                                  obtain ⟨ad243, e243, hx243_0⟩ := Kd.at_string (Kd.R_reads' HO_3.out).2.2 x7_2 p243 q243
                                  obtain rfl : ad242 = ad243 := (by injection e243)
                                  replace p243 := eq_true p243
                                  replace q243 := eq_true q243
                                  have p244 : 0 ≤ (x7_2 : Int) := of_decide_eq_true (by first | (with_reducible assumption) | assumption)
                                  have q244 : x7_2 < (t233.length : Int) := of_decide_eq_true (by first | (with_reducible assumption) | assumption)
                                  obtain ⟨ad244, e244, hx244_0⟩ := Kd.at_string (Kd.R_reads' HO_3.out).2.2 x7_2 p244 q244
                                  obtain rfl : ad242 = ad244 := (by injection e244)
                                  replace p244 := eq_true p244
                                  replace q244 := eq_true q244
                                  have p27 : 0 ≤ (x8_3 : Int) := of_decide_eq_true (by first | (with_reducible assumption) | assumption)
                                  have q27 : x8_3 < ((rdOf ByteArray.empty t233 x7_2).size : Int) := of_decide_eq_true (by first | (with_reducible assumption) | assumption)
                                  have hx27 := bt_at (rdOf ByteArray.empty t233 x7_2) x8_3
                                  replace p27 := eq_true p27
                                  replace q27 := eq_true q27
                                  go_wp2
                                  go_ret
                                  exact ⟨by first | rfl | (simp [errW_none, errW_some] <;> rfl) | (simp [*, errW_none, errW_some] <;> rfl), by repeat (first | (with_reducible first | exact HB.out | apply below_alloc | apply pw_below_drewN | apply below_drew1) | exact HB.out)⟩
                                · rw [if_neg c28] at H
                                  have c28b0 : ((bt (rdOf ByteArray.empty t233 x7_2) x8_3) == 47) = false := beq_eq_false_iff_ne.mpr c28
                                  have c28b1 : ((bt (rdOf ByteArray.empty t233 x7_2) x8_3) != 47) = true := bne_iff_ne.mpr c28
                                  have H' := Aside0.mk H
                                  clear H
                                  have p243 : 0 ≤ (x7_2 : Int) := of_decide_eq_true (by first | (with_reducible assumption) | assumption)
                                  have q243 : x7_2 < (t233.length : Int) := of_decide_eq_true (by first | (with_reducible assumption) | assumption)
                                  obtain ⟨ad243, e243, hx243_0⟩ := Kd.at_string (Kd.R_reads' HO_3.out).2.2 x7_2 p243 q243
                                  obtain rfl : ad242 = ad243 := (by injection e243)
                                  replace p243 := eq_true p243
                                  replace q243 := eq_true q243
                                  have p244 : 0 ≤ (x7_2 : Int) := of_decide_eq_true (by first | (with_reducible assumption) | assumption)
                                  have q244 : x7_2 < (t233.length : Int) := of_decide_eq_true (by first | (with_reducible assumption) | assumption)
                                  obtain ⟨ad244, e244, hx244_0⟩ := Kd.at_string (Kd.R_reads' HO_3.out).2.2 x7_2 p244 q244
                                  obtain rfl : ad242 = ad244 := (by injection e244)
                                  replace p244 := eq_true p244
                                  replace q244 := eq_true q244
                                  have p27 : 0 ≤ (x8_3 : Int) := of_decide_eq_true (by first | (with_reducible assumption) | assumption)
                                  have q27 : x8_3 < ((rdOf ByteArray.empty t233 x7_2).size : Int) := of_decide_eq_true (by first | (with_reducible assumption) | assumption)
                                  have hx27 := bt_at (rdOf ByteArray.empty t233 x7_2) x8_3
                                  replace p27 := eq_true p27
                                  replace q27 := eq_true q27
                                  go_wp2
                                  go_roundg k3
                                  case measure => have := HJ5.out; have := HK2.out; have := HK3.out; omega
                                  case rel => exact ⟨(wrap64 (x8_3 + 1)), (by first | rfl | (simp; done) | (simp [*]; done)), H', ⟨by have := HJ5.out; have := HK2.out; have := HK3.out; omega⟩, ⟨by (with_reducible repeat (first | apply Kd.R_alloc | apply Kd.R_drewN | apply Kd.R_drew)); exact HO_3.out⟩, ⟨by repeat (first | (with_reducible first | exact HB.out | apply below_alloc | apply pw_below_drewN | apply below_drew1) | exact HB.out)⟩⟩
                              · rw [if_neg c26] at H
                                exact absurd H (by simp)
                            · rw [if_neg c25] at H
                              have c25b0 : decide (x8_3 < ((rdOf ByteArray.empty t233 x7_2).size : Int)) = false := decide_eq_false c25
                              clear c25
                              by_cases c29 : 1 + (rdOf ByteArray.empty t233 x7_2).size ≤ 9223372036854775807
                              · rw [if_pos c29] at H
                                have c29b0 := eq_true c29
                                have c29b1 : decide (1 + (rdOf ByteArray.empty t233 x7_2).size ≤ 9223372036854775807) = true := decide_eq_true c29
                                try have c29b2 : (9223372036854775807 < 1 + (rdOf ByteArray.empty t233 x7_2).size) = False := eq_false (Nat.not_lt.2 c29)
                                by_cases c30 : x6_2.size + ((⟨#[47]⟩ : ByteArray) ++ (rdOf ByteArray.empty t233 x7_2)).size ≤ 9223372036854775807
                                · rw [if_pos c30] at H
                                  have c30b0 := eq_true c30
                                  have c30b1 : decide (x6_2.size + ((⟨#[47]⟩ : ByteArray) ++ (rdOf ByteArray.empty t233 x7_2)).size ≤ 9223372036854775807) = true := decide_eq_true c30
                                  try have c30b2 : (9223372036854775807 < x6_2.size + ((⟨#[47]⟩ : ByteArray) ++ (rdOf ByteArray.empty t233 x7_2)).size) = False := eq_false (Nat.not_lt.2 c30)
                                  have H' := Aside0.mk H
                                  clear H
                                  have p243 : 0 ≤ (x7_2 : Int) := of_decide_eq_true (by first | (with_reducible assumption) | assumption)
                                  have q243 : x7_2 < (t233.length : Int) := of_decide_eq_true (by first | (with_reducible assumption) | assumption)
                                  obtain ⟨ad243, e243, hx243_0⟩ := Kd.at_string (Kd.R_reads' HO_3.out).2.2 x7_2 p243 q243
                                  obtain rfl : ad242 = ad243 := (by injection e243)
                                  replace p243 := eq_true p243
                                  replace q243 := eq_true q243
                                  have p245 : 0 ≤ (x7_2 : Int) := of_decide_eq_true (by first | (with_reducible assumption) | assumption)
                                  have q245 : x7_2 < (t233.length : Int) := of_decide_eq_true (by first | (with_reducible assumption) | assumption)
                                  obtain ⟨ad245, e245, hx245_0⟩ := Kd.at_string (Kd.R_reads' HO_3.out).2.2 x7_2 p245 q245
                                  obtain rfl : ad242 = ad245 := (by injection e245)
                                  replace p245 := eq_true p245
                                  replace q245 := eq_true q245
                                  go_wp2
                                  go_roundg k3
                                  case measure => have := HJ5.out; have := HK2.out; have := HK3.out; omega
                                  case rel => exact ⟨(x6_2 ++ ((⟨#[47]⟩ : ByteArray) ++ (rdOf ByteArray.empty t233 x7_2))), (wrap64 (x7_2 + 1)), (by first | rfl | (simp; done) | (simp [*]; done)), (by first | rfl | (simp; done) | (simp [*]; done)), H', ⟨by have := HJ5.out; have := HK2.out; have := HK3.out; omega⟩, ⟨by (with_reducible repeat (first | apply Kd.R_alloc | apply Kd.R_drewN | apply Kd.R_drew)); exact HO_3.out⟩, ⟨by repeat (first | (with_reducible first | exact HB.out | apply below_alloc | apply pw_below_drewN | apply below_drew1) | exact HB.out)⟩⟩
                                · rw [if_neg c30] at H
                                  exact absurd H (by simp)
                              · rw [if_neg c29] at H
                                exact absurd H (by simp)
                          · rw [if_neg c24] at H
                            exact absurd H (by simp)
                        · rw [if_neg c23] at H
                          exact absurd H (by simp)
                · rw [if_neg c19] at H
                  exact absurd H (by simp)
              · rw [if_neg c18] at H
                have c18b0 : decide (x7_2 < (t233.length : Int)) = false := decide_eq_false c18
                clear c18
                replace H := Option.bind_eq_some_iff.mp H
                obtain ⟨t238, A310, H⟩ := H
                replace H : (if t238 = true then (if a0.toList = ([47] : List UInt8) then ((kauditlaw04_awake.f k2).bind fun t239 => (some t239)) else (if a0.toList = x6_2.toList then ((kauditlaw04_awake.f k2).bind fun t240 => (some t240)) else (some false))) else ((kauditlaw04_awake.f k2).bind fun t241 => (some t241))) = some r := H
                have A31 := Aside0.mk A310
                clear A310
                by_cases c32 : t238 = true
                · subst c32
                  have H1 : (if a0.toList = ([47] : List UInt8) then ((kauditlaw04_awake.f k2).bind fun t239 => (some t239)) else (if a0.toList = x6_2.toList then ((kauditlaw04_awake.f k2).bind fun t240 => (some t240)) else (some false))) = some r := by rw [if_pos rfl] at H; exact H
                  clear H
                  have H := H1
                  clear H1
                  by_cases c33 : a0.toList = ([47] : List UInt8)
                  · rw [if_pos c33] at H
                    have c33b0 : (a0.toList == ([47] : List UInt8)) = true := beq_iff_eq.mpr c33
                    have c33b1 : (a0.toList != ([47] : List UInt8)) = false := bne_eq_false_iff_eq.mpr c33
                    clear c33
                    replace H := Option.bind_eq_some_iff.mp H
                    obtain ⟨t239, A340, H⟩ := H
                    replace H : (some t239) = some r := H
                    have A34 := Aside0.mk A340
                    clear A340
                    obtain rfl := Option.some.inj H
                    obtain ⟨Ao35, co35, eo35⟩ := Kd.R_slice HO_3.out
                    subst eo35
                    go_wp2_with (first | ((with_reducible refine gate_callee (f := 17) rfl ?_); refine goesL_ (some 79) rfl rfl Tryd.func17 (by kernel_rfl) rfl #[.string a0] rfl (by (try simp only [List.map_toArray, List.map_cons, List.map_nil]); first | done | rfl | (simp only [List.length_drop, List.length_take]; rfl)) ?_; (with_reducible refine (path_Clean.calls k2 a0 true _ A31.out).mono ?_); rintro e w36 ⟨rfl, hb⟩; refine ⟨_, rfl, ?_⟩; have n0_ := Aside0.mk (Kd.R_below (by (with_reducible repeat (first | apply Kd.R_alloc | apply Kd.R_drewN | apply Kd.R_drew)); exact HO_3.out) hb); have n1_ := Aside0.mk (below_step (by repeat (first | (with_reducible first | exact HB.out | apply below_alloc | apply pw_below_drewN | apply below_drew1) | exact HB.out)) hb); clear HO_3; clear HB; have HO_3 := n0_; have HB := n1_; clear n0_ n1_; (try clear hb); (try clear hb2); (try clear hk); (try clear hi)) | (go_at_call 15; (with_reducible refine (kauditlaw04_awake.calls k2  t239 _ A34.out).mono ?_); rintro e w37 ⟨rfl, hb⟩; have n0_ := Aside0.mk (Kd.R_below (by (with_reducible repeat (first | apply Kd.R_alloc | apply Kd.R_drewN | apply Kd.R_drew)); exact HO_3.out) hb); have n1_ := Aside0.mk (below_step (by repeat (first | (with_reducible first | exact HB.out | apply below_alloc | apply pw_below_drewN | apply below_drew1) | exact HB.out)) hb); clear HO_3; clear HB; have HO_3 := n0_; have HB := n1_; clear n0_ n1_; (try clear hb); (try clear hb2); (try clear hk); (try clear hi)))
                    go_ret
                    exact ⟨by first | rfl | (simp [errW_none, errW_some] <;> rfl) | (simp [*, errW_none, errW_some] <;> rfl), by repeat (first | (with_reducible first | exact HB.out | apply below_alloc | apply pw_below_drewN | apply below_drew1) | exact HB.out)⟩
                  · rw [if_neg c33] at H
                    have c33b0 : (a0.toList == ([47] : List UInt8)) = false := beq_eq_false_iff_ne.mpr c33
                    have c33b1 : (a0.toList != ([47] : List UInt8)) = true := bne_iff_ne.mpr c33
                    by_cases c38 : a0.toList = x6_2.toList
                    · rw [if_pos c38] at H
                      have c38b0 : (a0.toList == x6_2.toList) = true := beq_iff_eq.mpr c38
                      have c38b1 : (a0.toList != x6_2.toList) = false := bne_eq_false_iff_eq.mpr c38
                      clear c38
                      replace H := Option.bind_eq_some_iff.mp H
                      obtain ⟨t240, A390, H⟩ := H
                      replace H : (some t240) = some r := H
                      have A39 := Aside0.mk A390
                      clear A390
                      obtain rfl := Option.some.inj H
                      obtain ⟨Ao40, co40, eo40⟩ := Kd.R_slice HO_3.out
                      subst eo40
                      go_wp2_with (first | ((with_reducible refine gate_callee (f := 17) rfl ?_); refine goesL_ (some 79) rfl rfl Tryd.func17 (by kernel_rfl) rfl #[.string a0] rfl (by (try simp only [List.map_toArray, List.map_cons, List.map_nil]); first | done | rfl | (simp only [List.length_drop, List.length_take]; rfl)) ?_; (with_reducible refine (path_Clean.calls k2 a0 true _ A31.out).mono ?_); rintro e w41 ⟨rfl, hb⟩; refine ⟨_, rfl, ?_⟩; have n0_ := Aside0.mk (Kd.R_below (by (with_reducible repeat (first | apply Kd.R_alloc | apply Kd.R_drewN | apply Kd.R_drew)); exact HO_3.out) hb); have n1_ := Aside0.mk (below_step (by repeat (first | (with_reducible first | exact HB.out | apply below_alloc | apply pw_below_drewN | apply below_drew1) | exact HB.out)) hb); clear HO_3; clear HB; have HO_3 := n0_; have HB := n1_; clear n0_ n1_; (try clear hb); (try clear hb2); (try clear hk); (try clear hi)) | (go_at_call 15; (with_reducible refine (kauditlaw04_awake.calls k2  t240 _ A39.out).mono ?_); rintro e w42 ⟨rfl, hb⟩; have n0_ := Aside0.mk (Kd.R_below (by (with_reducible repeat (first | apply Kd.R_alloc | apply Kd.R_drewN | apply Kd.R_drew)); exact HO_3.out) hb); have n1_ := Aside0.mk (below_step (by repeat (first | (with_reducible first | exact HB.out | apply below_alloc | apply pw_below_drewN | apply below_drew1) | exact HB.out)) hb); clear HO_3; clear HB; have HO_3 := n0_; have HB := n1_; clear n0_ n1_; (try clear hb); (try clear hb2); (try clear hk); (try clear hi)))
                      go_ret
                      exact ⟨by first | rfl | (simp [errW_none, errW_some] <;> rfl) | (simp [*, errW_none, errW_some] <;> rfl), by repeat (first | (with_reducible first | exact HB.out | apply below_alloc | apply pw_below_drewN | apply below_drew1) | exact HB.out)⟩
                    · rw [if_neg c38] at H
                      have c38b0 : (a0.toList == x6_2.toList) = false := beq_eq_false_iff_ne.mpr c38
                      have c38b1 : (a0.toList != x6_2.toList) = true := bne_iff_ne.mpr c38
                      obtain rfl := Option.some.inj H
                      obtain ⟨Ao43, co43, eo43⟩ := Kd.R_slice HO_3.out
                      subst eo43
                      go_wp2_with (first | ((with_reducible refine gate_callee (f := 17) rfl ?_); refine goesL_ (some 79) rfl rfl Tryd.func17 (by kernel_rfl) rfl #[.string a0] rfl (by (try simp only [List.map_toArray, List.map_cons, List.map_nil]); first | done | rfl | (simp only [List.length_drop, List.length_take]; rfl)) ?_; (with_reducible refine (path_Clean.calls k2 a0 true _ A31.out).mono ?_); rintro e w44 ⟨rfl, hb⟩; refine ⟨_, rfl, ?_⟩; have n0_ := Aside0.mk (Kd.R_below (by (with_reducible repeat (first | apply Kd.R_alloc | apply Kd.R_drewN | apply Kd.R_drew)); exact HO_3.out) hb); have n1_ := Aside0.mk (below_step (by repeat (first | (with_reducible first | exact HB.out | apply below_alloc | apply pw_below_drewN | apply below_drew1) | exact HB.out)) hb); clear HO_3; clear HB; have HO_3 := n0_; have HB := n1_; clear n0_ n1_; (try clear hb); (try clear hb2); (try clear hk); (try clear hi)))
                      go_ret
                      exact ⟨by first | rfl | (simp [errW_none, errW_some] <;> rfl) | (simp [*, errW_none, errW_some] <;> rfl), by repeat (first | (with_reducible first | exact HB.out | apply below_alloc | apply pw_below_drewN | apply below_drew1) | exact HB.out)⟩
                · replace c32 := Bool.eq_false_iff.mpr c32
                  subst c32
                  have H1 : ((kauditlaw04_awake.f k2).bind fun t241 => (some t241)) = some r := by rw [if_neg (show ¬ (false = true) by decide)] at H; exact H
                  clear H
                  have H := H1
                  clear H1
                  replace H := Option.bind_eq_some_iff.mp H
                  obtain ⟨t241, A450, H⟩ := H
                  replace H : (some t241) = some r := H
                  have A45 := Aside0.mk A450
                  clear A450
                  obtain rfl := Option.some.inj H
                  obtain ⟨Ao46, co46, eo46⟩ := Kd.R_slice HO_3.out
                  subst eo46
                  go_wp2_with (first | ((with_reducible refine gate_callee (f := 17) rfl ?_); refine goesL_ (some 79) rfl rfl Tryd.func17 (by kernel_rfl) rfl #[.string a0] rfl (by (try simp only [List.map_toArray, List.map_cons, List.map_nil]); first | done | rfl | (simp only [List.length_drop, List.length_take]; rfl)) ?_; (with_reducible refine (path_Clean.calls k2 a0 false _ A31.out).mono ?_); rintro e w47 ⟨rfl, hb⟩; refine ⟨_, rfl, ?_⟩; have n0_ := Aside0.mk (Kd.R_below (by (with_reducible repeat (first | apply Kd.R_alloc | apply Kd.R_drewN | apply Kd.R_drew)); exact HO_3.out) hb); have n1_ := Aside0.mk (below_step (by repeat (first | (with_reducible first | exact HB.out | apply below_alloc | apply pw_below_drewN | apply below_drew1) | exact HB.out)) hb); clear HO_3; clear HB; have HO_3 := n0_; have HB := n1_; clear n0_ n1_; (try clear hb); (try clear hb2); (try clear hk); (try clear hi)) | (go_at_call 15; (with_reducible refine (kauditlaw04_awake.calls k2  t241 _ A45.out).mono ?_); rintro e w48 ⟨rfl, hb⟩; have n0_ := Aside0.mk (Kd.R_below (by (with_reducible repeat (first | apply Kd.R_alloc | apply Kd.R_drewN | apply Kd.R_drew)); exact HO_3.out) hb); have n1_ := Aside0.mk (below_step (by repeat (first | (with_reducible first | exact HB.out | apply below_alloc | apply pw_below_drewN | apply below_drew1) | exact HB.out)) hb); clear HO_3; clear HB; have HO_3 := n0_; have HB := n1_; clear n0_ n1_; (try clear hb); (try clear hb2); (try clear hk); (try clear hi)))
                  go_ret
                  exact ⟨by first | rfl | (simp [errW_none, errW_some] <;> rfl) | (simp [*, errW_none, errW_some] <;> rfl), by repeat (first | (with_reducible first | exact HB.out | apply below_alloc | apply pw_below_drewN | apply below_drew1) | exact HB.out)⟩

/-- THE ONE PURE STATEMENT of kauditlaw04_PathPieces: yours. -/
def kauditlaw04_PathPieces.Pure : Prop := ∀ (a0 : ByteArray), a0.size ≤ 140737488351232 → ∃ k, kauditlaw04_PathPieces.f k a0 = some true
theorem kauditlaw04_PathPieces.walk (P : kauditlaw04_PathPieces.Pure) (a0 : ByteArray) (w : World) (w0 : a0.size ≤ 140737488351232) :
    Calls Tryd.prog 6 #[.string a0] w fun e w' => e = .returned (.bool true) ∧ Below w.heap.size w w' := by
  obtain ⟨k, h⟩ := P a0 w0
  refine (kauditlaw04_PathPieces.calls k a0 true w h).mono ?_
  rintro e w' ⟨rfl, hd⟩
  exact ⟨rfl, hd⟩

end Go.Proofs.YtnjabpgbpgocnaaDoor.PAll

-- PureA
/- Plain facts on lists of bytes: pieces between slashes, names, clean paths. No program in sight. -/
namespace Go.Proofs.YtnjabpgbpgocnaaDoor.PAll

/-- No slash among the bytes. -/
def Free (p : List UInt8) : Prop := ∀ b ∈ p, b ≠ 47

/-- A slash ahead of each piece. -/
def joinP (ps : List (List UInt8)) : List UInt8 := ps.flatMap fun p => 47 :: p

theorem joinP_nil : joinP [] = [] := rfl
theorem joinP_cons (p : List UInt8) (ps : List (List UInt8)) : joinP (p :: ps) = 47 :: (p ++ joinP ps) := by simp [joinP]
theorem joinP_append (ps qs : List (List UInt8)) : joinP (ps ++ qs) = joinP ps ++ joinP qs := by simp [joinP]
theorem joinP_single (p : List UInt8) : joinP [p] = 47 :: p := by simp [joinP]

theorem split_slash (l : List UInt8) : splitL [] (47 :: l) = [] :: splitL [] l := by simp [splitL]

theorem split_join : ∀ (ps : List (List UInt8)) (t : List UInt8), (∀ p ∈ ps, Free p) → splitL [] (joinP ps ++ 47 :: t) = [] :: (ps ++ splitL [] t)
  | [], t, _ => by rw [joinP_nil, List.nil_append, split_slash, List.nil_append]
  | p :: ps, t, h => by
    have ih := split_join ps t (fun q hq => h q (by simp [hq]))
    obtain ⟨r, hr⟩ : ∃ r, joinP ps ++ 47 :: t = 47 :: r := by
      cases ps with
      | nil => exact ⟨t, rfl⟩
      | cons q qs => exact ⟨_, by rw [joinP_cons]; rfl⟩
    rw [joinP_cons, List.cons_append, split_slash, List.append_assoc, hr, splitL_cut p r [] (h p (by simp)), List.nil_append]
    rw [hr, split_slash] at ih
    rw [(List.cons.inj ih).2]
    rfl

theorem split_join0 : ∀ (ps : List (List UInt8)), (∀ p ∈ ps, Free p) → splitL [] (joinP ps) = [] :: ps
  | [], _ => rfl
  | p :: ps, h => by
    have ih := split_join0 ps (fun q hq => h q (by simp [hq]))
    rw [joinP_cons, split_slash]
    cases ps with
    | nil => rw [joinP_nil, List.append_nil, splitL_free p [] (h p (by simp)), List.nil_append]
    | cons q qs =>
      rw [joinP_cons, split_slash] at ih
      rw [joinP_cons, splitL_cut p _ [] (h p (by simp)), List.nil_append, (List.cons.inj ih).2]

theorem join_split : ∀ (l cur : List UInt8), joinP (splitL cur l) = 47 :: (cur ++ l)
  | [], cur => by simp [splitL, joinP]
  | b :: l, cur => by
    by_cases hb : b = 47
    · rw [splitL, if_pos hb, joinP_cons, join_split l [], hb]
      simp
    · rw [splitL, if_neg hb, join_split l (cur ++ [b])]
      simp

theorem split_ne : ∀ (l cur : List UInt8), splitL cur l ≠ []
  | [], cur => by simp [splitL]
  | b :: l, cur => by
    by_cases hb : b = 47
    · simp [splitL, hb]
    · rw [splitL, if_neg hb]; exact split_ne l _

theorem split_free : ∀ (l cur : List UInt8), Free cur → ∀ p ∈ splitL cur l, Free p
  | [], cur, hc, p, hp => by
    simp only [splitL, List.mem_singleton] at hp
    rw [hp]; exact hc
  | b :: l, cur, hc, p, hp => by
    by_cases hb : b = 47
    · rw [splitL, if_pos hb] at hp
      rcases List.mem_cons.1 hp with rfl | hp
      · exact hc
      · exact split_free l [] (fun _ h => by cases h) p hp
    · rw [splitL, if_neg hb] at hp
      refine split_free l (cur ++ [b]) (fun x hx => ?_) p hp
      rcases List.mem_append.1 hx with hx | hx
      · exact hc x hx
      · rw [List.mem_singleton.1 hx]; exact hb

theorem free_nil : Free [] := fun _ h => by cases h

theorem joinP_inj {ps qs : List (List UInt8)} (hp : ∀ p ∈ ps, Free p) (hq : ∀ p ∈ qs, Free p) (h : joinP ps = joinP qs) : ps = qs := by
  have h1 := split_join0 ps hp
  rw [h, split_join0 qs hq] at h1
  exact (List.cons.inj h1).2.symm

/-- The pieces that are not empty. -/
theorem pieces_filter (l : List UInt8) : piecesL [] l = (splitL [] l).filter fun p => decide (p ≠ []) := piecesL_eq l []

theorem pieces_free (l : List UInt8) : ∀ p ∈ piecesL [] l, Free p := fun p hp => by
  rw [pieces_filter] at hp
  exact split_free l [] free_nil p (List.mem_filter.1 hp).1
theorem pieces_ne (l : List UInt8) : ∀ p ∈ piecesL [] l, p ≠ [] := fun p hp => by
  rw [pieces_filter] at hp
  simpa using (List.mem_filter.1 hp).2

theorem pieces_join {ps : List (List UInt8)} (hf : ∀ p ∈ ps, Free p) (hn : ∀ p ∈ ps, p ≠ []) : piecesL [] (joinP ps) = ps := by
  rw [pieces_filter, split_join0 ps hf, List.filter_cons_of_neg (by simp)]
  exact List.filter_eq_self.2 fun p hp => by simpa using hn p hp

theorem pieces_slash : piecesL [] [47] = [] := rfl

/-- A name: 1 to 12 bytes, not '.' nor '..', no slash and no zero byte. -/
def nameL (p : List UInt8) : Bool := decide (p ≠ [] ∧ p.length ≤ 12 ∧ p ≠ [46] ∧ p ≠ [46, 46]) && !(p.any badByte)

theorem nameL_ne {p : List UInt8} (h : nameL p = true) : p ≠ [] := by
  rw [nameL, Bool.and_eq_true, decide_eq_true_eq] at h
  exact h.1.1
theorem nameL_len {p : List UInt8} (h : nameL p = true) : p.length ≤ 12 := by
  rw [nameL, Bool.and_eq_true, decide_eq_true_eq] at h
  exact h.1.2.1
theorem nameL_free {p : List UInt8} (h : nameL p = true) : Free p := by
  rw [nameL, Bool.and_eq_true, Bool.not_eq_true'] at h
  intro b hb e
  have := List.any_eq_false.1 h.2 b hb
  rw [e] at this
  exact this (by decide)
theorem nameL_nil : nameL [] = false := by decide

/-- A clean path: a slash, or names with a slash ahead of each. -/
def cleanL (l : List UInt8) : Bool := l == [47] || (l.head? == some 47 && (splitL [] l.tail).all nameL)

theorem clean_join {ps : List (List UInt8)} (h0 : ps ≠ []) (h : ∀ p ∈ ps, nameL p = true) : cleanL (joinP ps) = true := by
  have hs := split_join0 ps (fun p hp => nameL_free (h p hp))
  cases ps with
  | nil => exact absurd rfl h0
  | cons p ps =>
    rw [joinP_cons] at hs ⊢
    rw [split_slash] at hs
    rw [cleanL, List.head?_cons, List.tail_cons, (List.cons.inj hs).2]
    simp only [beq_self_eq_true, Bool.true_and, Bool.or_eq_true]
    exact .inr (List.all_eq_true.2 h)

theorem clean_iff (l : List UInt8) : cleanL l = true ↔ l = [47] ∨ ∃ ps, ps ≠ [] ∧ (∀ p ∈ ps, nameL p = true) ∧ l = joinP ps := by
  constructor
  · intro h
    rw [cleanL, Bool.or_eq_true, Bool.and_eq_true, beq_iff_eq, beq_iff_eq] at h
    rcases h with h | ⟨h1, h2⟩
    · exact .inl h
    · refine .inr ⟨splitL [] l.tail, split_ne _ _, List.all_eq_true.1 h2, ?_⟩
      cases l with
      | nil => cases h1
      | cons b l =>
        rw [List.head?_cons] at h1
        rw [Option.some.inj h1, List.tail_cons, join_split]
        rfl
  · rintro (rfl | ⟨ps, h0, h, rfl⟩)
    · rfl
    · exact clean_join h0 h

/-- What the reference asks: the pieces are names, and the text is made of them. -/
theorem clean_pieces (l : List UInt8) : cleanL l = ((piecesL [] l).all nameL && (l == [47] || (decide (piecesL [] l ≠ []) && l == joinP (piecesL [] l)))) := by
  rw [Bool.eq_iff_iff]
  constructor
  · intro h
    rcases (clean_iff l).1 h with rfl | ⟨ps, h0, hn, rfl⟩
    · rfl
    · have hp := pieces_join (fun p hp => nameL_free (hn p hp)) (fun p hp => nameL_ne (hn p hp))
      rw [hp]
      simp only [Bool.and_eq_true, Bool.or_eq_true, beq_self_eq_true, decide_eq_true_eq, and_true]
      exact ⟨List.all_eq_true.2 hn, .inr h0⟩
  · intro h
    rw [Bool.and_eq_true, Bool.or_eq_true, Bool.and_eq_true, decide_eq_true_eq, beq_iff_eq, beq_iff_eq] at h
    obtain ⟨h1, h2 | ⟨h2, h3⟩⟩ := h
    · rw [h2]; rfl
    · rw [h3]
      exact clean_join h2 (List.all_eq_true.1 h1)

/-- The names of a clean path. -/
theorem clean_names {l : List UInt8} (h : cleanL l = true) : ∀ p ∈ piecesL [] l, nameL p = true := by
  rw [clean_pieces, Bool.and_eq_true] at h
  exact List.all_eq_true.1 h.1

theorem clean_is {l : List UInt8} (h : cleanL l = true) (hne : l ≠ [47]) : piecesL [] l ≠ [] ∧ l = joinP (piecesL [] l) := by
  rw [clean_pieces, Bool.and_eq_true, Bool.or_eq_true, Bool.and_eq_true, decide_eq_true_eq, beq_iff_eq, beq_iff_eq] at h
  rcases h.2 with h | h
  · exact absurd h hne
  · exact h

theorem joinP_last {ps : List (List UInt8)} {n : List UInt8} (hn : Free n) (h0 : n ≠ []) : (joinP (ps ++ [n])).getLast? ≠ some 47 := by
  rw [joinP_append, joinP_single]
  intro h
  have : (joinP ps ++ 47 :: n).getLast? = n.getLast? := by
    rcases List.eq_nil_or_concat n with rfl | ⟨m, b, rfl⟩
    · exact absurd rfl h0
    · rw [List.concat_eq_append, ← List.cons_append, ← List.append_assoc, List.getLast?_concat, List.getLast?_concat]
  rw [this] at h
  exact hn 47 (List.mem_of_getLast? h) rfl

end Go.Proofs.YtnjabpgbpgocnaaDoor.PAll

-- PAllx6
namespace Go.Proofs.YtnjabpgbpgocnaaDoor.PAll
open Go.RowKit Go.Proofs.YtnjabpgbpgocnaaDoorW.PrintWords Go.Proofs.YtnjabpgbpgocnaaDoorW.PrintLast Go.Proofs.YtnjabpgbpgocnaaDoorW.PrintMore
attribute [local go_sem] max2_int min2_int max_two min_two max_three min_three max_four min_four   -- for this text's walks alone
set_option linter.unusedVariables false
set_option linter.unusedSimpArgs false

/-! ### stringslite_HasSuffix: function 39 -/
def stringslite_HasSuffix.f (a0 : ByteArray) (a1 : ByteArray) : Option (Bool) := if (a0.size : Int) ≥ (a1.size : Int) then (if 0 ≤ (wrap64 ((a0.size : Int) - (a1.size : Int))) then (if (wrap64 ((a0.size : Int) - (a1.size : Int))) ≤ (a0.size : Int) then (some ((a0.extract ((wrap64 ((a0.size : Int) - (a1.size : Int))) : Int).toNat a0.size).toList == a1.toList)) else (none)) else (none)) else (some false)
set_option maxHeartbeats 8000000 in
set_option maxRecDepth 100000 in
theorem stringslite_HasSuffix.calls (a0 : ByteArray) (a1 : ByteArray) (r : Bool) (w : World) (h : stringslite_HasSuffix.f a0 a1 = some r) :
    Calls Tryd.prog 39 #[.string a0, .string a1] w fun e w' => e = .returned (.bool r) ∧ Drawn0 w w' := by
  have H : (if (a0.size : Int) ≥ (a1.size : Int) then (if 0 ≤ (wrap64 ((a0.size : Int) - (a1.size : Int))) then (if (wrap64 ((a0.size : Int) - (a1.size : Int))) ≤ (a0.size : Int) then (some ((a0.extract ((wrap64 ((a0.size : Int) - (a1.size : Int))) : Int).toNat a0.size).toList == a1.toList)) else (none)) else (none)) else (some false)) = some r := h
  clear h
  by_cases c3 : (a0.size : Int) ≥ (a1.size : Int)
  · rw [if_pos c3] at H
    have c3b0 : decide ((a1.size : Int) ≤ (a0.size : Int)) = true := decide_eq_true c3
    have c3b1 : decide (a1.size ≤ a0.size) = true := decide_eq_true (Int.ofNat_le.mp c3)
    clear c3
    obtain ⟨ji4, hji4⟩ : ∃ j_ : Int, (wrap64 ((a0.size : Int) - (a1.size : Int))) = j_ := ⟨_, rfl⟩
    replace H : (if 0 ≤ (ji4) then (if (ji4) ≤ (a0.size : Int) then (some ((a0.extract ((ji4) : Int).toNat a0.size).toList == a1.toList)) else (none)) else (none)) = some r := by first | (rw [hji4] at H; exact H) | (simp only [hji4] at H ⊢; exact H)
    have hji4w : (IntKind.i64.wrap ((a0.size : Int) - (a1.size : Int))) = ji4 := (i64_w _).trans hji4
    by_cases c5 : 0 ≤ (ji4)
    · rw [if_pos c5] at H
      have c5b0 := eq_true c5
      have c5b1 : decide (0 ≤ (ji4)) = true := decide_eq_true c5
      clear c5
      by_cases c6 : (ji4) ≤ (a0.size : Int)
      · rw [if_pos c6] at H
        have c6b0 := eq_true c6
        have c6b1 : decide ((ji4) ≤ (a0.size : Int)) = true := decide_eq_true c6
        clear c6
        obtain rfl := Option.some.inj H
        go_enter Tryd.func39, Tryd.ntmps39
        go_wp2
        go_ret
        exact ⟨by first | rfl | (simp; done) | (simp only [← hji4] <;> (first | rfl | simp)) | (simp [*]; done), by repeat (first | exact Drawn0.refl _ | apply Drawn0.step)⟩
      · rw [if_neg c6] at H
        exact absurd H (by simp)
    · rw [if_neg c5] at H
      exact absurd H (by simp)
  · rw [if_neg c3] at H
    have c3b0 : decide ((a1.size : Int) ≤ (a0.size : Int)) = false := decide_eq_false c3
    have c3b1 : decide (a1.size ≤ a0.size) = false := decide_eq_false (fun h => c3 (Int.ofNat_le.mpr h))
    clear c3
    obtain rfl := Option.some.inj H
    go_enter Tryd.func39, Tryd.ntmps39
    go_wp2
    go_ret
    exact ⟨by first | rfl | (simp; done) | (simp [*]; done), by repeat (first | exact Drawn0.refl _ | apply Drawn0.step)⟩

end Go.Proofs.YtnjabpgbpgocnaaDoor.PAll

-- PAllx7
namespace Go.Proofs.YtnjabpgbpgocnaaDoor.PAll
open Go.RowKit Go.Proofs.YtnjabpgbpgocnaaDoorW.PrintWords Go.Proofs.YtnjabpgbpgocnaaDoorW.PrintLast Go.Proofs.YtnjabpgbpgocnaaDoorW.PrintMore
attribute [local go_sem] max2_int min2_int max_two min_two max_three min_three max_four min_four   -- for this text's walks alone
set_option linter.unusedVariables false
set_option linter.unusedSimpArgs false

/-! ### strings_HasSuffix: function 27 -/
def strings_HasSuffix.f (a0 : ByteArray) (a1 : ByteArray) : Option (Bool) := (stringslite_HasSuffix.f a0 a1).bind fun t119 => (some t119)
set_option maxHeartbeats 8000000 in
set_option maxRecDepth 100000 in
theorem strings_HasSuffix.calls (a0 : ByteArray) (a1 : ByteArray) (r : Bool) (w : World) (h : strings_HasSuffix.f a0 a1 = some r) :
    Calls Tryd.prog 27 #[.string a0, .string a1] w fun e w' => e = .returned (.bool r) ∧ Drawn0 w w' := by
  have H : ((stringslite_HasSuffix.f a0 a1).bind fun t119 => (some t119)) = some r := h
  clear h
  replace H := Option.bind_eq_some_iff.mp H
  obtain ⟨t119, A30, H⟩ := H
  replace H : (some t119) = some r := H
  have A3 := Aside0.mk A30
  clear A30
  obtain rfl := Option.some.inj H
  go_enter Tryd.func27, Tryd.ntmps27
  go_wp2_with (first | ((with_reducible refine gate_callee (f := 39) rfl ?_); refine goesL_ (some 7) rfl rfl Tryd.func39 (by kernel_rfl) rfl #[.string a0, .string a1] rfl (by (try simp only [List.map_toArray, List.map_cons, List.map_nil]); first | done | rfl | (simp only [List.length_drop, List.length_take]; rfl)) ?_; (with_reducible refine (stringslite_HasSuffix.calls a0 a1 t119 _ A3.out).mono ?_); rintro e w' ⟨rfl, ⟨nd, rfl⟩⟩; refine ⟨_, rfl, ?_⟩))
  go_ret
  exact ⟨by first | rfl | (simp; done) | (simp [*]; done), by repeat (first | exact Drawn0.refl _ | apply Drawn0.step)⟩

end Go.Proofs.YtnjabpgbpgocnaaDoor.PAll

-- PAllx8
namespace Go.Proofs.YtnjabpgbpgocnaaDoor.PAll
open Go.RowKit Go.Proofs.YtnjabpgbpgocnaaDoorW.PrintWords Go.Proofs.YtnjabpgbpgocnaaDoorW.PrintLast Go.Proofs.YtnjabpgbpgocnaaDoorW.PrintMore
attribute [local go_sem] max2_int min2_int max_two min_two max_three min_three max_four min_four   -- for this text's walks alone
set_option linter.unusedVariables false
set_option linter.unusedSimpArgs false

/-! ### path_Join: function 13 -/
def path_Join.f (a0 : ByteArray) (a1 : ByteArray) : Option (ByteArray) := (strings_HasSuffix.f a0 (⟨#[47]⟩ : ByteArray)).bind fun t120 => (if t120 = true then (if a0.size + a1.size ≤ 9223372036854775807 then (some (a0 ++ a1)) else (none)) else (if a0.size + 1 ≤ 9223372036854775807 then (if (a0 ++ (⟨#[47]⟩ : ByteArray)).size + a1.size ≤ 9223372036854775807 then (some ((a0 ++ (⟨#[47]⟩ : ByteArray)) ++ a1)) else (none)) else (none)))
set_option maxHeartbeats 8000000 in
set_option maxRecDepth 100000 in
theorem path_Join.calls (a0 : ByteArray) (a1 : ByteArray) (r : ByteArray) (w : World) (h : path_Join.f a0 a1 = some r) :
    Calls Tryd.prog 13 #[.string a0, .string a1] w fun e w' => e = .returned (.string r) ∧ Drawn0 w w' := by
  have H : ((strings_HasSuffix.f a0 (⟨#[47]⟩ : ByteArray)).bind fun t120 => (if t120 = true then (if a0.size + a1.size ≤ 9223372036854775807 then (some (a0 ++ a1)) else (none)) else (if a0.size + 1 ≤ 9223372036854775807 then (if (a0 ++ (⟨#[47]⟩ : ByteArray)).size + a1.size ≤ 9223372036854775807 then (some ((a0 ++ (⟨#[47]⟩ : ByteArray)) ++ a1)) else (none)) else (none)))) = some r := h
  clear h
  replace H := Option.bind_eq_some_iff.mp H
  obtain ⟨t120, A30, H⟩ := H
  replace H : (if t120 = true then (if a0.size + a1.size ≤ 9223372036854775807 then (some (a0 ++ a1)) else (none)) else (if a0.size + 1 ≤ 9223372036854775807 then (if (a0 ++ (⟨#[47]⟩ : ByteArray)).size + a1.size ≤ 9223372036854775807 then (some ((a0 ++ (⟨#[47]⟩ : ByteArray)) ++ a1)) else (none)) else (none))) = some r := H
  have A3 := Aside0.mk A30
  clear A30
  by_cases c4 : t120 = true
  · subst c4
    have H1 : (if a0.size + a1.size ≤ 9223372036854775807 then (some (a0 ++ a1)) else (none)) = some r := by rw [if_pos rfl] at H; exact H
    clear H
    have H := H1
    clear H1
    by_cases c5 : a0.size + a1.size ≤ 9223372036854775807
    · rw [if_pos c5] at H
      have c5b0 := eq_true c5
      have c5b1 : decide (a0.size + a1.size ≤ 9223372036854775807) = true := decide_eq_true c5
      try have c5b2 : (9223372036854775807 < a0.size + a1.size) = False := eq_false (Nat.not_lt.2 c5)
      obtain rfl := Option.some.inj H
      go_enter Tryd.func13, Tryd.ntmps13
      go_wp2_with (first | ((with_reducible refine gate_callee (f := 27) rfl ?_); refine goesL_ (some 6) rfl rfl Tryd.func27 (by kernel_rfl) rfl #[.string a0, .string (⟨#[47]⟩ : ByteArray)] rfl (by (try simp only [List.map_toArray, List.map_cons, List.map_nil]); first | done | rfl | (simp only [List.length_drop, List.length_take]; rfl)) ?_; (with_reducible refine (strings_HasSuffix.calls a0 (⟨#[47]⟩ : ByteArray) true _ A3.out).mono ?_); rintro e w' ⟨rfl, ⟨nd, rfl⟩⟩; refine ⟨_, rfl, ?_⟩))
      go_ret
      exact ⟨by first | rfl | (simp; done) | (simp [*]; done), by repeat (first | exact Drawn0.refl _ | apply Drawn0.step)⟩
    · rw [if_neg c5] at H
      exact absurd H (by simp)
  · replace c4 := Bool.eq_false_iff.mpr c4
    subst c4
    have H1 : (if a0.size + 1 ≤ 9223372036854775807 then (if (a0 ++ (⟨#[47]⟩ : ByteArray)).size + a1.size ≤ 9223372036854775807 then (some ((a0 ++ (⟨#[47]⟩ : ByteArray)) ++ a1)) else (none)) else (none)) = some r := by rw [if_neg (show ¬ (false = true) by decide)] at H; exact H
    clear H
    have H := H1
    clear H1
    by_cases c6 : a0.size + 1 ≤ 9223372036854775807
    · rw [if_pos c6] at H
      have c6b0 := eq_true c6
      have c6b1 : decide (a0.size + 1 ≤ 9223372036854775807) = true := decide_eq_true c6
      try have c6b2 : (9223372036854775807 < a0.size + 1) = False := eq_false (Nat.not_lt.2 c6)
      by_cases c7 : (a0 ++ (⟨#[47]⟩ : ByteArray)).size + a1.size ≤ 9223372036854775807
      · rw [if_pos c7] at H
        have c7b0 := eq_true c7
        have c7b1 : decide ((a0 ++ (⟨#[47]⟩ : ByteArray)).size + a1.size ≤ 9223372036854775807) = true := decide_eq_true c7
        try have c7b2 : (9223372036854775807 < (a0 ++ (⟨#[47]⟩ : ByteArray)).size + a1.size) = False := eq_false (Nat.not_lt.2 c7)
        obtain rfl := Option.some.inj H
        go_enter Tryd.func13, Tryd.ntmps13
        go_wp2_with (first | ((with_reducible refine gate_callee (f := 27) rfl ?_); refine goesL_ (some 6) rfl rfl Tryd.func27 (by kernel_rfl) rfl #[.string a0, .string (⟨#[47]⟩ : ByteArray)] rfl (by (try simp only [List.map_toArray, List.map_cons, List.map_nil]); first | done | rfl | (simp only [List.length_drop, List.length_take]; rfl)) ?_; (with_reducible refine (strings_HasSuffix.calls a0 (⟨#[47]⟩ : ByteArray) false _ A3.out).mono ?_); rintro e w' ⟨rfl, ⟨nd, rfl⟩⟩; refine ⟨_, rfl, ?_⟩))
        go_ret
        exact ⟨by first | rfl | (simp; done) | (simp [*]; done), by repeat (first | exact Drawn0.refl _ | apply Drawn0.step)⟩
      · rw [if_neg c7] at H
        exact absurd H (by simp)
    · rw [if_neg c6] at H
      exact absurd H (by simp)

end Go.Proofs.YtnjabpgbpgocnaaDoor.PAll

-- PAllx31
namespace Go.Proofs.YtnjabpgbpgocnaaDoor.PAll
open Go.RowKit Go.Proofs.YtnjabpgbpgocnaaDoorW.PrintWords Go.Proofs.YtnjabpgbpgocnaaDoorW.PrintLast Go.Proofs.YtnjabpgbpgocnaaDoorW.PrintMore
attribute [local go_sem] max2_int min2_int max_two min_two max_three min_three max_four min_four   -- for this text's walks alone
set_option linter.unusedVariables false
set_option linter.unusedSimpArgs false

/-! ### strings_HasPrefix: function 28 -/
def strings_HasPrefix.f (a0 : ByteArray) (a1 : ByteArray) : Option (Bool) := (stringslite_HasPrefix.f a0 a1).bind fun t139 => (some t139)
set_option maxHeartbeats 8000000 in
set_option maxRecDepth 100000 in
theorem strings_HasPrefix.calls (a0 : ByteArray) (a1 : ByteArray) (r : Bool) (w : World) (h : strings_HasPrefix.f a0 a1 = some r) :
    Calls Tryd.prog 28 #[.string a0, .string a1] w fun e w' => e = .returned (.bool r) ∧ Drawn0 w w' := by
  have H : ((stringslite_HasPrefix.f a0 a1).bind fun t139 => (some t139)) = some r := h
  clear h
  replace H := Option.bind_eq_some_iff.mp H
  obtain ⟨t139, A30, H⟩ := H
  replace H : (some t139) = some r := H
  have A3 := Aside0.mk A30
  clear A30
  obtain rfl := Option.some.inj H
  go_enter Tryd.func28, Tryd.ntmps28
  go_wp2_with (first | ((with_reducible refine gate_callee (f := 40) rfl ?_); refine goesL_ (some 7) rfl rfl Tryd.func40 (by kernel_rfl) rfl #[.string a0, .string a1] rfl (by (try simp only [List.map_toArray, List.map_cons, List.map_nil]); first | done | rfl | (simp only [List.length_drop, List.length_take]; rfl)) ?_; (with_reducible refine (stringslite_HasPrefix.calls a0 a1 t139 _ A3.out).mono ?_); rintro e w' ⟨rfl, ⟨nd, rfl⟩⟩; refine ⟨_, rfl, ?_⟩))
  go_ret
  exact ⟨by first | rfl | (simp; done) | (simp [*]; done), by repeat (first | exact Drawn0.refl _ | apply Drawn0.step)⟩

end Go.Proofs.YtnjabpgbpgocnaaDoor.PAll

-- PAllx32
namespace Go.Proofs.YtnjabpgbpgocnaaDoor.PAll
open Go.RowKit Go.Proofs.YtnjabpgbpgocnaaDoorW.PrintWords Go.Proofs.YtnjabpgbpgocnaaDoorW.PrintLast Go.Proofs.YtnjabpgbpgocnaaDoorW.PrintMore
attribute [local go_sem] max2_int min2_int max_two min_two max_three min_three max_four min_four   -- for this text's walks alone
set_option linter.unusedVariables false
set_option linter.unusedSimpArgs false

/-! ### path_Under: function 14 -/
def path_Under.f (k : Nat) (a0 : ByteArray) (a1 : ByteArray) : Option (Bool) := (path_Clean.f k a0).bind fun t140 => (if t140 = true then ((path_Clean.f k a1).bind fun t141 => (if t141 = true then (if a0.toList = a1.toList then (some true) else ((path_Join.f a0 (⟨#[]⟩ : ByteArray)).bind fun t142 => ((strings_HasPrefix.f a1 t142).bind fun t143 => (some t143)))) else (some false))) else (some false))
theorem path_Under.mono : ∀ a0 a1 k, LeO (path_Under.f k a0 a1) (path_Under.f (k + 1) a0 a1) := by
  intro a0 a1 k
  unfold path_Under.f
  repeat' first
      | (with_reducible exact path_Clean.mono _ _)
      | (with_reducible exact LeO.refl _)
      | (with_reducible exact LeO.none _)
      | (with_reducible refine LeO.ite ?_ ?_)
      | (with_reducible refine LeO.bind ?_ (fun _ => ?_))
      | exact path_Clean.mono _ _
      | exact LeO.none _
      | refine LeO.ite ?_ ?_
      | refine LeO.bind ?_ (fun _ => ?_)
set_option maxHeartbeats 8000000 in
set_option maxRecDepth 100000 in
theorem path_Under.calls (k : Nat) (a0 : ByteArray) (a1 : ByteArray) (r : Bool) (w : World) (h : path_Under.f k a0 a1 = some r) :
    Calls Tryd.prog 14 #[.string a0, .string a1] w fun e w' => e = .returned (.bool r) ∧ Below w.heap.size w w' := by
  have HB := Aside0.mk (Below.refl w.heap.size w)
  have H : ((path_Clean.f k a0).bind fun t140 => (if t140 = true then ((path_Clean.f k a1).bind fun t141 => (if t141 = true then (if a0.toList = a1.toList then (some true) else ((path_Join.f a0 (⟨#[]⟩ : ByteArray)).bind fun t142 => ((strings_HasPrefix.f a1 t142).bind fun t143 => (some t143)))) else (some false))) else (some false))) = some r := h
  clear h
  replace H := Option.bind_eq_some_iff.mp H
  obtain ⟨t140, A30, H⟩ := H
  replace H : (if t140 = true then ((path_Clean.f k a1).bind fun t141 => (if t141 = true then (if a0.toList = a1.toList then (some true) else ((path_Join.f a0 (⟨#[]⟩ : ByteArray)).bind fun t142 => ((strings_HasPrefix.f a1 t142).bind fun t143 => (some t143)))) else (some false))) else (some false)) = some r := H
  have A3 := Aside0.mk A30
  clear A30
  by_cases c4 : t140 = true
  · subst c4
    have H1 : ((path_Clean.f k a1).bind fun t141 => (if t141 = true then (if a0.toList = a1.toList then (some true) else ((path_Join.f a0 (⟨#[]⟩ : ByteArray)).bind fun t142 => ((strings_HasPrefix.f a1 t142).bind fun t143 => (some t143)))) else (some false))) = some r := by rw [if_pos rfl] at H; exact H
    clear H
    have H := H1
    clear H1
    replace H := Option.bind_eq_some_iff.mp H
    obtain ⟨t141, A50, H⟩ := H
    replace H : (if t141 = true then (if a0.toList = a1.toList then (some true) else ((path_Join.f a0 (⟨#[]⟩ : ByteArray)).bind fun t142 => ((strings_HasPrefix.f a1 t142).bind fun t143 => (some t143)))) else (some false)) = some r := H
    have A5 := Aside0.mk A50
    clear A50
    by_cases c6 : t141 = true
    · subst c6
      have H1 : (if a0.toList = a1.toList then (some true) else ((path_Join.f a0 (⟨#[]⟩ : ByteArray)).bind fun t142 => ((strings_HasPrefix.f a1 t142).bind fun t143 => (some t143)))) = some r := by rw [if_pos rfl] at H; exact H
      clear H
      have H := H1
      clear H1
      by_cases c7 : a0.toList = a1.toList
      · rw [if_pos c7] at H
        have c7b0 : (a0.toList == a1.toList) = true := beq_iff_eq.mpr c7
        have c7b1 : (a0.toList != a1.toList) = false := bne_eq_false_iff_eq.mpr c7
        clear c7
        obtain rfl := Option.some.inj H
        go_enter Tryd.func14, Tryd.ntmps14
        go_wp2_with (first | ((with_reducible refine gate_callee (f := 17) rfl ?_); refine goesL_ (some 6) rfl rfl Tryd.func17 (by kernel_rfl) rfl #[.string a0] rfl (by (try simp only [List.map_toArray, List.map_cons, List.map_nil]); first | done | rfl | (simp only [List.length_drop, List.length_take]; rfl)) ?_; (with_reducible refine (path_Clean.calls k a0 true _ A3.out).mono ?_); rintro e w8 ⟨rfl, hb⟩; refine ⟨_, rfl, ?_⟩; have n0_ := Aside0.mk (below_step (by repeat (first | (with_reducible first | exact HB.out | apply below_alloc | apply pw_below_drewN | apply below_drew1) | exact HB.out)) hb); clear HB; have HB := n0_; clear n0_; (try clear hb); (try clear hb2); (try clear hk); (try clear hi)) | (go_at_call 17; (with_reducible refine (path_Clean.calls k a1 true _ A5.out).mono ?_); rintro e w9 ⟨rfl, hb⟩; have n0_ := Aside0.mk (below_step (by repeat (first | (with_reducible first | exact HB.out | apply below_alloc | apply pw_below_drewN | apply below_drew1) | exact HB.out)) hb); clear HB; have HB := n0_; clear n0_; (try clear hb); (try clear hb2); (try clear hk); (try clear hi)))
        go_ret
        exact ⟨by first | rfl | (simp [errW_none, errW_some] <;> rfl) | (simp [*, errW_none, errW_some] <;> rfl), by repeat (first | (with_reducible first | exact HB.out | apply below_alloc | apply pw_below_drewN | apply below_drew1) | exact HB.out)⟩
      · rw [if_neg c7] at H
        have c7b0 : (a0.toList == a1.toList) = false := beq_eq_false_iff_ne.mpr c7
        have c7b1 : (a0.toList != a1.toList) = true := bne_iff_ne.mpr c7
        replace H := Option.bind_eq_some_iff.mp H
        obtain ⟨t142, A100, H⟩ := H
        replace H : ((strings_HasPrefix.f a1 t142).bind fun t143 => (some t143)) = some r := H
        have A10 := Aside0.mk A100
        clear A100
        replace H := Option.bind_eq_some_iff.mp H
        obtain ⟨t143, A110, H⟩ := H
        replace H : (some t143) = some r := H
        have A11 := Aside0.mk A110
        clear A110
        obtain rfl := Option.some.inj H
        go_enter Tryd.func14, Tryd.ntmps14
        go_wp2_with (first | ((with_reducible refine gate_callee (f := 17) rfl ?_); refine goesL_ (some 6) rfl rfl Tryd.func17 (by kernel_rfl) rfl #[.string a0] rfl (by (try simp only [List.map_toArray, List.map_cons, List.map_nil]); first | done | rfl | (simp only [List.length_drop, List.length_take]; rfl)) ?_; (with_reducible refine (path_Clean.calls k a0 true _ A3.out).mono ?_); rintro e w12 ⟨rfl, hb⟩; refine ⟨_, rfl, ?_⟩; have n0_ := Aside0.mk (below_step (by repeat (first | (with_reducible first | exact HB.out | apply below_alloc | apply pw_below_drewN | apply below_drew1) | exact HB.out)) hb); clear HB; have HB := n0_; clear n0_; (try clear hb); (try clear hb2); (try clear hk); (try clear hi)) | (go_at_call 17; (with_reducible refine (path_Clean.calls k a1 true _ A5.out).mono ?_); rintro e w13 ⟨rfl, hb⟩; have n0_ := Aside0.mk (below_step (by repeat (first | (with_reducible first | exact HB.out | apply below_alloc | apply pw_below_drewN | apply below_drew1) | exact HB.out)) hb); clear HB; have HB := n0_; clear n0_; (try clear hb); (try clear hb2); (try clear hk); (try clear hi)) | (go_at_call 13; (with_reducible refine (path_Join.calls a0 (⟨#[]⟩ : ByteArray) t142 _ A10.out).mono ?_); rintro e w' ⟨rfl, ⟨nd, rfl⟩⟩) | (go_at_call 28; (with_reducible refine (strings_HasPrefix.calls a1 t142 t143 _ A11.out).mono ?_); rintro e w' ⟨rfl, ⟨nd, rfl⟩⟩))
        go_ret
        exact ⟨by first | rfl | (simp [errW_none, errW_some] <;> rfl) | (simp [*, errW_none, errW_some] <;> rfl), by repeat (first | (with_reducible first | exact HB.out | apply below_alloc | apply pw_below_drewN | apply below_drew1) | exact HB.out)⟩
    · replace c6 := Bool.eq_false_iff.mpr c6
      subst c6
      have H1 : (some false) = some r := by rw [if_neg (show ¬ (false = true) by decide)] at H; exact H
      clear H
      have H := H1
      clear H1
      obtain rfl := Option.some.inj H
      go_enter Tryd.func14, Tryd.ntmps14
      go_wp2_with (first | ((with_reducible refine gate_callee (f := 17) rfl ?_); refine goesL_ (some 6) rfl rfl Tryd.func17 (by kernel_rfl) rfl #[.string a0] rfl (by (try simp only [List.map_toArray, List.map_cons, List.map_nil]); first | done | rfl | (simp only [List.length_drop, List.length_take]; rfl)) ?_; (with_reducible refine (path_Clean.calls k a0 true _ A3.out).mono ?_); rintro e w14 ⟨rfl, hb⟩; refine ⟨_, rfl, ?_⟩; have n0_ := Aside0.mk (below_step (by repeat (first | (with_reducible first | exact HB.out | apply below_alloc | apply pw_below_drewN | apply below_drew1) | exact HB.out)) hb); clear HB; have HB := n0_; clear n0_; (try clear hb); (try clear hb2); (try clear hk); (try clear hi)) | (go_at_call 17; (with_reducible refine (path_Clean.calls k a1 false _ A5.out).mono ?_); rintro e w15 ⟨rfl, hb⟩; have n0_ := Aside0.mk (below_step (by repeat (first | (with_reducible first | exact HB.out | apply below_alloc | apply pw_below_drewN | apply below_drew1) | exact HB.out)) hb); clear HB; have HB := n0_; clear n0_; (try clear hb); (try clear hb2); (try clear hk); (try clear hi)))
      go_ret
      exact ⟨by first | rfl | (simp [errW_none, errW_some] <;> rfl) | (simp [*, errW_none, errW_some] <;> rfl), by repeat (first | (with_reducible first | exact HB.out | apply below_alloc | apply pw_below_drewN | apply below_drew1) | exact HB.out)⟩
  · replace c4 := Bool.eq_false_iff.mpr c4
    subst c4
    have H1 : (some false) = some r := by rw [if_neg (show ¬ (false = true) by decide)] at H; exact H
    clear H
    have H := H1
    clear H1
    obtain rfl := Option.some.inj H
    go_enter Tryd.func14, Tryd.ntmps14
    go_wp2_with (first | ((with_reducible refine gate_callee (f := 17) rfl ?_); refine goesL_ (some 6) rfl rfl Tryd.func17 (by kernel_rfl) rfl #[.string a0] rfl (by (try simp only [List.map_toArray, List.map_cons, List.map_nil]); first | done | rfl | (simp only [List.length_drop, List.length_take]; rfl)) ?_; (with_reducible refine (path_Clean.calls k a0 false _ A3.out).mono ?_); rintro e w16 ⟨rfl, hb⟩; refine ⟨_, rfl, ?_⟩; have n0_ := Aside0.mk (below_step (by repeat (first | (with_reducible first | exact HB.out | apply below_alloc | apply pw_below_drewN | apply below_drew1) | exact HB.out)) hb); clear HB; have HB := n0_; clear n0_; (try clear hb); (try clear hb2); (try clear hk); (try clear hi)))
    go_ret
    exact ⟨by first | rfl | (simp [errW_none, errW_some] <;> rfl) | (simp [*, errW_none, errW_some] <;> rfl), by repeat (first | (with_reducible first | exact HB.out | apply below_alloc | apply pw_below_drewN | apply below_drew1) | exact HB.out)⟩

end Go.Proofs.YtnjabpgbpgocnaaDoor.PAll

-- PureB
/- What the program's path functions compute, in plain words on lists of bytes. Condition: texts shorter than 2^32 bytes. -/
namespace Go.Proofs.YtnjabpgbpgocnaaDoor.PAll
open Go Go.RowKit Go.Proofs.YtnjabpgbpgocnaaDoorW.PrintWords Go.Proofs.YtnjabpgbpgocnaaDoorW.PrintLast Go.Proofs.YtnjabpgbpgocnaaDoorW.PrintMore
set_option linter.unusedVariables false
set_option linter.unusedSimpArgs false

theorem size_len (s : ByteArray) : s.size = s.data.toList.length := by rw [Array.length_toList]; rfl
theorem ba_ext {a b : ByteArray} (h : a.data.toList = b.data.toList) : a = b := by rw [← ofL_data a, ← ofL_data b, h]
theorem ofL_list (l : List UInt8) : (ofL l).data.toList = l := by simp [ofL]
theorem ofL_size (l : List UInt8) : (ofL l).size = l.length := by rw [size_len, ofL_list]
theorem app_list (a b : ByteArray) : (a ++ b).data.toList = a.data.toList ++ b.data.toList := by simp
theorem nil_list : (⟨#[]⟩ : ByteArray).data.toList = [] := rfl
theorem slash_list : (⟨#[47]⟩ : ByteArray).data.toList = [47] := rfl
theorem extract0_list (s : ByteArray) (n : Nat) : (s.extract 0 n).data.toList = s.data.toList.take n := by rw [Lib.extract_data]; simp
theorem extract1_list (s : ByteArray) (n : Nat) : (s.extract n s.size).data.toList = s.data.toList.drop n := Lib.extract_to_end s n

theorem bt_get (s : ByteArray) (i : Nat) (h : i < s.data.toList.length) : bt s (i : Int) = ((s.data.toList[i]'h).toNat : Int) := by
  have h' : i < s.size := by rw [size_len]; exact h
  unfold bt
  rw [dif_pos (by simpa using h')]
  rfl

theorem name_eq (s : ByteArray) : path_Name.f s = some (nameL s.data.toList) := by
  have hz := size_len s
  unfold path_Name.f
  rw [Lib.toList_data]
  by_cases h0 : s.data.toList = []
  · rw [if_pos h0, h0, nameL_nil]
  rw [if_neg h0]
  by_cases h12 : s.data.toList.length ≤ 12
  · rw [if_pos (by omega)]
    by_cases h1 : s.data.toList = [46]
    · rw [if_pos h1, h1]; rfl
    rw [if_neg h1]
    by_cases h2 : s.data.toList = [46, 46]
    · rw [if_pos h2, h2]; rfl
    rw [if_neg h2, strings_ContainsAny.f, if_pos ⟨rfl, by omega⟩, Option.bind_some, nameL, decide_eq_true ⟨h0, h12, h1, h2⟩, Bool.true_and]
  · rw [if_neg (by omega), nameL, decide_eq_false (fun h => h12 h.2.1), Bool.false_and]

theorem cut_none (s : ByteArray) (h : Lib.indexByte s.data.toList 47 = -1) : strings_Cut.f s ⟨#[47]⟩ = some (s, ⟨#[]⟩, false) := by
  unfold strings_Cut.f stringslite_Cut.f stringslite_Index.f
  rw [if_pos rfl, h]
  rfl

theorem cut_some (s : ByteArray) (o : Nat) (hs : s.size < 4294967296) (h : Lib.indexByte s.data.toList 47 = o) (ho : o < s.size) :
    strings_Cut.f s ⟨#[47]⟩ = some (s.extract 0 o, s.extract (o + 1) s.size, true) := by
  unfold strings_Cut.f stringslite_Cut.f stringslite_Index.f
  have e : wrap64 ((o : Int) + (((⟨#[47]⟩ : ByteArray).size : Nat) : Int)) = ((o + 1 : Nat) : Int) := by
    have : (⟨#[47]⟩ : ByteArray).size = 1 := rfl
    rw [this]; unfold wrap64; omega
  rw [if_pos rfl, h, Option.bind_some, if_pos (by omega), if_pos (by omega), if_pos (by omega), e, if_pos (by omega), if_pos (by omega)]
  rfl

theorem index_lt {s : ByteArray} {o : Nat} (h : Lib.indexByte s.data.toList 47 = o) : o < s.size := by
  have h1 := (Lib.indexByte_some h).1
  by_cases hlt : o < s.data.toList.length
  · rw [size_len]; exact hlt
  · rw [List.getElem?_eq_none (by omega)] at h1; cases h1

theorem clean_loop : ∀ (n : Nat) (r : ByteArray) (k : Nat), r.size ≤ n → r.size < 4294967296 → 3 * n + 3 ≤ k → path_Clean.l0 k r true = some ((splitL [] r.data.toList).all nameL) := by
  intro n
  induction n using Nat.strongRecOn with
  | ind n ih =>
    intro r k hn hs hk
    obtain ⟨k, rfl⟩ : ∃ j, k = j + 3 := ⟨k - 3, by omega⟩
    rw [path_Clean.l0, if_pos rfl, path_Clean.j1, Lib.toList_data]
    by_cases h0 : r.data.toList = []
    · rw [h0]; rfl
    have hb : (r.data.toList != []) = true := by simpa using h0
    rw [hb, if_pos rfl]
    have hge := Lib.indexByte_ge r.data.toList 47
    by_cases hi : Lib.indexByte r.data.toList 47 = -1
    · rw [cut_none r hi, Option.bind_some, name_eq, Option.bind_some, splitL_index_none hi]
      cases hname : nameL r.data.toList
      · simp [path_Clean.j2, hname]
      · simp [path_Clean.j2, hname]
    · obtain ⟨o, ho⟩ : ∃ o : Nat, Lib.indexByte r.data.toList 47 = o := ⟨(Lib.indexByte r.data.toList 47).toNat, by omega⟩
      have hlt := index_lt ho
      have hsz : (r.extract (o + 1) r.size).size < r.size := by
        rw [size_len, extract1_list, List.length_drop, ← size_len]; omega
      rw [cut_some r o hs ho hlt, Option.bind_some, name_eq, Option.bind_some, splitL_index_some ho, extract0_list]
      cases hname : nameL (r.data.toList.take o)
      · simp [path_Clean.j2, hname]
      · rw [if_pos rfl, if_pos rfl, Lib.toList_data, extract1_list, path_Clean.j2, List.all_cons, hname, Bool.true_and]
        by_cases ha : r.data.toList.drop (o + 1) = []
        · rw [ha]; rfl
        · have hb2 : (r.data.toList.drop (o + 1) == []) = false := by simpa using ha
          rw [hb2, if_neg (by simp), if_pos rfl, ih (n - 1) (by omega) (r.extract (o + 1) r.size) k (by omega) (by omega) (by omega), extract1_list]

theorem cutPrefix_yes (s : ByteArray) (h : s.data.toList.head? = some 47) : strings_CutPrefix.f s ⟨#[47]⟩ = some (s.extract 1 s.size, true) := by
  have h1 : 1 ≤ s.size := by
    rw [size_len]
    cases hl : s.data.toList with
    | nil => rw [hl] at h; cases h
    | cons a l => simp
  have e1 : (⟨#[47]⟩ : ByteArray).size = 1 := rfl
  have e2 : ((s.extract 0 1).toList == (⟨#[47]⟩ : ByteArray).toList) = true := by
    have := first_of s h1
    rw [Lib.toList_data (⟨#[47]⟩ : ByteArray), slash_list, this, decide_eq_true h]
  unfold strings_CutPrefix.f stringslite_CutPrefix.f stringslite_HasPrefix.f
  rw [e1, if_pos (by omega), if_pos (by omega), if_pos (by omega)]
  simp only [Option.bind_some]
  rw [show ((1 : Nat) : Int).toNat = 1 from rfl, e2, if_pos rfl, if_pos (by omega), if_pos (by omega)]
  rfl

theorem cutPrefix_no (s : ByteArray) (h : s.data.toList.head? ≠ some 47) : strings_CutPrefix.f s ⟨#[47]⟩ = some (s, false) := by
  have e1 : (⟨#[47]⟩ : ByteArray).size = 1 := rfl
  unfold strings_CutPrefix.f stringslite_CutPrefix.f stringslite_HasPrefix.f
  rw [e1]
  by_cases h1 : 1 ≤ s.size
  · have e2 : ((s.extract 0 1).toList == (⟨#[47]⟩ : ByteArray).toList) = false := by
      have := first_of s h1
      rw [Lib.toList_data (⟨#[47]⟩ : ByteArray), slash_list, this, decide_eq_false h]
    rw [if_pos (by omega), if_pos (by omega), if_pos (by omega)]
    simp only [Option.bind_some]
    rw [show ((1 : Nat) : Int).toNat = 1 from rfl, e2]
    rfl
  · rw [if_neg (by omega)]
    rfl

theorem pathClean_eq (s : ByteArray) (k : Nat) (hs : s.size < 4294967296) (hk : 3 * s.size + 3 ≤ k) : path_Clean.f k s = some (cleanL s.data.toList) := by
  unfold path_Clean.f
  rw [Lib.toList_data]
  by_cases h1 : s.data.toList = [47]
  · rw [if_pos h1, h1]; rfl
  rw [if_neg h1]
  have hb : (s.data.toList == [47]) = false := by simpa using h1
  by_cases h2 : s.data.toList.head? = some 47
  · have hz : (s.extract 1 s.size).size ≤ s.size := by rw [size_len, extract1_list, List.length_drop, ← size_len]; omega
    rw [cutPrefix_yes s h2, Option.bind_some, clean_loop s.size _ k hz (by omega) hk, cleanL, hb, Bool.false_or, h2, extract1_list, List.drop_one]
    simp
  · obtain ⟨k, rfl⟩ : ∃ j, k = j + 2 := ⟨k - 2, by omega⟩
    have h3 : (s.data.toList.head? == some 47) = false := by simpa using h2
    rw [cutPrefix_no s h2, Option.bind_some, path_Clean.l0, if_neg (by simp), path_Clean.j1, if_neg (by simp), cleanL, hb, h3]
    rfl

/-- A slash is put between only where the first does not end with one. -/
def joinL (a b : List UInt8) : List UInt8 := if a.getLast? = some 47 then a ++ b else a ++ 47 :: b

theorem hasSuffix_eq (s : ByteArray) (hs : s.size < 4294967296) : strings_HasSuffix.f s ⟨#[47]⟩ = some (decide (s.data.toList.getLast? = some 47)) := by
  have e1 : (⟨#[47]⟩ : ByteArray).size = 1 := rfl
  unfold strings_HasSuffix.f stringslite_HasSuffix.f
  rw [e1]
  by_cases h1 : 1 ≤ s.size
  · have e : wrap64 ((s.size : Int) - ((1 : Nat) : Int)) = ((s.size - 1 : Nat) : Int) := by unfold wrap64; omega
    rw [if_pos (by omega), e, if_pos (by omega), if_pos (by omega), Option.bind_some, Int.toNat_natCast, Lib.toList_data (⟨#[47]⟩ : ByteArray), slash_list, last_of]
  · have hl : s.data.toList = [] := List.length_eq_zero_iff.1 (by rw [← size_len]; omega)
    rw [if_neg (by omega), hl]
    rfl

theorem pathJoin_eq (a b : ByteArray) (ha : a.size < 4294967296) (hb : b.size < 4294967296) : path_Join.f a b = some (ofL (joinL a.data.toList b.data.toList)) := by
  have e1 : (⟨#[47]⟩ : ByteArray).size = 1 := rfl
  unfold path_Join.f
  rw [hasSuffix_eq a ha, Option.bind_some, joinL]
  by_cases h : a.data.toList.getLast? = some 47
  · rw [if_pos (decide_eq_true h), if_pos (by omega), if_pos h]
    exact congrArg some (ba_ext (by rw [app_list, ofL_list]))
  · rw [if_neg (by simpa using h), if_pos (by omega), if_pos (by rw [ByteArray.size_append, e1]; omega), if_neg h]
    exact congrArg some (ba_ext (by rw [app_list, app_list, ofL_list, slash_list]; simp))

end Go.Proofs.YtnjabpgbpgocnaaDoor.PAll

-- PureC
/- path.Parent, path.Under and path.Split in plain words on lists of bytes. Condition: texts shorter than 2^32 bytes. -/
namespace Go.Proofs.YtnjabpgbpgocnaaDoor.PAll
open Go Go.RowKit Go.Proofs.YtnjabpgbpgocnaaDoorW.PrintWords Go.Proofs.YtnjabpgbpgocnaaDoorW.PrintLast Go.Proofs.YtnjabpgbpgocnaaDoorW.PrintMore
set_option linter.unusedVariables false
set_option linter.unusedSimpArgs false

theorem split_eq (s : ByteArray) (hs : s.size < 4294967296) : path_Split.f s = some (piecesOf s, firstSlash s, lastSlash s) := by
  unfold path_Split.f
  rw [if_pos hs]

theorem last_loop (s : ByteArray) (a n : List UInt8) (hl : s.data.toList = a ++ 47 :: n) (hf : Free n) (hs : s.size < 4294967296) :
    ∀ (d k : Nat), a.length + d < s.size → d + 1 ≤ k → bytealg_LastIndexByteString.l0 k s 47 ((a.length + d : Nat) : Int) = some ((a.length : Nat) : Int) := by
  intro d
  induction d with
  | zero =>
    intro k hi hk
    obtain ⟨k, rfl⟩ : ∃ j, k = j + 1 := ⟨k - 1, by omega⟩
    have hlt : a.length + 0 < s.data.toList.length := by rw [← size_len]; exact hi
    have hb : bt s ((a.length + 0 : Nat) : Int) = 47 := by
      rw [bt_get s _ hlt]
      have : s.data.toList[a.length + 0]'hlt = 47 := by
        simp only [hl, Nat.add_zero]
        rw [List.getElem_append_right (Nat.le_refl _)]
        simp
      rw [this]; rfl
    rw [bytealg_LastIndexByteString.l0, if_pos (by omega), if_pos (by omega), if_pos (by omega), if_pos hb]
    rfl
  | succ d ih =>
    intro k hi hk
    obtain ⟨k, rfl⟩ : ∃ j, k = j + 1 := ⟨k - 1, by omega⟩
    have hlt : a.length + (d + 1) < s.data.toList.length := by rw [← size_len]; exact hi
    have hb : bt s ((a.length + (d + 1) : Nat) : Int) ≠ 47 := by
      rw [bt_get s _ hlt]
      have hd : d < n.length := by rw [hl] at hlt; simp at hlt; omega
      have : s.data.toList[a.length + (d + 1)]'hlt = n[d]'hd := by
        simp only [hl]
        rw [List.getElem_append_right (by omega)]
        simp
      rw [this]
      intro e
      refine hf _ (List.getElem_mem hd) ?_
      rw [← UInt8.toNat_inj]
      exact Int.ofNat.inj e
    have e : wrap64 (((a.length + (d + 1) : Nat) : Int) - 1) = ((a.length + d : Nat) : Int) := by unfold wrap64; omega
    rw [bytealg_LastIndexByteString.l0, if_pos (by omega), if_pos (by omega), if_pos (by omega), if_neg hb, e, ih k (by omega) (by omega)]

theorem lastIndex_eq (s : ByteArray) (a n : List UInt8) (hl : s.data.toList = a ++ 47 :: n) (hf : Free n) (hs : s.size < 4294967296) (k : Nat) (hk : s.size ≤ k) :
    strings_LastIndex.f k s ⟨#[47]⟩ = some ((a.length : Nat) : Int) := by
  have e1 : (⟨#[47]⟩ : ByteArray).size = 1 := rfl
  have hz : s.size = a.length + n.length + 1 := by rw [size_len, hl]; simp; omega
  have e2 : bt ⟨#[47]⟩ 0 = 47 := rfl
  have e : wrap64 ((s.size : Int) - 1) = ((a.length + n.length : Nat) : Int) := by unfold wrap64; omega
  unfold strings_LastIndex.f bytealg_LastIndexByteString.f
  rw [e1, if_neg (by omega), if_pos (by omega), if_pos (by omega), e2, e, last_loop s a n hl hf hs n.length k (by omega) (by omega)]
  rfl

/-- The directory and the last name of a clean path that is not the root. -/
def parentL (l : List UInt8) : List UInt8 × List UInt8 × Bool :=
  if cleanL l = true ∧ l ≠ [47] then (if (piecesL [] l).dropLast = [] then [47] else joinP (piecesL [] l).dropLast, (piecesL [] l).getLast?.getD [], true) else ([], [], false)

theorem parentL_no {l : List UInt8} (h : ¬ (cleanL l = true ∧ l ≠ [47])) : parentL l = ([], [], false) := by rw [parentL, if_neg h]
theorem parentL_join {qs : List (List UInt8)} {n : List UInt8} (h : ∀ p ∈ qs ++ [n], nameL p = true) :
    parentL (joinP (qs ++ [n])) = (if qs = [] then [47] else joinP qs, n, true) := by
  have hc := clean_join (ps := qs ++ [n]) (by simp) h
  have hp := pieces_join (ps := qs ++ [n]) (fun p hp => nameL_free (h p hp)) (fun p hp => nameL_ne (h p hp))
  have hne : joinP (qs ++ [n]) ≠ [47] := by
    intro e
    have := pieces_slash
    rw [← e, hp] at this
    simp at this
  rw [parentL, if_pos ⟨hc, hne⟩, hp, List.dropLast_concat, List.getLast?_concat]
  rfl

/-- A clean path that is not the root: the names ahead of the last, and the last. -/
theorem clean_snoc {l : List UInt8} (h : cleanL l = true) (hne : l ≠ [47]) : ∃ qs n, (∀ p ∈ qs ++ [n], nameL p = true) ∧ l = joinP (qs ++ [n]) := by
  obtain ⟨h1, h2⟩ := clean_is h hne
  have h3 := clean_names h
  rcases List.eq_nil_or_concat (piecesL [] l) with e | ⟨qs, n, e⟩
  · exact absurd e h1
  · rw [List.concat_eq_append] at e
    rw [e] at h2 h3
    exact ⟨qs, n, h3, h2⟩

theorem pathParent_eq (s : ByteArray) (k : Nat) (hs : s.size < 4294967296) (hk : 3 * s.size + 3 ≤ k) :
    path_Parent.f k s = some (ofL (parentL s.data.toList).1, ofL (parentL s.data.toList).2.1, (parentL s.data.toList).2.2) := by
  unfold path_Parent.f
  rw [Lib.toList_data]
  by_cases h1 : s.data.toList = [47]
  · rw [if_pos h1, parentL_no (fun h => h.2 h1)]; rfl
  rw [if_neg h1, pathClean_eq s k hs hk, Option.bind_some]
  by_cases hc : cleanL s.data.toList = true
  · obtain ⟨qs, n, hn, hl⟩ := clean_snoc hc h1
    have hl' : s.data.toList = joinP qs ++ 47 :: n := by rw [hl, joinP_append, joinP_single]
    have hfn : Free n := nameL_free (hn n (by simp))
    have hz : s.size = (joinP qs).length + n.length + 1 := by rw [size_len, hl']; simp; omega
    rw [if_pos hc, lastIndex_eq s _ n hl' hfn hs k (by omega), Option.bind_some]
    have e2 : wrap64 (((joinP qs).length : Int) + 1) = (((joinP qs).length + 1 : Nat) : Int) := by unfold wrap64; omega
    have e3 : mx ((joinP qs).length : Int) 1 = ((if qs = [] then 1 else (joinP qs).length : Nat) : Int) := by
      unfold mx
      cases qs with
      | nil => rfl
      | cons q qs =>
        have hq : 1 ≤ (joinP (q :: qs)).length := by rw [joinP_cons]; simp
        rw [if_neg (by omega), if_neg (by simp)]
    have hle : (if qs = [] then 1 else (joinP qs).length : Nat) ≤ s.size := by split <;> omega
    have hpar : parentL s.data.toList = (if qs = [] then [47] else joinP qs, n, true) := by rw [hl]; exact parentL_join hn
    rw [e3, e2, if_pos (by omega), if_pos (by omega), if_pos (by omega), if_pos (by omega), hpar]
    refine congrArg some (Prod.ext ?_ (Prod.ext ?_ rfl))
    · refine ba_ext ?_
      rw [ofL_list, Int.toNat_natCast, extract0_list, hl']
      show List.take _ _ = if qs = [] then [47] else joinP qs
      cases qs with
      | nil => rfl
      | cons q qs => rw [if_neg (by simp), if_neg (by simp), List.take_left]
    · refine ba_ext ?_
      rw [ofL_list, Int.toNat_natCast, extract1_list, hl']
      show List.drop _ _ = n
      rw [show joinP qs ++ 47 :: n = (joinP qs ++ [47]) ++ n by simp]
      exact List.drop_left' (by simp)
  · rw [if_neg hc, parentL_no (fun h => hc h.1)]; rfl

/-- The names of the second begin with those of the first. -/
def underL (a b : List UInt8) : Bool := cleanL a && cleanL b && (piecesL [] a).isPrefixOf (piecesL [] b)

theorem hasPrefix_eq (s t : ByteArray) : strings_HasPrefix.f s t = some (t.data.toList.isPrefixOf s.data.toList) := by
  unfold strings_HasPrefix.f stringslite_HasPrefix.f
  have hs := size_len s
  have ht := size_len t
  have key : ((s.extract 0 t.size).toList == t.toList) = true ↔ t.data.toList <+: s.data.toList := by
    rw [beq_iff_eq, Lib.toList_data, Lib.toList_data, extract0_list, ht, List.prefix_iff_eq_take]
    exact eq_comm
  by_cases h : t.size ≤ s.size
  · rw [if_pos (by omega), if_pos (by omega), if_pos (by omega), Int.toNat_natCast]
    refine congrArg some ?_
    rw [Bool.eq_iff_iff, key, List.isPrefixOf_iff_prefix]
  · rw [if_neg (by omega)]
    refine congrArg some ?_
    symm
    rw [Bool.eq_false_iff, ne_eq, List.isPrefixOf_iff_prefix]
    intro hp
    have := hp.length_le
    omega

theorem joinP_ne_slash {ps : List (List UInt8)} (hn : ∀ p ∈ ps, nameL p = true) (h0 : ps ≠ []) : joinP ps ≠ [47] := by
  intro e
  have hp := pieces_join (fun p hp => nameL_free (hn p hp)) (fun p hp => nameL_ne (hn p hp))
  rw [e, pieces_slash] at hp
  exact h0 hp.symm

theorem joinL_clean {ps : List (List UInt8)} (hn : ∀ p ∈ ps, nameL p = true) (h0 : ps ≠ []) (b : List UInt8) : joinL (joinP ps) b = joinP ps ++ 47 :: b := by
  rcases List.eq_nil_or_concat ps with e | ⟨qs, n, e⟩
  · exact absurd e h0
  · rw [List.concat_eq_append] at e
    have hnn := hn n (by rw [e]; simp)
    rw [joinL, if_neg (by rw [e]; exact joinP_last (nameL_free hnn) (nameL_ne hnn))]

theorem under_plain {a b : List UInt8} (ha : cleanL a = true) (hb : cleanL b = true) : (a = b ∨ joinL a [] <+: b) ↔ piecesL [] a <+: piecesL [] b := by
  rcases (clean_iff a).1 ha with rfl | ⟨ps, h0, hn, rfl⟩
  · rw [pieces_slash]
    refine ⟨fun _ => List.nil_prefix, fun _ => .inr ?_⟩
    have e : joinL [47] [] = [47] := rfl
    rw [e]
    rcases (clean_iff b).1 hb with rfl | ⟨qs, k0, kn, rfl⟩
    · exact List.prefix_refl _
    · cases qs with
      | nil => exact absurd rfl k0
      | cons q qs => rw [joinP_cons]; exact ⟨_, rfl⟩
  · have hf : ∀ p ∈ ps, Free p := fun p hp => nameL_free (hn p hp)
    have he : ∀ p ∈ ps, p ≠ [] := fun p hp => nameL_ne (hn p hp)
    rw [joinL_clean hn h0, pieces_join hf he]
    rcases (clean_iff b).1 hb with rfl | ⟨qs, k0, kn, rfl⟩
    · rw [pieces_slash]
      constructor
      · rintro (e | hp)
        · exact absurd e (joinP_ne_slash hn h0)
        · have := hp.length_le
          have h1 : 1 ≤ (joinP ps).length := by
            cases ps with
            | nil => exact absurd rfl h0
            | cons q qs => rw [joinP_cons]; simp
          simp only [List.length_append, List.length_singleton] at this
          omega
      · intro hp
        exact absurd (List.prefix_nil.1 hp) h0
    · have kf : ∀ p ∈ qs, Free p := fun p hp => nameL_free (kn p hp)
      have ke : ∀ p ∈ qs, p ≠ [] := fun p hp => nameL_ne (kn p hp)
      rw [pieces_join kf ke]
      constructor
      · rintro (e | ⟨t, ht⟩)
        · rw [joinP_inj hf kf e]
          exact List.prefix_refl _
        · have h1 := split_join0 qs kf
          rw [← ht, List.append_assoc, List.singleton_append, split_join ps t hf] at h1
          exact ⟨_, (List.cons.inj h1).2⟩
      · rintro ⟨r, rfl⟩
        cases r with
        | nil => rw [List.append_nil]; exact .inl rfl
        | cons q r => exact .inr ⟨q ++ joinP r, by rw [joinP_append, joinP_cons]; simp⟩

theorem pathUnder_eq (a b : ByteArray) (k : Nat) (ha : a.size < 4294967296) (hb : b.size < 4294967296) (hka : 3 * a.size + 3 ≤ k) (hkb : 3 * b.size + 3 ≤ k) :
    path_Under.f k a b = some (underL a.data.toList b.data.toList) := by
  unfold path_Under.f
  rw [pathClean_eq a k ha hka, Option.bind_some, underL]
  by_cases hca : cleanL a.data.toList = true
  · rw [if_pos hca, pathClean_eq b k hb hkb, Option.bind_some]
    by_cases hcb : cleanL b.data.toList = true
    · have key := under_plain hca hcb
      rw [if_pos hcb, hca, hcb, Lib.toList_data, Lib.toList_data, Bool.true_and, Bool.true_and]
      by_cases e : a.data.toList = b.data.toList
      · rw [if_pos e]
        refine congrArg some ?_
        symm
        rw [List.isPrefixOf_iff_prefix]
        exact key.1 (.inl e)
      · rw [if_neg e, pathJoin_eq a ⟨#[]⟩ ha (by decide), Option.bind_some, hasPrefix_eq, Option.bind_some, ofL_list, nil_list]
        refine congrArg some ?_
        rw [Bool.eq_iff_iff, List.isPrefixOf_iff_prefix, List.isPrefixOf_iff_prefix]
        exact ⟨fun h => key.1 (.inr h), fun h => (key.2 h).resolve_left e⟩
    · rw [if_neg hcb, Bool.eq_false_iff.2 hcb, Bool.and_false, Bool.false_and]
  · rw [if_neg hca, Bool.eq_false_iff.2 hca, Bool.false_and, Bool.false_and]

end Go.Proofs.YtnjabpgbpgocnaaDoor.PAll

-- PAllx1
namespace Go.Proofs.YtnjabpgbpgocnaaDoor.PAll
open Go.RowKit Go.Proofs.YtnjabpgbpgocnaaDoorW.PrintWords Go.Proofs.YtnjabpgbpgocnaaDoorW.PrintLast Go.Proofs.YtnjabpgbpgocnaaDoorW.PrintMore
attribute [local go_sem] max2_int min2_int max_two min_two max_three min_three max_four min_four   -- for this text's walks alone
set_option linter.unusedVariables false
set_option linter.unusedSimpArgs false

/-- A state of type 39 at block g of W; what its slices lead to came in by w0. -/
def IsS39 (w0 W : World) (g : Nat) (f0 : List Int) (f1 : Int) : Prop := ∃ A0 c0, W.heap[g]? = some (.cells #[.slice A0 f0.length c0, .int .i64 f1] 39 (0, 0)) ∧ w0.heap.size ≤ g ∧ Kd.C (Kd.int .i64) w0 A0 f0.length f0
theorem IsS39.grown {w0 W : World} {g : Nat} {f0 : List Int} {f1 : Int} {W1 : World} {row : Option Nat} (h : IsS39 w0 W g f0 f1) (hw : W.grownBy W1 row) (hne : some g ≠ row) : IsS39 w0 W1 g f0 f1 := by
  obtain ⟨A0, c0, hb, hg, hr0⟩ := h
  exact ⟨A0, c0, blk_grown hb hw hne, hg, hr0⟩
theorem IsS39.own_neN {w0 W : World} {g : Nat} {f0 : List Int} {f1 : Int} {α : Type} {d : Kd α} {e : Nat} {base : Nat} {ok : Nat → Prop} {v : Value} {xs : List α} (h : IsS39 w0 W g f0 f1) (ho : Kd.N d e W base ok v xs) (ht : e ≠ 39) : some g ≠ v.ownBlock := by
  obtain ⟨A0, c0, hb, hg, hr0⟩ := h
  exact Kd.N_ne ho hb ht
theorem IsS39.fresh {w0 W : World} {g : Nat} {f0 : List Int} {f1 : Int} (h : IsS39 w0 W g f0 f1) : ∀ k, W.heap.size ≤ k → k ≠ g := by
  obtain ⟨A0, c0, hb, hg, hr0⟩ := h
  exact Kd.freshB hb
theorem IsS39.kept {w0 W : World} {g : Nat} {f0 : List Int} {f1 : Int} {W1 : World} {S : Nat → Prop} (h : IsS39 w0 W g f0 f1) (hk : Kept W W1 S) (hne : ¬ S g) : IsS39 w0 W1 g f0 f1 := by
  obtain ⟨A0, c0, hb, hg, hr0⟩ := h
  exact ⟨A0, c0, blk_kept hb hk hne, hg, hr0⟩
theorem IsS39.below {w0 W : World} {g : Nat} {f0 : List Int} {f1 : Int} {W1 : World} (h : IsS39 w0 W g f0 f1) (hw : Below W.heap.size W W1) : IsS39 w0 W1 g f0 f1 := h.grown (grown_of_below hw none) (by simp)
theorem IsS39.alloc {w0 W : World} {g : Nat} {f0 : List Int} {f1 : Int} (h : IsS39 w0 W g f0 f1) (o : Obj) : IsS39 w0 (W.alloc o) g f0 f1 := h.below (below_alloc (Below.refl _ _) o)
theorem IsS39.drewN {w0 W : World} {g : Nat} {f0 : List Int} {f1 : Int} (h : IsS39 w0 W g f0 f1) (m : Nat) : IsS39 w0 (W.drewN m) g f0 f1 := h
theorem IsS39.drew {w0 W : World} {g : Nat} {f0 : List Int} {f1 : Int} (h : IsS39 w0 W g f0 f1) : IsS39 w0 W.drew g f0 f1 := h
theorem IsS39.at_ {w0 W : World} {g : Nat} {f0 : List Int} {f1 : Int} {w' : World} {m : Nat} (hq : W.drewN m = w') (h : IsS39 w0 W g f0 f1) : IsS39 w0 w' g f0 f1 := by subst hq; exact IsS39.drewN h m
theorem IsS39.apart {w0 W : World} {g : Nat} {f0 : List Int} {f1 : Int} {α : Type} {d : Kd α} {e : Nat} {base : Nat} {ok : Nat → Prop} {v : Value} {xs : List α} (h : IsS39 w0 W g f0 f1) (ho : d.R e W base ok v xs) (ht : ∀ q, q ∈ e :: d.E → q ≠ 39) : d.R e W base (fun k => ok k ∧ k ≠ g) v xs := by
  obtain ⟨A0, c0, hb, hg, hr0⟩ := h
  exact Kd.R_types ho hb ht
theorem IsS39.own_ne {w0 W : World} {g : Nat} {f0 : List Int} {f1 : Int} {α : Type} {d : Kd α} {e : Nat} {base : Nat} {ok : Nat → Prop} {v : Value} {xs : List α} (h : IsS39 w0 W g f0 f1) (ho : d.R e W base ok v xs) (ht : e ≠ 39) : some g ≠ v.ownBlock := by
  obtain ⟨A0, c0, hb, hg, hr0⟩ := h
  exact Kd.R_ne ho hb ht
theorem IsS39.apartQ {w0 W : World} {g : Nat} {f0 : List Int} {f1 : Int} {α : Type} {d : Kd α} {e : Nat} {base : Nat} {ok : Nat → Prop} {v : Value} {xs : List α} (h : IsS39 w0 W g f0 f1) (ho : d.Q e W base ok v xs) (ht : ∀ q, q ∈ e :: d.E → q ≠ 39) : d.Q e W base (fun k => ok k ∧ k ≠ g) v xs := by
  obtain ⟨A0, c0, hb, hg, hr0⟩ := h
  exact Kd.Q_types ho hb ht
theorem IsS39.own_neQ {w0 W : World} {g : Nat} {f0 : List Int} {f1 : Int} {α : Type} {d : Kd α} {e : Nat} {base : Nat} {ok : Nat → Prop} {v : Value} {xs : List α} (h : IsS39 w0 W g f0 f1) (ho : d.Q e W base ok v xs) (ht : e ≠ 39) : some g ≠ v.ownBlock := by
  obtain ⟨A0, c0, hb, hg, hr0⟩ := h
  exact Kd.Q_ne ho hb ht
theorem IsS39.apartS {w0 W : World} {g : Nat} {f0 : List Int} {f1 : Int} {α : Type} {d : Kd α} {e : Nat} {base : Nat} {ok : Nat → Prop} {v : Value} {xs : List α} (h : IsS39 w0 W g f0 f1) (ho : d.S e W base ok v xs) (ht : ∀ q, q ∈ e :: d.E → q ≠ 39) : d.S e W base (fun k => ok k ∧ k ≠ g) v xs := by
  obtain ⟨A0, c0, hb, hg, hr0⟩ := h
  exact Kd.S_types ho hb ht
theorem IsS39.own_neS {w0 W : World} {g : Nat} {f0 : List Int} {f1 : Int} {α : Type} {d : Kd α} {e : Nat} {base : Nat} {ok : Nat → Prop} {v : Value} {xs : List α} (h : IsS39 w0 W g f0 f1) (ho : d.S e W base ok v xs) (ht : e ≠ 39) : some g ≠ v.ownBlock := by
  obtain ⟨A0, c0, hb, hg, hr0⟩ := h
  exact Kd.S_ne ho hb ht
theorem IsS39.lt {w0 W : World} {g : Nat} {f0 : List Int} {f1 : Int} (h : IsS39 w0 W g f0 f1) : g < W.heap.size := by
  obtain ⟨A0, c0, hb, hg, hr0⟩ := h
  exact blk_lt hb
theorem IsS39.ge {w0 W : World} {g : Nat} {f0 : List Int} {f1 : Int} (h : IsS39 w0 W g f0 f1) : w0.heap.size ≤ g := by
  obtain ⟨A0, c0, hb, hg, hr0⟩ := h
  exact hg
theorem IsS39.ne_blk {w0 W : World} {g : Nat} {f0 : List Int} {f1 : Int} {a : Nat} {cs : Array Value} {t : TypeId} {fr : Nat × Nat} (h : IsS39 w0 W g f0 f1) (hb2 : W.heap[a]? = some (.cells cs t fr)) (ht : t ≠ 39) : g ≠ a := by
  obtain ⟨A0, c0, hb, hg, hr0⟩ := h
  rintro rfl
  rw [hb] at hb2
  injection hb2 with hb2
  injection hb2 with _ ht2
  exact ht ht2.symm
theorem IsS39.far {w0 W : World} {g : Nat} {f0 : List Int} {f1 : Int} {p : Addr} (h : IsS39 w0 W g f0 f1) (hne : g ≠ p.block) (u : Value) : IsS39 w0 (W.setCell p u) g f0 f1 := by
  obtain ⟨A0, c0, hb, hg, hr0⟩ := h
  exact ⟨A0, c0, blk_far hb hne u, hg, hr0⟩
theorem cellS39_0 {W : World} {g : Nat} {A0 : Option Addr} {c0 : Nat} {f0 : List Int} {f1 : Int} (h : W.heap[g]? = some (.cells #[.slice A0 f0.length c0, .int .i64 f1] 39 (0, 0))) : W.cell? ⟨g, 0, none⟩ = some (.slice A0 f0.length c0) := (blk_cell h 0).trans rfl
theorem cellS39_1 {W : World} {g : Nat} {A0 : Option Addr} {c0 : Nat} {f0 : List Int} {f1 : Int} (h : W.heap[g]? = some (.cells #[.slice A0 f0.length c0, .int .i64 f1] 39 (0, 0))) : W.cell? ⟨g, 1, none⟩ = some (.int .i64 f1) := (blk_cell h 1).trans rfl
theorem IsS39.set_1 {w0 W : World} {g : Nat} {f0 : List Int} {f1 : Int} (h : IsS39 w0 W g f0 f1) (x : Int) : IsS39 w0 (W.setCell ⟨g, 1, none⟩ (.int .i64 x)) g f0 x := by
  obtain ⟨A0, c0, hb, hg, hr0⟩ := h
  exact ⟨A0, c0, by simpa using blk_set hb 1 (.int .i64 x), hg, hr0⟩
theorem IsS39.new (w0 W : World) (A0 : Option Addr) (c0 : Nat) (f0 : List Int) (f1 : Int) (hB : Below w0.heap.size w0 W) (hr0 : Kd.C (Kd.int .i64) w0 A0 f0.length f0) : IsS39 w0 (W.alloc (.cells #[.slice A0 f0.length c0, .int .i64 f1] 39)) W.heap.size f0 f1 := ⟨A0, c0, by simpa using heap_alloc_new W _, hB.size, hr0⟩

/-! ### kauditmake_New: function 10 -/
def kauditmake_New.f (l0 : List Int) : Option (List Int × Int) := some (l0, 0)
set_option maxHeartbeats 8000000 in
set_option maxRecDepth 100000 in
theorem kauditmake_New.calls (A0 : Option Addr) (c0 : Nat) (l0 : List Int) (r1 : List Int) (r2 : Int) (w0 w : World) (hB : Below w0.heap.size w0 w) (hr0 : Kd.C (Kd.int .i64) w0 A0 l0.length l0) (hc0 : l0.length ≤ c0) (h : kauditmake_New.f l0 = some (r1, r2)) :
    Calls Tryd.prog 10 #[.slice A0 l0.length c0] w fun e w' => ∃ g_ : Nat, e = .returned (.pointer (some ⟨g_, 0, none⟩)) ∧ IsS39 w0 w' g_ r1 r2 ∧ Below w0.heap.size w0 w' ∧ Below w.heap.size w w' := by
  have hu39 := Tryd.underlying39
  have HR0 := Aside0.mk hr0
  have HC0 := Aside0.mk hc0
  clear hr0 hc0
  have HBW := Aside0.mk (Below.refl w.heap.size w)
  have HW0 := Aside0.mk hB.size
  have HB := Aside0.mk hB
  clear hB
  have H : (some (l0, 0)) = some (r1, r2) := h
  clear h
  simp only [Option.some.injEq, Prod.mk.injEq] at H
  obtain ⟨rfl, rfl⟩ := H
  go_enter Tryd.func10, Tryd.ntmps10
  go_wp2_with (first | ((with_reducible refine gate_dst (N := 5) rfl ?_); refine box_event ?hg (N := 5) ?hd (cs := #[.slice A0 l0.length c0, .int .i64 0]) (t := 39) ?hr ?_; (case hd => rfl); (case hg => rfl); (case hr => first | (go_simp; done) | (go_simp; rfl)); intro gb101 hg w2 hbox hb; have n0_ := Aside0.mk (below_step HBW.out hb); have n1_ := Aside0.mk (below_step (by repeat (first | (with_reducible first | exact HB.out | apply below_alloc | apply pw_below_drewN | apply below_drew1) | exact HB.out)) hb); have n2_ := Aside0.mk (hbox); have n3_ := Aside0.mk ((by rw [hg]; exact (below_size (by repeat (first | (with_reducible first | exact HBW.out | apply below_alloc | apply pw_below_drewN | apply below_drew1) | exact HBW.out))) : w.heap.size ≤ gb101)); have n4_ := Aside0.mk ((Nat.le_trans HW0.out (by rw [hg]; exact (below_size (by repeat (first | (with_reducible first | exact HBW.out | apply below_alloc | apply pw_below_drewN | apply below_drew1) | exact HBW.out))) : w.heap.size ≤ gb101) : w0.heap.size ≤ gb101)); clear HBW; clear HB; have HBW := n0_; have HB := n1_; have BK101 := n2_; have GW101 := n3_; have GE101 := n4_; clear n0_ n1_ n2_ n3_ n4_; clear hb hbox hg))
  go_ret
  exact ⟨_, rfl, (show IsS39 w0 _ gb101 l0 0 from ⟨_, _, by (with_reducible repeat (first | refine blk_drewN ?_ _ | refine blk_drew ?_ | refine blk_alloc ?_ _)); exact BK101.out, GE101.out, HR0.out⟩), by repeat (first | (with_reducible first | exact HB.out | apply below_alloc | apply pw_below_drewN | apply below_drew1 | refine below_set ?_ GE101.out) | exact HB.out), by repeat (first | (with_reducible first | exact HBW.out | apply below_alloc | apply pw_below_drewN | apply below_drew1 | refine below_set ?_ GW101.out) | exact HBW.out)⟩

end Go.Proofs.YtnjabpgbpgocnaaDoor.PAll

-- PAllx2
namespace Go.Proofs.YtnjabpgbpgocnaaDoor.PAll
open Go.RowKit Go.Proofs.YtnjabpgbpgocnaaDoorW.PrintWords Go.Proofs.YtnjabpgbpgocnaaDoorW.PrintLast Go.Proofs.YtnjabpgbpgocnaaDoorW.PrintMore
attribute [local go_sem] max2_int min2_int max_two min_two max_three min_three max_four min_four   -- for this text's walks alone
set_option linter.unusedVariables false
set_option linter.unusedSimpArgs false

/-! ### kauditmake_Src_N: function 12 -/
def kauditmake_Src_N.f (s0_0 : List Int) (s0_1 : Int) (a1 : Int) : Option (Int × Int) := if a1 < 1 then (some (0, s0_1)) else (if (wrap64 (s0_1 + 1)) ≤ (s0_0.length : Int) then (if 0 ≤ (wrap64 ((wrap64 (s0_1 + 1)) - 1)) then (if (wrap64 ((wrap64 (s0_1 + 1)) - 1)) < (s0_0.length : Int) then (if a1 = 0 then (none) else (if (Int.tmod (rd s0_0 (wrap64 ((wrap64 (s0_1 + 1)) - 1))) a1) < 0 then (some (wrap64 ((Int.tmod (rd s0_0 (wrap64 ((wrap64 (s0_1 + 1)) - 1))) a1) + a1), wrap64 (s0_1 + 1))) else (some (Int.tmod (rd s0_0 (wrap64 ((wrap64 (s0_1 + 1)) - 1))) a1, wrap64 (s0_1 + 1))))) else (none)) else (none)) else (if a1 = 0 then (none) else (if (Int.tmod (wrap64 ((wrap64 (s0_1 + 1)) * 7)) a1) < 0 then (some (wrap64 ((Int.tmod (wrap64 ((wrap64 (s0_1 + 1)) * 7)) a1) + a1), wrap64 (s0_1 + 1))) else (some (Int.tmod (wrap64 ((wrap64 (s0_1 + 1)) * 7)) a1, wrap64 (s0_1 + 1))))))
set_option maxHeartbeats 8000000 in
set_option maxRecDepth 100000 in
theorem kauditmake_Src_N.calls (g : Nat) (s0_0 : List Int) (s0_1 : Int) (a1 : Int) (r1 : Int) (r2 : Int) (w0 w : World) (hI : IsS39 w0 w g s0_0 s0_1) (hB : Below w0.heap.size w0 w) (h : kauditmake_Src_N.f s0_0 s0_1 a1 = some (r1, r2)) :
    Calls Tryd.prog 12 #[.pointer (some ⟨g, 0, none⟩), .int .i64 a1] w fun e w' => e = .returned (.int .i64 r1) ∧ IsS39 w0 w' g s0_0 r2 ∧ Below w0.heap.size w0 w' ∧ KeepBut w w' g none := by
  have HI0 := Aside0.mk hI
  have HK := Aside0.mk (KeepBut.refl w g none)
  have HL := Aside0.mk hB.size
  clear hI
  have HW0 := Aside0.mk hB.size
  have HB := Aside0.mk hB
  clear hB
  have H : (if a1 < 1 then (some (0, s0_1)) else (if (wrap64 (s0_1 + 1)) ≤ (s0_0.length : Int) then (if 0 ≤ (wrap64 ((wrap64 (s0_1 + 1)) - 1)) then (if (wrap64 ((wrap64 (s0_1 + 1)) - 1)) < (s0_0.length : Int) then (if a1 = 0 then (none) else (if (Int.tmod (rd s0_0 (wrap64 ((wrap64 (s0_1 + 1)) - 1))) a1) < 0 then (some (wrap64 ((Int.tmod (rd s0_0 (wrap64 ((wrap64 (s0_1 + 1)) - 1))) a1) + a1), wrap64 (s0_1 + 1))) else (some (Int.tmod (rd s0_0 (wrap64 ((wrap64 (s0_1 + 1)) - 1))) a1, wrap64 (s0_1 + 1))))) else (none)) else (none)) else (if a1 = 0 then (none) else (if (Int.tmod (wrap64 ((wrap64 (s0_1 + 1)) * 7)) a1) < 0 then (some (wrap64 ((Int.tmod (wrap64 ((wrap64 (s0_1 + 1)) * 7)) a1) + a1), wrap64 (s0_1 + 1))) else (some (Int.tmod (wrap64 ((wrap64 (s0_1 + 1)) * 7)) a1, wrap64 (s0_1 + 1))))))) = some (r1, r2) := h
  clear h
  by_cases c3 : a1 < 1
  · rw [if_pos c3] at H
    have c3b0 : decide (a1 < 1) = true := decide_eq_true c3
    clear c3
    simp only [Option.some.injEq, Prod.mk.injEq] at H
    obtain ⟨rfl, rfl⟩ := H
    go_enter Tryd.func12, Tryd.ntmps12
    go_wp2
    repeat (go_quiet (fail); try go_wp2)
    go_ret
    exact ⟨by first | rfl | (simp [errW_none, errW_some] <;> rfl) | (simp [*, errW_none, errW_some] <;> rfl), by repeat (first | (with_reducible first | exact HI0.out | apply IsS39.alloc | apply IsS39.drewN | apply IsS39.drew | apply IsS39.set_1) | exact HI0.out), by repeat (first | (with_reducible first | exact HB.out | apply below_alloc | apply pw_below_drewN | apply below_drew1 | refine below_set ?_ (IsS39.ge HI0.out)) | exact HB.out), by repeat (first | (with_reducible first | exact HK.out | apply KeepBut.set_ | apply keep_drewN | apply keep_drew | apply keep_alloc) | exact HK.out)⟩
  · rw [if_neg c3] at H
    have c3b0 : decide (a1 < 1) = false := decide_eq_false c3
    clear c3
    by_cases c4 : (wrap64 (s0_1 + 1)) ≤ (s0_0.length : Int)
    · rw [if_pos c4] at H
      have c4b0 : decide ((wrap64 (s0_1 + 1)) ≤ (s0_0.length : Int)) = true := decide_eq_true c4
      clear c4
      obtain ⟨ji5, hji5⟩ : ∃ j_ : Int, (wrap64 ((wrap64 (s0_1 + 1)) - 1)) = j_ := ⟨_, rfl⟩
      replace H : (if 0 ≤ (ji5) then (if (ji5) < (s0_0.length : Int) then (if a1 = 0 then (none) else (if (Int.tmod (rd s0_0 (ji5)) a1) < 0 then (some (wrap64 ((Int.tmod (rd s0_0 (ji5)) a1) + a1), wrap64 (s0_1 + 1))) else (some (Int.tmod (rd s0_0 (ji5)) a1, wrap64 (s0_1 + 1))))) else (none)) else (none)) = some (r1, r2) := by first | (rw [hji5] at H; exact H) | (simp only [hji5] at H ⊢; exact H)
      have hji5w : (IntKind.i64.wrap ((wrap64 (s0_1 + 1)) - 1)) = ji5 := (i64_w _).trans hji5
      by_cases c6 : 0 ≤ (ji5)
      · rw [if_pos c6] at H
        have c6b0 : decide (0 ≤ (ji5)) = true := decide_eq_true c6
        clear c6
        by_cases c7 : (ji5) < (s0_0.length : Int)
        · rw [if_pos c7] at H
          have c7b0 : decide ((ji5) < (s0_0.length : Int)) = true := decide_eq_true c7
          clear c7
          by_cases c8 : a1 = 0
          · rw [if_pos c8] at H
            exact absurd H (by simp)
          · rw [if_neg c8] at H
            have c8b0 : (a1 == 0) = false := beq_eq_false_iff_ne.mpr c8
            have c8b1 : (a1 != 0) = true := bne_iff_ne.mpr c8
            by_cases c9 : (Int.tmod (rd s0_0 (ji5)) a1) < 0
            · rw [if_pos c9] at H
              have c9b0 : decide ((Int.tmod (rd s0_0 (ji5)) a1) < 0) = true := decide_eq_true c9
              clear c9
              simp only [Option.some.injEq, Prod.mk.injEq] at H
              obtain ⟨rfl, rfl⟩ := H
              obtain ⟨ASz10_0, cSz10_0, HGz10, hgz10, HSz10_0⟩ := HI0.out
              have hcz10_0 := cellS39_0 HGz10
              have hcz10_1 := cellS39_1 HGz10
              have hfz10_1 := blk_frozen HGz10 1
              clear HGz10 hgz10
              have p102 : 0 ≤ ((ji5) : Int) := of_decide_eq_true (by first | (with_reducible assumption) | assumption)
              have q102 : (ji5) < (s0_0.length : Int) := of_decide_eq_true (by first | (with_reducible assumption) | assumption)
              obtain ⟨ad102, e102, hx102_0⟩ := Kd.at_int HSz10_0 (ji5) p102 q102
              cases e102
              have hn102_0 : ad102.block ≠ g := Nat.ne_of_lt (Nat.lt_of_lt_of_le (by have := World.block_lt_of_cell? _ _ hx102_0; first | rwa [add_block] at this | exact this) (IsS39.ge HI0.out))
              replace hx102_0 := pw_cell_below HB.out hx102_0
              replace hx102_0 := (cell_far (p := ⟨g, 1, none⟩) (by first | (rw [add_block]; exact hn102_0) | (show (Addr.add _ _).block ≠ _; rw [add_block]; exact hn102_0) | exact hn102_0) (.int .i64 (wrap64 (s0_1 + 1)))).trans hx102_0
              (try have hy102_0 := fun (n_ : Nat) => (show (((w.drewN n_).setCell ⟨g, 1, none⟩ (.int .i64 (wrap64 (s0_1 + 1))))).cell? _ = some _ from hx102_0))
              clear hn102_0
              replace p102 := eq_true p102
              replace q102 := eq_true q102
              go_enter Tryd.func12, Tryd.ntmps12
              go_wp2
              repeat (go_quiet (fail); try go_wp2)
              go_ret
              exact ⟨by first | rfl | (simp [errW_none, errW_some] <;> rfl) | (simp only [← hji5]; first | rfl | (simp [errW_none, errW_some] <;> rfl)) | (simp [*, errW_none, errW_some] <;> rfl), by repeat (first | (with_reducible first | exact HI0.out | apply IsS39.alloc | apply IsS39.drewN | apply IsS39.drew | apply IsS39.set_1) | exact HI0.out), by repeat (first | (with_reducible first | exact HB.out | apply below_alloc | apply pw_below_drewN | apply below_drew1 | refine below_set ?_ (IsS39.ge HI0.out)) | exact HB.out), by repeat (first | (with_reducible first | exact HK.out | apply KeepBut.set_ | apply keep_drewN | apply keep_drew | apply keep_alloc) | exact HK.out)⟩
            · rw [if_neg c9] at H
              have c9b0 : decide ((Int.tmod (rd s0_0 (ji5)) a1) < 0) = false := decide_eq_false c9
              clear c9
              simp only [Option.some.injEq, Prod.mk.injEq] at H
              obtain ⟨rfl, rfl⟩ := H
              obtain ⟨ASz11_0, cSz11_0, HGz11, hgz11, HSz11_0⟩ := HI0.out
              have hcz11_0 := cellS39_0 HGz11
              have hcz11_1 := cellS39_1 HGz11
              have hfz11_1 := blk_frozen HGz11 1
              clear HGz11 hgz11
              have p102 : 0 ≤ ((ji5) : Int) := of_decide_eq_true (by first | (with_reducible assumption) | assumption)
              have q102 : (ji5) < (s0_0.length : Int) := of_decide_eq_true (by first | (with_reducible assumption) | assumption)
              obtain ⟨ad102, e102, hx102_0⟩ := Kd.at_int HSz11_0 (ji5) p102 q102
              cases e102
              have hn102_0 : ad102.block ≠ g := Nat.ne_of_lt (Nat.lt_of_lt_of_le (by have := World.block_lt_of_cell? _ _ hx102_0; first | rwa [add_block] at this | exact this) (IsS39.ge HI0.out))
              replace hx102_0 := pw_cell_below HB.out hx102_0
              replace hx102_0 := (cell_far (p := ⟨g, 1, none⟩) (by first | (rw [add_block]; exact hn102_0) | (show (Addr.add _ _).block ≠ _; rw [add_block]; exact hn102_0) | exact hn102_0) (.int .i64 (wrap64 (s0_1 + 1)))).trans hx102_0
              (try have hy102_0 := fun (n_ : Nat) => (show (((w.drewN n_).setCell ⟨g, 1, none⟩ (.int .i64 (wrap64 (s0_1 + 1))))).cell? _ = some _ from hx102_0))
              clear hn102_0
              replace p102 := eq_true p102
              replace q102 := eq_true q102
              go_enter Tryd.func12, Tryd.ntmps12
              go_wp2
              repeat (go_quiet (fail); try go_wp2)
              go_ret
              exact ⟨by first | rfl | (simp [errW_none, errW_some] <;> rfl) | (simp only [← hji5]; first | rfl | (simp [errW_none, errW_some] <;> rfl)) | (simp [*, errW_none, errW_some] <;> rfl), by repeat (first | (with_reducible first | exact HI0.out | apply IsS39.alloc | apply IsS39.drewN | apply IsS39.drew | apply IsS39.set_1) | exact HI0.out), by repeat (first | (with_reducible first | exact HB.out | apply below_alloc | apply pw_below_drewN | apply below_drew1 | refine below_set ?_ (IsS39.ge HI0.out)) | exact HB.out), by repeat (first | (with_reducible first | exact HK.out | apply KeepBut.set_ | apply keep_drewN | apply keep_drew | apply keep_alloc) | exact HK.out)⟩
        · rw [if_neg c7] at H
          exact absurd H (by simp)
      · rw [if_neg c6] at H
        exact absurd H (by simp)
    · rw [if_neg c4] at H
      have c4b0 : decide ((wrap64 (s0_1 + 1)) ≤ (s0_0.length : Int)) = false := decide_eq_false c4
      clear c4
      by_cases c12 : a1 = 0
      · rw [if_pos c12] at H
        exact absurd H (by simp)
      · rw [if_neg c12] at H
        have c12b0 : (a1 == 0) = false := beq_eq_false_iff_ne.mpr c12
        have c12b1 : (a1 != 0) = true := bne_iff_ne.mpr c12
        by_cases c13 : (Int.tmod (wrap64 ((wrap64 (s0_1 + 1)) * 7)) a1) < 0
        · rw [if_pos c13] at H
          have c13b0 : decide ((Int.tmod (wrap64 ((wrap64 (s0_1 + 1)) * 7)) a1) < 0) = true := decide_eq_true c13
          clear c13
          simp only [Option.some.injEq, Prod.mk.injEq] at H
          obtain ⟨rfl, rfl⟩ := H
          obtain ⟨ASz14_0, cSz14_0, HGz14, hgz14, HSz14_0⟩ := HI0.out
          have hcz14_0 := cellS39_0 HGz14
          have hcz14_1 := cellS39_1 HGz14
          have hfz14_1 := blk_frozen HGz14 1
          clear HGz14 hgz14
          go_enter Tryd.func12, Tryd.ntmps12
          go_wp2
          repeat (go_quiet (fail); try go_wp2)
          go_ret
          exact ⟨by first | rfl | (simp [errW_none, errW_some] <;> rfl) | (simp [*, errW_none, errW_some] <;> rfl), by repeat (first | (with_reducible first | exact HI0.out | apply IsS39.alloc | apply IsS39.drewN | apply IsS39.drew | apply IsS39.set_1) | exact HI0.out), by repeat (first | (with_reducible first | exact HB.out | apply below_alloc | apply pw_below_drewN | apply below_drew1 | refine below_set ?_ (IsS39.ge HI0.out)) | exact HB.out), by repeat (first | (with_reducible first | exact HK.out | apply KeepBut.set_ | apply keep_drewN | apply keep_drew | apply keep_alloc) | exact HK.out)⟩
        · rw [if_neg c13] at H
          have c13b0 : decide ((Int.tmod (wrap64 ((wrap64 (s0_1 + 1)) * 7)) a1) < 0) = false := decide_eq_false c13
          clear c13
          simp only [Option.some.injEq, Prod.mk.injEq] at H
          obtain ⟨rfl, rfl⟩ := H
          obtain ⟨ASz15_0, cSz15_0, HGz15, hgz15, HSz15_0⟩ := HI0.out
          have hcz15_0 := cellS39_0 HGz15
          have hcz15_1 := cellS39_1 HGz15
          have hfz15_1 := blk_frozen HGz15 1
          clear HGz15 hgz15
          go_enter Tryd.func12, Tryd.ntmps12
          go_wp2
          repeat (go_quiet (fail); try go_wp2)
          go_ret
          exact ⟨by first | rfl | (simp [errW_none, errW_some] <;> rfl) | (simp [*, errW_none, errW_some] <;> rfl), by repeat (first | (with_reducible first | exact HI0.out | apply IsS39.alloc | apply IsS39.drewN | apply IsS39.drew | apply IsS39.set_1) | exact HI0.out), by repeat (first | (with_reducible first | exact HB.out | apply below_alloc | apply pw_below_drewN | apply below_drew1 | refine below_set ?_ (IsS39.ge HI0.out)) | exact HB.out), by repeat (first | (with_reducible first | exact HK.out | apply KeepBut.set_ | apply keep_drewN | apply keep_drew | apply keep_alloc) | exact HK.out)⟩

end Go.Proofs.YtnjabpgbpgocnaaDoor.PAll

-- PAllx3
namespace Go.Proofs.YtnjabpgbpgocnaaDoor.PAll
open Go.RowKit Go.Proofs.YtnjabpgbpgocnaaDoorW.PrintWords Go.Proofs.YtnjabpgbpgocnaaDoorW.PrintLast Go.Proofs.YtnjabpgbpgocnaaDoorW.PrintMore
attribute [local go_sem] max2_int min2_int max_two min_two max_three min_three max_four min_four   -- for this text's walks alone
set_option linter.unusedVariables false
set_option linter.unusedSimpArgs false

/-! ### kauditmake_Src_Pick: function 25 -/
def kauditmake_Src_Pick.f (s0_0 : List Int) (s0_1 : Int) (l1 : List Int) : Option (Int × Int) := (kauditmake_Src_N.f s0_0 s0_1 (l1.length : Int)).bind fun bt103 => (if 0 ≤ bt103.1 then (if bt103.1 < (l1.length : Int) then (some (rd l1 bt103.1, bt103.2)) else (none)) else (none))
set_option maxHeartbeats 8000000 in
set_option maxRecDepth 100000 in
theorem kauditmake_Src_Pick.calls (g : Nat) (s0_0 : List Int) (s0_1 : Int) (A1 : Option Addr) (c1 : Nat) (l1 : List Int) (r1 : Int) (r2 : Int) (w0 w : World) (hI : IsS39 w0 w g s0_0 s0_1) (hB : Below w0.heap.size w0 w) (hr1 : Kd.C (Kd.int .i64) w A1 l1.length l1) (hc1 : l1.length ≤ c1) (hf1 : ∀ ad, A1 = some ad → 0 < l1.length → ad.block ≠ g) (h : kauditmake_Src_Pick.f s0_0 s0_1 l1 = some (r1, r2)) :
    Calls Tryd.prog 25 #[.pointer (some ⟨g, 0, none⟩), .slice A1 l1.length c1] w fun e w' => e = .returned (.int .i64 r1) ∧ IsS39 w0 w' g s0_0 r2 ∧ Below w0.heap.size w0 w' ∧ KeepBut w w' g none := by
  have HR1 := Aside0.mk hr1
  have HC1 := Aside0.mk hc1
  clear hr1 hc1
  have HI0 := Aside0.mk hI
  have HK := Aside0.mk (KeepBut.refl w g none)
  have HL := Aside0.mk hB.size
  clear hI
  have HW0 := Aside0.mk hB.size
  have HB := Aside0.mk hB
  clear hB
  have H : ((kauditmake_Src_N.f s0_0 s0_1 (l1.length : Int)).bind fun bt103 => (if 0 ≤ bt103.1 then (if bt103.1 < (l1.length : Int) then (some (rd l1 bt103.1, bt103.2)) else (none)) else (none))) = some (r1, r2) := h
  clear h
  replace H := Option.bind_eq_some_iff.mp H
  obtain ⟨⟨t103, t104⟩, A30, H⟩ := H
  replace H : (if 0 ≤ t103 then (if t103 < (l1.length : Int) then (some (rd l1 t103, t104)) else (none)) else (none)) = some (r1, r2) := H
  have A3 := Aside0.mk A30
  clear A30
  by_cases c4 : 0 ≤ t103
  · rw [if_pos c4] at H
    have c4b0 : decide (0 ≤ t103) = true := decide_eq_true c4
    clear c4
    by_cases c5 : t103 < (l1.length : Int)
    · rw [if_pos c5] at H
      have c5b0 : decide (t103 < (l1.length : Int)) = true := decide_eq_true c5
      clear c5
      simp only [Option.some.injEq, Prod.mk.injEq] at H
      obtain ⟨rfl, rfl⟩ := H
      go_enter Tryd.func25, Tryd.ntmps25
      go_wp2_with (first | ((with_reducible refine gate_callee (f := 12) rfl ?_); refine goesL_ (some 9) rfl rfl Tryd.func12 (by kernel_rfl) rfl #[.pointer (some ⟨g, 0, none⟩), .int .i64 (l1.length : Int)] rfl (by (try simp only [List.map_toArray, List.map_cons, List.map_nil]); first | done | rfl | (simp only [List.length_drop, List.length_take]; rfl)) ?_; (with_reducible refine (kauditmake_Src_N.calls g s0_0 s0_1 (l1.length : Int) t103 t104 w0 _ ?side1 ?side2 A3.out).mono ?_); (case side1 => repeat (first | (with_reducible first | exact HI0.out | apply IsS39.alloc | apply IsS39.drewN | apply IsS39.drew | apply IsS39.set_1) | exact HI0.out)); (case side2 => repeat (first | (with_reducible first | exact HB.out | apply below_alloc | apply pw_below_drewN | apply below_drew1 | refine below_set ?_ (IsS39.ge HI0.out)) | exact HB.out)); rintro e w6 ⟨rfl, hi, hb, hk⟩; refine ⟨_, rfl, ?_⟩; have n0_ := Aside0.mk (KeepBut.trans (by repeat (first | (with_reducible first | exact HK.out | apply KeepBut.set_ | apply keep_drewN | apply keep_drew | apply keep_alloc) | exact HK.out)) hk (.inl rfl)); have n1_ := Aside0.mk (hb); have n2_ := Aside0.mk (hi); clear HK; clear HB; clear HI0; have HK := n0_; have HB := n1_; have HI0 := n2_; clear n0_ n1_ n2_; (try clear hb); (try clear hb2); (try clear hk); (try clear hi); have p105 : 0 ≤ (t103 : Int) := of_decide_eq_true (by first | (with_reducible assumption) | assumption); have q105 : t103 < (l1.length : Int) := of_decide_eq_true (by first | (with_reducible assumption) | assumption); obtain ⟨ad105, e105, hx105_0⟩ := Kd.at_int HR1.out t103 p105 q105; cases e105; replace hx105_0 := keep_cell HK.out hx105_0 (by first | (rw [add_block]; exact hf1 _ rfl (by omega)) | exact hf1 _ rfl (by omega) | exact hf1 ad105 rfl (by omega)); replace p105 := eq_true p105; replace q105 := eq_true q105))
      go_ret
      exact ⟨by first | rfl | (simp [errW_none, errW_some] <;> rfl) | (simp [*, errW_none, errW_some] <;> rfl), by repeat (first | (with_reducible first | exact HI0.out | apply IsS39.alloc | apply IsS39.drewN | apply IsS39.drew | apply IsS39.set_1) | exact HI0.out), by repeat (first | (with_reducible first | exact HB.out | apply below_alloc | apply pw_below_drewN | apply below_drew1 | refine below_set ?_ (IsS39.ge HI0.out)) | exact HB.out), by repeat (first | (with_reducible first | exact HK.out | apply KeepBut.set_ | apply keep_drewN | apply keep_drew | apply keep_alloc) | exact HK.out)⟩
    · rw [if_neg c5] at H
      exact absurd H (by simp)
  · rw [if_neg c4] at H
    exact absurd H (by simp)

end Go.Proofs.YtnjabpgbpgocnaaDoor.PAll

-- PAllx4
namespace Go.Proofs.YtnjabpgbpgocnaaDoor.PAll
open Go.RowKit Go.Proofs.YtnjabpgbpgocnaaDoorW.PrintWords Go.Proofs.YtnjabpgbpgocnaaDoorW.PrintLast Go.Proofs.YtnjabpgbpgocnaaDoorW.PrintMore
attribute [local go_sem] max2_int min2_int max_two min_two max_three min_three max_four min_four   -- for this text's walks alone
set_option linter.unusedVariables false
set_option linter.unusedSimpArgs false

/-! ### kauditmake_Src_Word: function 26 -/
def kauditmake_Src_Word.f (s0_0 : List Int) (s0_1 : Int) (l1 : List ByteArray) : Option (ByteArray × Int) := (kauditmake_Src_N.f s0_0 s0_1 (l1.length : Int)).bind fun bt106 => (if 0 ≤ bt106.1 then (if bt106.1 < (l1.length : Int) then (some (rdOf ByteArray.empty l1 bt106.1, bt106.2)) else (none)) else (none))
set_option maxHeartbeats 8000000 in
set_option maxRecDepth 100000 in
theorem kauditmake_Src_Word.calls (g : Nat) (s0_0 : List Int) (s0_1 : Int) (A1 : Option Addr) (c1 : Nat) (l1 : List ByteArray) (r1 : ByteArray) (r2 : Int) (w0 w : World) (hI : IsS39 w0 w g s0_0 s0_1) (hB : Below w0.heap.size w0 w) (hr1 : Kd.C Kd.string w A1 l1.length l1) (hc1 : l1.length ≤ c1) (hf1 : ∀ ad, A1 = some ad → 0 < l1.length → ad.block ≠ g) (h : kauditmake_Src_Word.f s0_0 s0_1 l1 = some (r1, r2)) :
    Calls Tryd.prog 26 #[.pointer (some ⟨g, 0, none⟩), .slice A1 l1.length c1] w fun e w' => e = .returned (.string r1) ∧ IsS39 w0 w' g s0_0 r2 ∧ Below w0.heap.size w0 w' ∧ KeepBut w w' g none := by
  have HR1 := Aside0.mk hr1
  have HC1 := Aside0.mk hc1
  clear hr1 hc1
  have HI0 := Aside0.mk hI
  have HK := Aside0.mk (KeepBut.refl w g none)
  have HL := Aside0.mk hB.size
  clear hI
  have HW0 := Aside0.mk hB.size
  have HB := Aside0.mk hB
  clear hB
  have H : ((kauditmake_Src_N.f s0_0 s0_1 (l1.length : Int)).bind fun bt106 => (if 0 ≤ bt106.1 then (if bt106.1 < (l1.length : Int) then (some (rdOf ByteArray.empty l1 bt106.1, bt106.2)) else (none)) else (none))) = some (r1, r2) := h
  clear h
  replace H := Option.bind_eq_some_iff.mp H
  obtain ⟨⟨t106, t107⟩, A30, H⟩ := H
  replace H : (if 0 ≤ t106 then (if t106 < (l1.length : Int) then (some (rdOf ByteArray.empty l1 t106, t107)) else (none)) else (none)) = some (r1, r2) := H
  have A3 := Aside0.mk A30
  clear A30
  by_cases c4 : 0 ≤ t106
  · rw [if_pos c4] at H
    have c4b0 : decide (0 ≤ t106) = true := decide_eq_true c4
    clear c4
    by_cases c5 : t106 < (l1.length : Int)
    · rw [if_pos c5] at H
      have c5b0 : decide (t106 < (l1.length : Int)) = true := decide_eq_true c5
      clear c5
      simp only [Option.some.injEq, Prod.mk.injEq] at H
      obtain ⟨rfl, rfl⟩ := H
      go_enter Tryd.func26, Tryd.ntmps26
      go_wp2_with (first | ((with_reducible refine gate_callee (f := 12) rfl ?_); refine goesL_ (some 9) rfl rfl Tryd.func12 (by kernel_rfl) rfl #[.pointer (some ⟨g, 0, none⟩), .int .i64 (l1.length : Int)] rfl (by (try simp only [List.map_toArray, List.map_cons, List.map_nil]); first | done | rfl | (simp only [List.length_drop, List.length_take]; rfl)) ?_; (with_reducible refine (kauditmake_Src_N.calls g s0_0 s0_1 (l1.length : Int) t106 t107 w0 _ ?side1 ?side2 A3.out).mono ?_); (case side1 => repeat (first | (with_reducible first | exact HI0.out | apply IsS39.alloc | apply IsS39.drewN | apply IsS39.drew | apply IsS39.set_1) | exact HI0.out)); (case side2 => repeat (first | (with_reducible first | exact HB.out | apply below_alloc | apply pw_below_drewN | apply below_drew1 | refine below_set ?_ (IsS39.ge HI0.out)) | exact HB.out)); rintro e w6 ⟨rfl, hi, hb, hk⟩; refine ⟨_, rfl, ?_⟩; have n0_ := Aside0.mk (KeepBut.trans (by repeat (first | (with_reducible first | exact HK.out | apply KeepBut.set_ | apply keep_drewN | apply keep_drew | apply keep_alloc) | exact HK.out)) hk (.inl rfl)); have n1_ := Aside0.mk (hb); have n2_ := Aside0.mk (hi); clear HK; clear HB; clear HI0; have HK := n0_; have HB := n1_; have HI0 := n2_; clear n0_ n1_ n2_; (try clear hb); (try clear hb2); (try clear hk); (try clear hi); have p108 : 0 ≤ (t106 : Int) := of_decide_eq_true (by first | (with_reducible assumption) | assumption); have q108 : t106 < (l1.length : Int) := of_decide_eq_true (by first | (with_reducible assumption) | assumption); obtain ⟨ad108, e108, hx108_0⟩ := Kd.at_string HR1.out t106 p108 q108; cases e108; replace hx108_0 := keep_cell HK.out hx108_0 (by first | (rw [add_block]; exact hf1 _ rfl (by omega)) | exact hf1 _ rfl (by omega) | exact hf1 ad108 rfl (by omega)); replace p108 := eq_true p108; replace q108 := eq_true q108))
      go_ret
      exact ⟨by first | rfl | (simp [errW_none, errW_some] <;> rfl) | (simp [*, errW_none, errW_some] <;> rfl), by repeat (first | (with_reducible first | exact HI0.out | apply IsS39.alloc | apply IsS39.drewN | apply IsS39.drew | apply IsS39.set_1) | exact HI0.out), by repeat (first | (with_reducible first | exact HB.out | apply below_alloc | apply pw_below_drewN | apply below_drew1 | refine below_set ?_ (IsS39.ge HI0.out)) | exact HB.out), by repeat (first | (with_reducible first | exact HK.out | apply KeepBut.set_ | apply keep_drewN | apply keep_drew | apply keep_alloc) | exact HK.out)⟩
    · rw [if_neg c5] at H
      exact absurd H (by simp)
  · rw [if_neg c4] at H
    exact absurd H (by simp)

end Go.Proofs.YtnjabpgbpgocnaaDoor.PAll
