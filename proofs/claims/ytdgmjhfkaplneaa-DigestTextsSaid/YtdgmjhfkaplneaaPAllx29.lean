-- Written by a program of this place's prover (wip/turn_print.py): not by hand.
import Derived.Test.YtdgmjhfkaplneaaPAllx0
import Derived.Test.YtdgmjhfkaplneaaPAllx11
namespace Go.Proofs.Ytdgmjhfkaplneaa.PAll
open Go.RowKit Go.Proofs.YtdgmjhfkaplneaaW.PrintWords Go.Proofs.YtdgmjhfkaplneaaW.PrintLast Go.Proofs.YtdgmjhfkaplneaaW.PrintMore
attribute [local go_sem] max2_int min2_int max_two min_two max_three min_three max_four min_four   -- for this text's walks alone
set_option linter.unusedVariables false
set_option linter.unusedSimpArgs false

/-! ### kauditref23_Format: function 27 -/
def kauditref23_Format.l0 : Nat → ByteArray → List Int → Int → Int → Option (ByteArray)
  | 0, _, _, _, _ => none
  | k + 1, x3, x7, x8, x9 => if x9 < x8 then (if 0 ≤ x9 then (if x9 < (x7.length : Int) then (if 0 ≤ ((rd x7 x9) / 16) then (if ((rd x7 x9) / 16) ≤ ((((rd x7 x9) / 16) + 1) % 256) then (if ((((rd x7 x9) / 16) + 1) % 256) ≤ 16 then (if 0 ≤ (Go.bits .and .u8 (rd x7 x9) 15) then (if (Go.bits .and .u8 (rd x7 x9) 15) ≤ (((Go.bits .and .u8 (rd x7 x9) 15) + 1) % 256) then (if (((Go.bits .and .u8 (rd x7 x9) 15) + 1) % 256) ≤ 16 then (if ((⟨#[48, 49, 50, 51, 52, 53, 54, 55, 56, 57, 97, 98, 99, 100, 101, 102]⟩ : ByteArray).extract (((rd x7 x9) / 16) : Int).toNat (((((rd x7 x9) / 16) + 1) % 256) : Int).toNat).size + ((⟨#[48, 49, 50, 51, 52, 53, 54, 55, 56, 57, 97, 98, 99, 100, 101, 102]⟩ : ByteArray).extract ((Go.bits .and .u8 (rd x7 x9) 15) : Int).toNat ((((Go.bits .and .u8 (rd x7 x9) 15) + 1) % 256) : Int).toNat).size ≤ 9223372036854775807 then (if x3.size + (((⟨#[48, 49, 50, 51, 52, 53, 54, 55, 56, 57, 97, 98, 99, 100, 101, 102]⟩ : ByteArray).extract (((rd x7 x9) / 16) : Int).toNat (((((rd x7 x9) / 16) + 1) % 256) : Int).toNat) ++ ((⟨#[48, 49, 50, 51, 52, 53, 54, 55, 56, 57, 97, 98, 99, 100, 101, 102]⟩ : ByteArray).extract ((Go.bits .and .u8 (rd x7 x9) 15) : Int).toNat ((((Go.bits .and .u8 (rd x7 x9) 15) + 1) % 256) : Int).toNat)).size ≤ 9223372036854775807 then (kauditref23_Format.l0 k (x3 ++ (((⟨#[48, 49, 50, 51, 52, 53, 54, 55, 56, 57, 97, 98, 99, 100, 101, 102]⟩ : ByteArray).extract (((rd x7 x9) / 16) : Int).toNat (((((rd x7 x9) / 16) + 1) % 256) : Int).toNat) ++ ((⟨#[48, 49, 50, 51, 52, 53, 54, 55, 56, 57, 97, 98, 99, 100, 101, 102]⟩ : ByteArray).extract ((Go.bits .and .u8 (rd x7 x9) 15) : Int).toNat ((((Go.bits .and .u8 (rd x7 x9) 15) + 1) % 256) : Int).toNat))) x7 x8 (wrap64 (x9 + 1))) else (none)) else (none)) else (none)) else (none)) else (none)) else (none)) else (none)) else (none)) else (none)) else (none)) else (some x3)
def kauditref23_Format.f (k : Nat) (a0 : Int) : Option (ByteArray) := (kauditref23_Put.f k a0).bind fun t258 => (kauditref23_Format.l0 k (⟨#[]⟩ : ByteArray) t258 (t258.length : Int) 0)
theorem kauditref23_Format.mono_l : ∀ k, (∀ y0 y1 y2 y3, LeO (kauditref23_Format.l0 k y0 y1 y2 y3) (kauditref23_Format.l0 (k + 1) y0 y1 y2 y3))
  | 0 => fun _ _ _ _ r h => by simp [kauditref23_Format.l0] at h
  | k + 1 => by
    have ih0 := kauditref23_Format.mono_l k
    · intro y0 y1 y2 y3
      unfold kauditref23_Format.l0
      repeat' first
      | (with_reducible exact ih0 _ _ _ _)
      | (with_reducible exact kauditref23_Put.mono _ _)
      | (with_reducible exact LeO.refl _)
      | (with_reducible exact LeO.none _)
      | (with_reducible refine LeO.ite ?_ ?_)
      | (with_reducible refine LeO.bind ?_ (fun _ => ?_))
      | exact ih0 _ _ _ _
      | exact kauditref23_Put.mono _ _
      | exact LeO.none _
      | refine LeO.ite ?_ ?_
      | refine LeO.bind ?_ (fun _ => ?_)
theorem kauditref23_Format.mono : ∀ a0 k, LeO (kauditref23_Format.f k a0) (kauditref23_Format.f (k + 1) a0) := by
  intro a0 k
  have ih0 := kauditref23_Format.mono_l k
  unfold kauditref23_Format.f
  repeat' first
      | (with_reducible exact ih0 _ _ _ _)
      | (with_reducible exact kauditref23_Put.mono _ _)
      | (with_reducible exact LeO.refl _)
      | (with_reducible exact LeO.none _)
      | (with_reducible refine LeO.ite ?_ ?_)
      | (with_reducible refine LeO.bind ?_ (fun _ => ?_))
      | exact ih0 _ _ _ _
      | exact kauditref23_Put.mono _ _
      | exact LeO.none _
      | refine LeO.ite ?_ ?_
      | refine LeO.bind ?_ (fun _ => ?_)
set_option maxHeartbeats 8000000 in
set_option maxRecDepth 100000 in
theorem kauditref23_Format.calls (k : Nat) (a0 : Int) (r : ByteArray) (w : World) (h : kauditref23_Format.f k a0 = some r) :
    Calls Try.prog 27 #[.int .u64 a0] w fun e w' => e = .returned (.string r) ∧ Below w.heap.size w w' := by
  have HB := Aside0.mk (Below.refl w.heap.size w)
  have H : ((kauditref23_Put.f k a0).bind fun t258 => (kauditref23_Format.l0 k (⟨#[]⟩ : ByteArray) t258 (t258.length : Int) 0)) = some r := h
  clear h
  replace H := Option.bind_eq_some_iff.mp H
  obtain ⟨t258, A20, H⟩ := H
  replace H : (kauditref23_Format.l0 k (⟨#[]⟩ : ByteArray) t258 (t258.length : Int) 0) = some r := H
  have A2 := Aside0.mk A20
  clear A20
  have H' := Aside0.mk H
  clear H
  go_enter Try.func27, Try.ntmps27
  go_wp2_with (first | (go_at_call 23; (with_reducible refine (kauditref23_Put.calls k a0 t258 _ A2.out).mono ?_); rintro e w3 ⟨v259, rfl, ho0, hb⟩; have n0_ := Aside0.mk (Kd.R_lower ho0 (below_size (by repeat (first | (with_reducible first | exact HB.out | apply below_alloc | apply pw_below_drewN | apply below_drew1) | exact HB.out)))); have n1_ := Aside0.mk (below_step (by repeat (first | (with_reducible first | exact HB.out | apply below_alloc | apply pw_below_drewN | apply below_drew1) | exact HB.out)) hb); clear HB; have HO260 := n0_; have HB := n1_; clear n0_ n1_; (try clear hb); (try clear hb2); (try clear hk); (try clear hi); (try clear ho0); obtain ⟨Ao4, co4, eo4⟩ := Kd.R_slice HO260.out; subst eo4))
  repeat (go_quiet (first | (go_at_call 23; (with_reducible refine (kauditref23_Put.calls k a0 t258 _ A2.out).mono ?_); rintro e w3 ⟨v259, rfl, ho0, hb⟩; have n0_ := Aside0.mk (Kd.R_lower ho0 (below_size (by repeat (first | (with_reducible first | exact HB.out | apply below_alloc | apply pw_below_drewN | apply below_drew1) | exact HB.out)))); have n1_ := Aside0.mk (below_step (by repeat (first | (with_reducible first | exact HB.out | apply below_alloc | apply pw_below_drewN | apply below_drew1) | exact HB.out)) hb); clear HB; have HO260 := n0_; have HB := n1_; clear n0_ n1_; (try clear hb); (try clear hb2); (try clear hk); (try clear hi); (try clear ho0); obtain ⟨Ao4, co4, eo4⟩ := Kd.R_slice HO260.out; subst eo4)); try go_wp2_with (first | (go_at_call 23; (with_reducible refine (kauditref23_Put.calls k a0 t258 _ A2.out).mono ?_); rintro e w3 ⟨v259, rfl, ho0, hb⟩; have n0_ := Aside0.mk (Kd.R_lower ho0 (below_size (by repeat (first | (with_reducible first | exact HB.out | apply below_alloc | apply pw_below_drewN | apply below_drew1) | exact HB.out)))); have n1_ := Aside0.mk (below_step (by repeat (first | (with_reducible first | exact HB.out | apply below_alloc | apply pw_below_drewN | apply below_drew1) | exact HB.out)) hb); clear HB; have HO260 := n0_; have HB := n1_; clear n0_ n1_; (try clear hb); (try clear hb2); (try clear hk); (try clear hi); (try clear ho0); obtain ⟨Ao4, co4, eo4⟩ := Kd.R_slice HO260.out; subst eo4)))
  (first | go_loopg [3, 9] k (fun kq v3 v9 w' => ∃ (x3_1 : ByteArray) (x9_1 : Int), v3 = .string x3_1 ∧ v9 = .int .i64 x9_1 ∧ Aside0 (kauditref23_Format.l0 kq x3_1 t258 (t258.length : Int) x9_1 = some r) ∧ Aside0 (kq ≤ k) ∧ Aside0 (Kd.R (Kd.int .u8) 5 w' w.heap.size (fun _ => True) (.slice Ao4 t258.length co4) t258) ∧ Aside0 (Below w.heap.size w w')) | (go_simp; go_loopg [3, 9] k (fun kq v3 v9 w' => ∃ (x3_1 : ByteArray) (x9_1 : Int), v3 = .string x3_1 ∧ v9 = .int .i64 x9_1 ∧ Aside0 (kauditref23_Format.l0 kq x3_1 t258 (t258.length : Int) x9_1 = some r) ∧ Aside0 (kq ≤ k) ∧ Aside0 (Kd.R (Kd.int .u8) 5 w' w.heap.size (fun _ => True) (.slice Ao4 t258.length co4) t258) ∧ Aside0 (Below w.heap.size w w'))))
  case atStart => exact ⟨((⟨#[]⟩ : ByteArray)), (0), (by first | rfl | (simp; done) | (simp [*]; done)), (by first | rfl | (simp; done) | (simp [*]; done)), H', ⟨Nat.le_refl _⟩, ⟨by (with_reducible repeat (first | apply Kd.R_alloc | apply Kd.R_drewN | apply Kd.R_drew)); exact HO260.out⟩, ⟨by repeat (first | (with_reducible first | exact HB.out | apply below_alloc | apply pw_below_drewN | apply below_drew1) | exact HB.out)⟩⟩
  case round =>
    clear H'
    try clear c2
    try clear p2
    obtain ⟨x3_1, x9_1, rfl, rfl, HA, HK1, HO_7, HB⟩ := hrel
    cases gk with
    | zero => exact absurd HA.out (by simp [kauditref23_Format.l0])
    | succ k1 =>
      have H := HA.out
      clear HA
      simp only [kauditref23_Format.l0] at H
      by_cases c5 : x9_1 < (t258.length : Int)
      · rw [if_pos c5] at H
        have c5b0 : decide (x9_1 < (t258.length : Int)) = true := decide_eq_true c5
        clear c5
        by_cases c6 : 0 ≤ x9_1
        · rw [if_pos c6] at H
          have c6b0 : decide (0 ≤ x9_1) = true := decide_eq_true c6
          clear c6
          by_cases c7 : x9_1 < (t258.length : Int)
          · rw [if_pos c7] at H
            have c7b0 : decide (x9_1 < (t258.length : Int)) = true := decide_eq_true c7
            clear c7
            obtain ⟨ji8, hji8⟩ : ∃ j_ : Int, ((rd t258 x9_1) / 16) = j_ := ⟨_, rfl⟩
            replace H : (if 0 ≤ (ji8) then (if (ji8) ≤ (((ji8) + 1) % 256) then (if (((ji8) + 1) % 256) ≤ 16 then (if 0 ≤ (Go.bits .and .u8 (rd t258 x9_1) 15) then (if (Go.bits .and .u8 (rd t258 x9_1) 15) ≤ (((Go.bits .and .u8 (rd t258 x9_1) 15) + 1) % 256) then (if (((Go.bits .and .u8 (rd t258 x9_1) 15) + 1) % 256) ≤ 16 then (if ((⟨#[48, 49, 50, 51, 52, 53, 54, 55, 56, 57, 97, 98, 99, 100, 101, 102]⟩ : ByteArray).extract ((ji8) : Int).toNat ((((ji8) + 1) % 256) : Int).toNat).size + ((⟨#[48, 49, 50, 51, 52, 53, 54, 55, 56, 57, 97, 98, 99, 100, 101, 102]⟩ : ByteArray).extract ((Go.bits .and .u8 (rd t258 x9_1) 15) : Int).toNat ((((Go.bits .and .u8 (rd t258 x9_1) 15) + 1) % 256) : Int).toNat).size ≤ 9223372036854775807 then (if x3_1.size + (((⟨#[48, 49, 50, 51, 52, 53, 54, 55, 56, 57, 97, 98, 99, 100, 101, 102]⟩ : ByteArray).extract ((ji8) : Int).toNat ((((ji8) + 1) % 256) : Int).toNat) ++ ((⟨#[48, 49, 50, 51, 52, 53, 54, 55, 56, 57, 97, 98, 99, 100, 101, 102]⟩ : ByteArray).extract ((Go.bits .and .u8 (rd t258 x9_1) 15) : Int).toNat ((((Go.bits .and .u8 (rd t258 x9_1) 15) + 1) % 256) : Int).toNat)).size ≤ 9223372036854775807 then (kauditref23_Format.l0 k1 (x3_1 ++ (((⟨#[48, 49, 50, 51, 52, 53, 54, 55, 56, 57, 97, 98, 99, 100, 101, 102]⟩ : ByteArray).extract ((ji8) : Int).toNat ((((ji8) + 1) % 256) : Int).toNat) ++ ((⟨#[48, 49, 50, 51, 52, 53, 54, 55, 56, 57, 97, 98, 99, 100, 101, 102]⟩ : ByteArray).extract ((Go.bits .and .u8 (rd t258 x9_1) 15) : Int).toNat ((((Go.bits .and .u8 (rd t258 x9_1) 15) + 1) % 256) : Int).toNat))) t258 (t258.length : Int) (wrap64 (x9_1 + 1))) else (none)) else (none)) else (none)) else (none)) else (none)) else (none)) else (none)) else (none)) = some r := by first | (rw [hji8] at H; exact H) | (simp only [hji8] at H ⊢; exact H)
            by_cases c9 : 0 ≤ (ji8)
            · rw [if_pos c9] at H
              have c9b0 := eq_true c9
              have c9b1 : decide (0 ≤ (ji8)) = true := decide_eq_true c9
              clear c9
              by_cases c10 : (ji8) ≤ (((ji8) + 1) % 256)
              · rw [if_pos c10] at H
                have c10b0 := eq_true c10
                have c10b1 : decide ((ji8) ≤ (((ji8) + 1) % 256)) = true := decide_eq_true c10
                by_cases c11 : (((ji8) + 1) % 256) ≤ 16
                · rw [if_pos c11] at H
                  have c11b0 := eq_true c11
                  have c11b1 : decide ((((ji8) + 1) % 256) ≤ 16) = true := decide_eq_true c11
                  by_cases c12 : 0 ≤ (Go.bits .and .u8 (rd t258 x9_1) 15)
                  · rw [if_pos c12] at H
                    have c12b0 := eq_true c12
                    have c12b1 : decide (0 ≤ (Go.bits .and .u8 (rd t258 x9_1) 15)) = true := decide_eq_true c12
                    clear c12
                    by_cases c13 : (Go.bits .and .u8 (rd t258 x9_1) 15) ≤ (((Go.bits .and .u8 (rd t258 x9_1) 15) + 1) % 256)
                    · rw [if_pos c13] at H
                      have c13b0 := eq_true c13
                      have c13b1 : decide ((Go.bits .and .u8 (rd t258 x9_1) 15) ≤ (((Go.bits .and .u8 (rd t258 x9_1) 15) + 1) % 256)) = true := decide_eq_true c13
                      by_cases c14 : (((Go.bits .and .u8 (rd t258 x9_1) 15) + 1) % 256) ≤ 16
                      · rw [if_pos c14] at H
                        have c14b0 := eq_true c14
                        have c14b1 : decide ((((Go.bits .and .u8 (rd t258 x9_1) 15) + 1) % 256) ≤ 16) = true := decide_eq_true c14
                        by_cases c15 : ((⟨#[48, 49, 50, 51, 52, 53, 54, 55, 56, 57, 97, 98, 99, 100, 101, 102]⟩ : ByteArray).extract ((ji8) : Int).toNat ((((ji8) + 1) % 256) : Int).toNat).size + ((⟨#[48, 49, 50, 51, 52, 53, 54, 55, 56, 57, 97, 98, 99, 100, 101, 102]⟩ : ByteArray).extract ((Go.bits .and .u8 (rd t258 x9_1) 15) : Int).toNat ((((Go.bits .and .u8 (rd t258 x9_1) 15) + 1) % 256) : Int).toNat).size ≤ 9223372036854775807
                        · rw [if_pos c15] at H
                          have c15b0 := eq_true c15
                          have c15b1 : decide (((⟨#[48, 49, 50, 51, 52, 53, 54, 55, 56, 57, 97, 98, 99, 100, 101, 102]⟩ : ByteArray).extract ((ji8) : Int).toNat ((((ji8) + 1) % 256) : Int).toNat).size + ((⟨#[48, 49, 50, 51, 52, 53, 54, 55, 56, 57, 97, 98, 99, 100, 101, 102]⟩ : ByteArray).extract ((Go.bits .and .u8 (rd t258 x9_1) 15) : Int).toNat ((((Go.bits .and .u8 (rd t258 x9_1) 15) + 1) % 256) : Int).toNat).size ≤ 9223372036854775807) = true := decide_eq_true c15
                          try have c15b2 : (9223372036854775807 < ((⟨#[48, 49, 50, 51, 52, 53, 54, 55, 56, 57, 97, 98, 99, 100, 101, 102]⟩ : ByteArray).extract ((ji8) : Int).toNat ((((ji8) + 1) % 256) : Int).toNat).size + ((⟨#[48, 49, 50, 51, 52, 53, 54, 55, 56, 57, 97, 98, 99, 100, 101, 102]⟩ : ByteArray).extract ((Go.bits .and .u8 (rd t258 x9_1) 15) : Int).toNat ((((Go.bits .and .u8 (rd t258 x9_1) 15) + 1) % 256) : Int).toNat).size) = False := eq_false (Nat.not_lt.2 c15)
                          by_cases c16 : x3_1.size + (((⟨#[48, 49, 50, 51, 52, 53, 54, 55, 56, 57, 97, 98, 99, 100, 101, 102]⟩ : ByteArray).extract ((ji8) : Int).toNat ((((ji8) + 1) % 256) : Int).toNat) ++ ((⟨#[48, 49, 50, 51, 52, 53, 54, 55, 56, 57, 97, 98, 99, 100, 101, 102]⟩ : ByteArray).extract ((Go.bits .and .u8 (rd t258 x9_1) 15) : Int).toNat ((((Go.bits .and .u8 (rd t258 x9_1) 15) + 1) % 256) : Int).toNat)).size ≤ 9223372036854775807
                          · rw [if_pos c16] at H
                            have c16b0 := eq_true c16
                            have c16b1 : decide (x3_1.size + (((⟨#[48, 49, 50, 51, 52, 53, 54, 55, 56, 57, 97, 98, 99, 100, 101, 102]⟩ : ByteArray).extract ((ji8) : Int).toNat ((((ji8) + 1) % 256) : Int).toNat) ++ ((⟨#[48, 49, 50, 51, 52, 53, 54, 55, 56, 57, 97, 98, 99, 100, 101, 102]⟩ : ByteArray).extract ((Go.bits .and .u8 (rd t258 x9_1) 15) : Int).toNat ((((Go.bits .and .u8 (rd t258 x9_1) 15) + 1) % 256) : Int).toNat)).size ≤ 9223372036854775807) = true := decide_eq_true c16
                            try have c16b2 : (9223372036854775807 < x3_1.size + (((⟨#[48, 49, 50, 51, 52, 53, 54, 55, 56, 57, 97, 98, 99, 100, 101, 102]⟩ : ByteArray).extract ((ji8) : Int).toNat ((((ji8) + 1) % 256) : Int).toNat) ++ ((⟨#[48, 49, 50, 51, 52, 53, 54, 55, 56, 57, 97, 98, 99, 100, 101, 102]⟩ : ByteArray).extract ((Go.bits .and .u8 (rd t258 x9_1) 15) : Int).toNat ((((Go.bits .and .u8 (rd t258 x9_1) 15) + 1) % 256) : Int).toNat)).size) = False := eq_false (Nat.not_lt.2 c16)
                            have H' := Aside0.mk H
                            clear H
                            have p261 : 0 ≤ (x9_1 : Int) := of_decide_eq_true (by first | (with_reducible assumption) | assumption)
                            have q261 : x9_1 < (t258.length : Int) := of_decide_eq_true (by first | (with_reducible assumption) | assumption)
                            obtain ⟨ad261, e261, hx261_0⟩ := Kd.at_int (Kd.R_reads' HO_7.out).2.2 x9_1 p261 q261
                            cases e261
                            replace p261 := eq_true p261
                            replace q261 := eq_true q261
                            go_wp2
                            repeat (go_quiet (fail); try go_wp2)
                            go_roundg k1
                            case measure => have := HK1.out; omega
                            case rel => exact ⟨(x3_1 ++ (((⟨#[48, 49, 50, 51, 52, 53, 54, 55, 56, 57, 97, 98, 99, 100, 101, 102]⟩ : ByteArray).extract ((ji8) : Int).toNat ((((ji8) + 1) % 256) : Int).toNat) ++ ((⟨#[48, 49, 50, 51, 52, 53, 54, 55, 56, 57, 97, 98, 99, 100, 101, 102]⟩ : ByteArray).extract ((Go.bits .and .u8 (rd t258 x9_1) 15) : Int).toNat ((((Go.bits .and .u8 (rd t258 x9_1) 15) + 1) % 256) : Int).toNat))), (wrap64 (x9_1 + 1)), (by first | rfl | (simp; done) | (simp only [← hji8] <;> (first | rfl | simp)) | (simp [*]; done)), (by first | rfl | (simp; done) | (simp [*]; done)), H', ⟨by have := HK1.out; omega⟩, ⟨by (with_reducible repeat (first | apply Kd.R_alloc | apply Kd.R_drewN | apply Kd.R_drew)); exact HO_7.out⟩, ⟨by repeat (first | (with_reducible first | exact HB.out | apply below_alloc | apply pw_below_drewN | apply below_drew1) | exact HB.out)⟩⟩
                          · rw [if_neg c16] at H
                            exact absurd H (by simp)
                        · rw [if_neg c15] at H
                          exact absurd H (by simp)
                      · rw [if_neg c14] at H
                        exact absurd H (by simp)
                    · rw [if_neg c13] at H
                      exact absurd H (by simp)
                  · rw [if_neg c12] at H
                    exact absurd H (by simp)
                · rw [if_neg c11] at H
                  exact absurd H (by simp)
              · rw [if_neg c10] at H
                exact absurd H (by simp)
            · rw [if_neg c9] at H
              exact absurd H (by simp)
          · rw [if_neg c7] at H
            exact absurd H (by simp)
        · rw [if_neg c6] at H
          exact absurd H (by simp)
      · rw [if_neg c5] at H
        have c5b0 : decide (x9_1 < (t258.length : Int)) = false := decide_eq_false c5
        clear c5
        obtain rfl := Option.some.inj H
        go_wp2
        repeat (go_quiet (fail); try go_wp2)
        go_ret
        exact ⟨by first | rfl | (simp [errW_none, errW_some] <;> rfl) | (simp [*, errW_none, errW_some] <;> rfl), by repeat (first | (with_reducible first | exact HB.out | apply below_alloc | apply pw_below_drewN | apply below_drew1) | exact HB.out)⟩

end Go.Proofs.Ytdgmjhfkaplneaa.PAll
