/- For PathPairs: contracts of the functions that it reaches and plain facts, joined out of 8 texts by a program (merge_claim.py): PAllx3, PAllx4, PAllx5, PureD, PureF, PAllx52, PureG, PurePathPairs. Each text's own conditions stand at its head below. -/
import Derived.Test.YtnjabpgbpgocnaaDoorZPathPairs2

-- PAllx3
namespace Go.Proofs.YtnjabpgbpgocnaaDoor.PAll
open Go.RowKit Go.Proofs.YtnjabpgbpgocnaaDoorW.PrintWords Go.Proofs.YtnjabpgbpgocnaaDoorW.PrintLast Go.Proofs.YtnjabpgbpgocnaaDoorW.PrintMore
attribute [local go_sem] max2_int min2_int max_two min_two max_three min_three max_four min_four   -- for this text's walks alone
set_option linter.unusedVariables false
set_option linter.unusedSimpArgs false

/-! ### kauditmake_Src_Pick: function 25 -/
def kauditmake_Src_Pick.f (s0_0 : List Int) (s0_1 : Int) (l1 : List Int) : Option (Int × Int) := (kauditmake_Src_N.f s0_0 s0_1 (l1.length : Int)).bind fun bt103 => (if 0 ≤ bt103.1 then (if bt103.1 < (l1.length : Int) then (some (rd l1 bt103.1, bt103.2)) else (none)) else (none))
set_option maxHeartbeats 8000000 in
set_option maxRecDepth 100000 in
theorem kauditmake_Src_Pick.calls (g : Nat) (s0_0 : List Int) (s0_1 : Int) (A1 : Option Addr) (c1 : Nat) (l1 : List Int) (r1 : Int) (r2 : Int) (w0 w : World) (hI : IsS39 w0 w g s0_0 s0_1) (hB : Below w0.heap.size w0 w) (hr1 : Kd.C (Kd.int .i64) w A1 l1.length l1) (hc1 : l1.length ≤ c1) (hf1 : ∀ ad, A1 = some ad → 0 < l1.length → ad.block ≠ g) (h : kauditmake_Src_Pick.f s0_0 s0_1 l1 = some (r1, r2)) :
    Calls Tryd.prog 25 #[.pointer (some ⟨g, 0, none⟩), .slice A1 l1.length c1] w fun e w' => e = .returned (.int .i64 r1) ∧ IsS39 w0 w' g s0_0 r2 ∧ Below w0.heap.size w0 w' ∧ KeepBut w w' g none := by
  have HR1 := Aside0.mk hr1
  have HC1 := Aside0.mk hc1
  clear hr1 hc1
  have HI0 := Aside0.mk hI
  have HK := Aside0.mk (KeepBut.refl w g none)
  have HL := Aside0.mk hB.size
  clear hI
  have HW0 := Aside0.mk hB.size
  have HB := Aside0.mk hB
  clear hB
  have H : ((kauditmake_Src_N.f s0_0 s0_1 (l1.length : Int)).bind fun bt103 => (if 0 ≤ bt103.1 then (if bt103.1 < (l1.length : Int) then (some (rd l1 bt103.1, bt103.2)) else (none)) else (none))) = some (r1, r2) := h
  clear h
  replace H := Option.bind_eq_some_iff.mp H
  obtain ⟨⟨t103, t104⟩, A30, H⟩ := H
  replace H : (if 0 ≤ t103 then (if t103 < (l1.length : Int) then (some (rd l1 t103, t104)) else (none)) else (none)) = some (r1, r2) := H
  have A3 := Aside0.mk A30
  clear A30
  by_cases c4 : 0 ≤ t103
  · rw [if_pos c4] at H
    have c4b0 : decide (0 ≤ t103) = true := decide_eq_true c4
    clear c4
    by_cases c5 : t103 < (l1.length : Int)
    · rw [if_pos c5] at H
      have c5b0 : decide (t103 < (l1.length : Int)) = true := decide_eq_true c5
      clear c5
      simp only [Option.some.injEq, Prod.mk.injEq] at H
      obtain ⟨rfl, rfl⟩ := H
      go_enter Tryd.func25, Tryd.ntmps25
      go_wp2_with (first | ((with_reducible refine gate_callee (f := 12) rfl ?_); refine goesL_ (some 9) rfl rfl Tryd.func12 (by kernel_rfl) rfl #[.pointer (some ⟨g, 0, none⟩), .int .i64 (l1.length : Int)] rfl (by (try simp only [List.map_toArray, List.map_cons, List.map_nil]); first | done | rfl | (simp only [List.length_drop, List.length_take]; rfl)) ?_; (with_reducible refine (kauditmake_Src_N.calls g s0_0 s0_1 (l1.length : Int) t103 t104 w0 _ ?side1 ?side2 A3.out).mono ?_); (case side1 => repeat (first | (with_reducible first | exact HI0.out | apply IsS39.alloc | apply IsS39.drewN | apply IsS39.drew | apply IsS39.set_1) | exact HI0.out)); (case side2 => repeat (first | (with_reducible first | exact HB.out | apply below_alloc | apply pw_below_drewN | apply below_drew1 | refine below_set ?_ (IsS39.ge HI0.out)) | exact HB.out)); rintro e w6 ⟨rfl, hi, hb, hk⟩; refine ⟨_, rfl, ?_⟩; have n0_ := Aside0.mk (KeepBut.trans (by repeat (first | (with_reducible first | exact HK.out | apply KeepBut.set_ | apply keep_drewN | apply keep_drew | apply keep_alloc) | exact HK.out)) hk (.inl rfl)); have n1_ := Aside0.mk (hb); have n2_ := Aside0.mk (hi); clear HK; clear HB; clear HI0; have HK := n0_; have HB := n1_; have HI0 := n2_; clear n0_ n1_ n2_; (try clear hb); (try clear hb2); (try clear hk); (try clear hi); have p105 : 0 ≤ (t103 : Int) := of_decide_eq_true (by first | (with_reducible assumption) | assumption); have q105 : t103 < (l1.length : Int) := of_decide_eq_true (by first | (with_reducible assumption) | assumption); obtain ⟨ad105, e105, hx105_0⟩ := Kd.at_int HR1.out t103 p105 q105; cases e105; replace hx105_0 := keep_cell HK.out hx105_0 (by first | (rw [add_block]; exact hf1 _ rfl (by omega)) | exact hf1 _ rfl (by omega) | exact hf1 ad105 rfl (by omega)); replace p105 := eq_true p105; replace q105 := eq_true q105))
      go_ret
      exact ⟨by first | rfl | (simp [errW_none, errW_some] <;> rfl) | (simp [*, errW_none, errW_some] <;> rfl), by repeat (first | (with_reducible first | exact HI0.out | apply IsS39.alloc | apply IsS39.drewN | apply IsS39.drew | apply IsS39.set_1) | exact HI0.out), by repeat (first | (with_reducible first | exact HB.out | apply below_alloc | apply pw_below_drewN | apply below_drew1 | refine below_set ?_ (IsS39.ge HI0.out)) | exact HB.out), by repeat (first | (with_reducible first | exact HK.out | apply KeepBut.set_ | apply keep_drewN | apply keep_drew | apply keep_alloc) | exact HK.out)⟩
    · rw [if_neg c5] at H
      exact absurd H (by simp)
  · rw [if_neg c4] at H
    exact absurd H (by simp)

end Go.Proofs.YtnjabpgbpgocnaaDoor.PAll

-- PAllx4
namespace Go.Proofs.YtnjabpgbpgocnaaDoor.PAll
open Go.RowKit Go.Proofs.YtnjabpgbpgocnaaDoorW.PrintWords Go.Proofs.YtnjabpgbpgocnaaDoorW.PrintLast Go.Proofs.YtnjabpgbpgocnaaDoorW.PrintMore
attribute [local go_sem] max2_int min2_int max_two min_two max_three min_three max_four min_four   -- for this text's walks alone
set_option linter.unusedVariables false
set_option linter.unusedSimpArgs false

/-! ### kauditmake_Src_Word: function 26 -/
def kauditmake_Src_Word.f (s0_0 : List Int) (s0_1 : Int) (l1 : List ByteArray) : Option (ByteArray × Int) := (kauditmake_Src_N.f s0_0 s0_1 (l1.length : Int)).bind fun bt106 => (if 0 ≤ bt106.1 then (if bt106.1 < (l1.length : Int) then (some (rdOf ByteArray.empty l1 bt106.1, bt106.2)) else (none)) else (none))
set_option maxHeartbeats 8000000 in
set_option maxRecDepth 100000 in
theorem kauditmake_Src_Word.calls (g : Nat) (s0_0 : List Int) (s0_1 : Int) (A1 : Option Addr) (c1 : Nat) (l1 : List ByteArray) (r1 : ByteArray) (r2 : Int) (w0 w : World) (hI : IsS39 w0 w g s0_0 s0_1) (hB : Below w0.heap.size w0 w) (hr1 : Kd.C Kd.string w A1 l1.length l1) (hc1 : l1.length ≤ c1) (hf1 : ∀ ad, A1 = some ad → 0 < l1.length → ad.block ≠ g) (h : kauditmake_Src_Word.f s0_0 s0_1 l1 = some (r1, r2)) :
    Calls Tryd.prog 26 #[.pointer (some ⟨g, 0, none⟩), .slice A1 l1.length c1] w fun e w' => e = .returned (.string r1) ∧ IsS39 w0 w' g s0_0 r2 ∧ Below w0.heap.size w0 w' ∧ KeepBut w w' g none := by
  have HR1 := Aside0.mk hr1
  have HC1 := Aside0.mk hc1
  clear hr1 hc1
  have HI0 := Aside0.mk hI
  have HK := Aside0.mk (KeepBut.refl w g none)
  have HL := Aside0.mk hB.size
  clear hI
  have HW0 := Aside0.mk hB.size
  have HB := Aside0.mk hB
  clear hB
  have H : ((kauditmake_Src_N.f s0_0 s0_1 (l1.length : Int)).bind fun bt106 => (if 0 ≤ bt106.1 then (if bt106.1 < (l1.length : Int) then (some (rdOf ByteArray.empty l1 bt106.1, bt106.2)) else (none)) else (none))) = some (r1, r2) := h
  clear h
  replace H := Option.bind_eq_some_iff.mp H
  obtain ⟨⟨t106, t107⟩, A30, H⟩ := H
  replace H : (if 0 ≤ t106 then (if t106 < (l1.length : Int) then (some (rdOf ByteArray.empty l1 t106, t107)) else (none)) else (none)) = some (r1, r2) := H
  have A3 := Aside0.mk A30
  clear A30
  by_cases c4 : 0 ≤ t106
  · rw [if_pos c4] at H
    have c4b0 : decide (0 ≤ t106) = true := decide_eq_true c4
    clear c4
    by_cases c5 : t106 < (l1.length : Int)
    · rw [if_pos c5] at H
      have c5b0 : decide (t106 < (l1.length : Int)) = true := decide_eq_true c5
      clear c5
      simp only [Option.some.injEq, Prod.mk.injEq] at H
      obtain ⟨rfl, rfl⟩ := H
      go_enter Tryd.func26, Tryd.ntmps26
      go_wp2_with (first | ((with_reducible refine gate_callee (f := 12) rfl ?_); refine goesL_ (some 9) rfl rfl Tryd.func12 (by kernel_rfl) rfl #[.pointer (some ⟨g, 0, none⟩), .int .i64 (l1.length : Int)] rfl (by (try simp only [List.map_toArray, List.map_cons, List.map_nil]); first | done | rfl | (simp only [List.length_drop, List.length_take]; rfl)) ?_; (with_reducible refine (kauditmake_Src_N.calls g s0_0 s0_1 (l1.length : Int) t106 t107 w0 _ ?side1 ?side2 A3.out).mono ?_); (case side1 => repeat (first | (with_reducible first | exact HI0.out | apply IsS39.alloc | apply IsS39.drewN | apply IsS39.drew | apply IsS39.set_1) | exact HI0.out)); (case side2 => repeat (first | (with_reducible first | exact HB.out | apply below_alloc | apply pw_below_drewN | apply below_drew1 | refine below_set ?_ (IsS39.ge HI0.out)) | exact HB.out)); rintro e w6 ⟨rfl, hi, hb, hk⟩; refine ⟨_, rfl, ?_⟩; have n0_ := Aside0.mk (KeepBut.trans (by repeat (first | (with_reducible first | exact HK.out | apply KeepBut.set_ | apply keep_drewN | apply keep_drew | apply keep_alloc) | exact HK.out)) hk (.inl rfl)); have n1_ := Aside0.mk (hb); have n2_ := Aside0.mk (hi); clear HK; clear HB; clear HI0; have HK := n0_; have HB := n1_; have HI0 := n2_; clear n0_ n1_ n2_; (try clear hb); (try clear hb2); (try clear hk); (try clear hi); have p108 : 0 ≤ (t106 : Int) := of_decide_eq_true (by first | (with_reducible assumption) | assumption); have q108 : t106 < (l1.length : Int) := of_decide_eq_true (by first | (with_reducible assumption) | assumption); obtain ⟨ad108, e108, hx108_0⟩ := Kd.at_string HR1.out t106 p108 q108; cases e108; replace hx108_0 := keep_cell HK.out hx108_0 (by first | (rw [add_block]; exact hf1 _ rfl (by omega)) | exact hf1 _ rfl (by omega) | exact hf1 ad108 rfl (by omega)); replace p108 := eq_true p108; replace q108 := eq_true q108))
      go_ret
      exact ⟨by first | rfl | (simp [errW_none, errW_some] <;> rfl) | (simp [*, errW_none, errW_some] <;> rfl), by repeat (first | (with_reducible first | exact HI0.out | apply IsS39.alloc | apply IsS39.drewN | apply IsS39.drew | apply IsS39.set_1) | exact HI0.out), by repeat (first | (with_reducible first | exact HB.out | apply below_alloc | apply pw_below_drewN | apply below_drew1 | refine below_set ?_ (IsS39.ge HI0.out)) | exact HB.out), by repeat (first | (with_reducible first | exact HK.out | apply KeepBut.set_ | apply keep_drewN | apply keep_drew | apply keep_alloc) | exact HK.out)⟩
    · rw [if_neg c5] at H
      exact absurd H (by simp)
  · rw [if_neg c4] at H
    exact absurd H (by simp)

end Go.Proofs.YtnjabpgbpgocnaaDoor.PAll

-- PAllx5
namespace Go.Proofs.YtnjabpgbpgocnaaDoor.PAll
open Go.RowKit Go.Proofs.YtnjabpgbpgocnaaDoorW.PrintWords Go.Proofs.YtnjabpgbpgocnaaDoorW.PrintLast Go.Proofs.YtnjabpgbpgocnaaDoorW.PrintMore
attribute [local go_sem] max2_int min2_int max_two min_two max_three min_three max_four min_four   -- for this text's walks alone
set_option linter.unusedVariables false
set_option linter.unusedSimpArgs false

/-! ### kauditmake_Src_Clean: function 11 -/
def kauditmake_Src_Clean.l0 : Nat → ByteArray → Int → List Int → Int → Option (ByteArray × Int)
  | 0, _, _, _, _ => none
  | k + 1, x3, x4, x1000, x1001 => if x4 > 0 then ((kauditmake_Src_Word.f x1000 x1001 (([(⟨#[97]⟩ : ByteArray), (⟨#[98]⟩ : ByteArray), (⟨#[99]⟩ : ByteArray), (⟨#[108]⟩ : ByteArray), (⟨#[109]⟩ : ByteArray)] : List ByteArray))).bind fun bt117 => (if 1 + bt117.1.size ≤ 9223372036854775807 then (if x3.size + ((⟨#[47]⟩ : ByteArray) ++ bt117.1).size ≤ 9223372036854775807 then (kauditmake_Src_Clean.l0 k (x3 ++ ((⟨#[47]⟩ : ByteArray) ++ bt117.1)) (wrap64 (x4 - 1)) x1000 bt117.2) else (none)) else (none))) else (some (x3, x1001))
def kauditmake_Src_Clean.f (k : Nat) (s0_0 : List Int) (s0_1 : Int) : Option (ByteArray × Int) := (kauditmake_Src_Pick.f s0_0 s0_1 (([1, 1, 2, 2, 3] : List Int))).bind fun bt112 => (kauditmake_Src_Clean.l0 k (⟨#[]⟩ : ByteArray) bt112.1 s0_0 bt112.2)
theorem kauditmake_Src_Clean.mono_l : ∀ k, (∀ y0 y1 y2 y3, LeO (kauditmake_Src_Clean.l0 k y0 y1 y2 y3) (kauditmake_Src_Clean.l0 (k + 1) y0 y1 y2 y3))
  | 0 => fun _ _ _ _ r h => by simp [kauditmake_Src_Clean.l0] at h
  | k + 1 => by
    have ih0 := kauditmake_Src_Clean.mono_l k
    · intro y0 y1 y2 y3
      unfold kauditmake_Src_Clean.l0
      repeat' first
      | (with_reducible exact ih0 _ _ _ _)
      | (with_reducible exact LeO.refl _)
      | (with_reducible exact LeO.none _)
      | (with_reducible refine LeO.ite ?_ ?_)
      | (with_reducible refine LeO.bind ?_ (fun _ => ?_))
      | exact ih0 _ _ _ _
      | exact LeO.none _
      | refine LeO.ite ?_ ?_
      | refine LeO.bind ?_ (fun _ => ?_)
theorem kauditmake_Src_Clean.mono : ∀ a0 a1 k, LeO (kauditmake_Src_Clean.f k a0 a1) (kauditmake_Src_Clean.f (k + 1) a0 a1) := by
  intro a0 a1 k
  have ih0 := kauditmake_Src_Clean.mono_l k
  unfold kauditmake_Src_Clean.f
  repeat' first
      | (with_reducible exact ih0 _ _ _ _)
      | (with_reducible exact LeO.refl _)
      | (with_reducible exact LeO.none _)
      | (with_reducible refine LeO.ite ?_ ?_)
      | (with_reducible refine LeO.bind ?_ (fun _ => ?_))
      | exact ih0 _ _ _ _
      | exact LeO.none _
      | refine LeO.ite ?_ ?_
      | refine LeO.bind ?_ (fun _ => ?_)
set_option maxHeartbeats 8000000 in
set_option maxRecDepth 100000 in
theorem kauditmake_Src_Clean.calls (k : Nat) (g : Nat) (s0_0 : List Int) (s0_1 : Int) (r1 : ByteArray) (r2 : Int) (w0 w : World) (hI : IsS39 w0 w g s0_0 s0_1) (hB : Below w0.heap.size w0 w) (h : kauditmake_Src_Clean.f k s0_0 s0_1 = some (r1, r2)) :
    Calls Tryd.prog 11 #[.pointer (some ⟨g, 0, none⟩)] w fun e w' => e = .returned (.string r1) ∧ IsS39 w0 w' g s0_0 r2 ∧ Below w0.heap.size w0 w' ∧ KeepBut w w' g none := by
  have HI0 := Aside0.mk hI
  have HK := Aside0.mk (KeepBut.refl w g none)
  have HL := Aside0.mk hB.size
  clear hI
  have HW0 := Aside0.mk hB.size
  have HB := Aside0.mk hB
  clear hB
  have H : ((kauditmake_Src_Pick.f s0_0 s0_1 (([1, 1, 2, 2, 3] : List Int))).bind fun bt112 => (kauditmake_Src_Clean.l0 k (⟨#[]⟩ : ByteArray) bt112.1 s0_0 bt112.2)) = some (r1, r2) := h
  clear h
  obtain ⟨y109, hy109⟩ : ∃ y_ : List Int, y_ = (([1, 1, 2, 2, 3] : List Int)) := ⟨_, rfl⟩
  replace H : ((kauditmake_Src_Pick.f s0_0 s0_1 y109).bind fun bt112 => (kauditmake_Src_Clean.l0 k (⟨#[]⟩ : ByteArray) bt112.1 s0_0 bt112.2)) = some (r1, r2) := by first | (rw [hy109]; with_reducible exact H) | (have H2_ := (Option.bind_some _ _).symm.trans H; rw [hy109]; with_reducible exact H2_) | (have H2_ := (Option.bind_some _ _).symm.trans H; with_reducible exact H2_) | with_reducible exact H | (rw [hy109]; exact H) | exact H
  have Ny109 := Aside0.mk hy109
  clear hy109
  replace H := Option.bind_eq_some_iff.mp H
  obtain ⟨⟨t112, t113⟩, A20, H⟩ := H
  replace H : (kauditmake_Src_Clean.l0 k (⟨#[]⟩ : ByteArray) t112 s0_0 t113) = some (r1, r2) := H
  have A2 := Aside0.mk A20
  clear A20
  have H' := Aside0.mk H
  clear H
  go_enter Tryd.func11, Tryd.ntmps11
  go_wp2_with (first | ((with_reducible refine gate_dst (N := 6) rfl ?_); refine Kd.R_lit (Kd.int .i64) _ 3 ?hg (N := 6) ?hd (xs := ([1, 1, 2, 2, 3] : List Int)) (inner := [.int .i64 1, .int .i64 1, .int .i64 2, .int .i64 2, .int .i64 3]) (ok := fun _ => True) (okp := fun _ => True) ?hr ?hp (fun _ hk => hk) trivial (Below.refl _ _) (Nat.le_refl _) (by simp) ?_; (case hd => rfl); (case hg => rfl); (case hr => first | (go_simp; done) | (go_simp; rfl)); (case hp => exact (Reps.one (show Kd.M (Kd.int .i64) _ _ _ 1 [.int .i64 1] from rfl) (Reps.one (show Kd.M (Kd.int .i64) _ _ _ 1 [.int .i64 1] from rfl) (Reps.one (show Kd.M (Kd.int .i64) _ _ _ 2 [.int .i64 2] from rfl) (Reps.one (show Kd.M (Kd.int .i64) _ _ _ 2 [.int .i64 2] from rfl) (Reps.one (show Kd.M (Kd.int .i64) _ _ _ 3 [.int .i64 3] from rfl) (Reps.none _ _))))))); intro v110 w3 ho4 hb hg_ hnew_; clear hg_ hnew_; (first | rw [← Ny109.out] at ho4 | (simp only [Int.reduceToNat] at ho4; rw [← Ny109.out] at ho4)); have n0_ := Aside0.mk (Kd.R_lower ho4 (keep_size (w := w) (g := g) (row := none) (by repeat (first | (with_reducible first | exact HK.out | apply KeepBut.set_ | apply keep_drewN | apply keep_drew | apply keep_alloc) | exact HK.out)))); have n1_ := Aside0.mk (IsS39.below (by repeat (first | (with_reducible first | exact HI0.out | apply IsS39.alloc | apply IsS39.drewN | apply IsS39.drew | apply IsS39.set_1) | exact HI0.out)) hb); have n2_ := Aside0.mk (KeepBut.trans (by repeat (first | (with_reducible first | exact HK.out | apply KeepBut.set_ | apply keep_drewN | apply keep_drew | apply keep_alloc) | exact HK.out)) (KeepBut.of_below hb g none) (.inl rfl)); have n3_ := Aside0.mk (below_step (by repeat (first | (with_reducible first | exact HB.out | apply below_alloc | apply pw_below_drewN | apply below_drew1 | refine below_set ?_ (IsS39.ge HI0.out)) | exact HB.out)) hb); clear HI0; clear HK; clear HB; have HO111 := n0_; have HI0 := n1_; have HK := n2_; have HB := n3_; clear n0_ n1_ n2_ n3_; clear hb ho4; obtain ⟨Ao5, co5, eo5⟩ := Kd.R_slice HO111.out; subst eo5) | ((with_reducible refine gate_callee (f := 25) rfl ?_); refine goesL_ (some 7) rfl rfl Tryd.func25 (by kernel_rfl) rfl #[.pointer (some ⟨g, 0, none⟩), .slice Ao5 y109.length co5] rfl (by (try simp only [List.map_toArray, List.map_cons, List.map_nil]); first | done | rfl | (simp only [List.length_drop, List.length_take]; rfl)) ?_; (with_reducible refine (kauditmake_Src_Pick.calls g s0_0 s0_1 _ _ y109 t112 t113 w0 _ ?side1 ?side2 ?side3 ?side4 ?side5 A2.out).mono ?_); (case side1 => repeat (first | (with_reducible first | exact HI0.out | apply IsS39.alloc | apply IsS39.drewN | apply IsS39.drew | apply IsS39.set_1) | exact HI0.out)); (case side2 => repeat (first | (with_reducible first | exact HB.out | apply below_alloc | apply pw_below_drewN | apply below_drew1 | refine below_set ?_ (IsS39.ge HI0.out)) | exact HB.out)); (case side3 => repeat (first | exact (Kd.R_reads' HO111.out).2.2 | (with_reducible refine Kd.C_alloc ?_ _) | (with_reducible refine Kd.C_drewN ?_ _) | (with_reducible refine Kd.C_drew ?_))); (case side4 => exact (Kd.R_reads' HO111.out).2.1); (case side5 => exact far_slice (IsS39.own_ne HI0.out HO111.out (by decide))); rintro e w6 ⟨rfl, hi, hb, hk⟩; refine ⟨_, rfl, ?_⟩; have n0_ := Aside0.mk (Kd.R_mono (Kd.R_keep (IsS39.apart (show IsS39 w0 _ g s0_0 s0_1 from by repeat (first | (with_reducible first | exact HI0.out | apply IsS39.alloc | apply IsS39.drewN | apply IsS39.drew | apply IsS39.set_1) | exact HI0.out)) (by (with_reducible repeat (first | apply Kd.R_alloc | apply Kd.R_drewN | apply Kd.R_drew)); exact HO111.out) (by decide)) hk (fun _ h => h.2)) (fun _ h => h.1)); have n1_ := Aside0.mk (KeepBut.trans (by repeat (first | (with_reducible first | exact HK.out | apply KeepBut.set_ | apply keep_drewN | apply keep_drew | apply keep_alloc) | exact HK.out)) hk (.inl rfl)); have n2_ := Aside0.mk (hb); have n3_ := Aside0.mk (hi); clear HO111; clear HK; clear HB; clear HI0; have HO111 := n0_; have HK := n1_; have HB := n2_; have HI0 := n3_; clear n0_ n1_ n2_ n3_; (try clear hb); (try clear hb2); (try clear hk); (try clear hi)))
  (first | go_loopg [3, 4] k (fun kq v3 v4 w' => ∃ (x3_1 : ByteArray) (x4_1 : Int) (x1001_1 : Int), v3 = .string x3_1 ∧ v4 = .int .i64 x4_1 ∧ Aside0 (kauditmake_Src_Clean.l0 kq x3_1 x4_1 s0_0 x1001_1 = some (r1, r2)) ∧ Aside0 (kq ≤ k) ∧ Aside0 (IsS39 w0 w' g s0_0 x1001_1) ∧ Aside0 (KeepBut w w' g none) ∧ Aside0 (Below w0.heap.size w0 w')) | (go_simp; go_loopg [3, 4] k (fun kq v3 v4 w' => ∃ (x3_1 : ByteArray) (x4_1 : Int) (x1001_1 : Int), v3 = .string x3_1 ∧ v4 = .int .i64 x4_1 ∧ Aside0 (kauditmake_Src_Clean.l0 kq x3_1 x4_1 s0_0 x1001_1 = some (r1, r2)) ∧ Aside0 (kq ≤ k) ∧ Aside0 (IsS39 w0 w' g s0_0 x1001_1) ∧ Aside0 (KeepBut w w' g none) ∧ Aside0 (Below w0.heap.size w0 w'))))
  case atStart => exact ⟨((⟨#[]⟩ : ByteArray)), (t112), (t113), (by first | rfl | (simp; done) | (simp [*]; done)), (by first | rfl | (simp; done) | (simp [*]; done)), H', ⟨Nat.le_refl _⟩, ⟨by repeat (first | (with_reducible first | exact HI0.out | apply IsS39.alloc | apply IsS39.drewN | apply IsS39.drew | apply IsS39.set_1) | exact HI0.out)⟩, ⟨by repeat (first | (with_reducible first | exact HK.out | apply KeepBut.set_ | apply keep_drewN | apply keep_drew | apply keep_alloc) | exact HK.out)⟩, ⟨by repeat (first | (with_reducible first | exact HB.out | apply below_alloc | apply pw_below_drewN | apply below_drew1 | refine below_set ?_ (IsS39.ge HI0.out)) | exact HB.out)⟩⟩
  case round =>
    clear H'
    try clear c1
    try clear c2
    try clear p2
    obtain ⟨x3_1, x4_1, x1001_1, rfl, rfl, HA, HK1, HI0, HK, HB⟩ := hrel
    cases gk with
    | zero => exact absurd HA.out (by simp [kauditmake_Src_Clean.l0])
    | succ k1 =>
      have H := HA.out
      clear HA
      simp only [kauditmake_Src_Clean.l0] at H
      by_cases c7 : x4_1 > 0
      · rw [if_pos c7] at H
        have c7b0 : decide (0 < x4_1) = true := decide_eq_true c7
        clear c7
        obtain ⟨y114, hy114⟩ : ∃ y_ : List ByteArray, y_ = (([(⟨#[97]⟩ : ByteArray), (⟨#[98]⟩ : ByteArray), (⟨#[99]⟩ : ByteArray), (⟨#[108]⟩ : ByteArray), (⟨#[109]⟩ : ByteArray)] : List ByteArray)) := ⟨_, rfl⟩
        replace H : ((kauditmake_Src_Word.f s0_0 x1001_1 y114).bind fun bt117 => (if 1 + bt117.1.size ≤ 9223372036854775807 then (if x3_1.size + ((⟨#[47]⟩ : ByteArray) ++ bt117.1).size ≤ 9223372036854775807 then (kauditmake_Src_Clean.l0 k1 (x3_1 ++ ((⟨#[47]⟩ : ByteArray) ++ bt117.1)) (wrap64 (x4_1 - 1)) s0_0 bt117.2) else (none)) else (none))) = some (r1, r2) := by first | (rw [hy114]; with_reducible exact H) | (have H2_ := (Option.bind_some _ _).symm.trans H; rw [hy114]; with_reducible exact H2_) | (have H2_ := (Option.bind_some _ _).symm.trans H; with_reducible exact H2_) | with_reducible exact H | (rw [hy114]; exact H) | exact H
        have Ny114 := Aside0.mk hy114
        clear hy114
        replace H := Option.bind_eq_some_iff.mp H
        obtain ⟨⟨t117, t118⟩, A80, H⟩ := H
        replace H : (if 1 + t117.size ≤ 9223372036854775807 then (if x3_1.size + ((⟨#[47]⟩ : ByteArray) ++ t117).size ≤ 9223372036854775807 then (kauditmake_Src_Clean.l0 k1 (x3_1 ++ ((⟨#[47]⟩ : ByteArray) ++ t117)) (wrap64 (x4_1 - 1)) s0_0 t118) else (none)) else (none)) = some (r1, r2) := H
        have A8 := Aside0.mk A80
        clear A80
        by_cases c9 : 1 + t117.size ≤ 9223372036854775807
        · rw [if_pos c9] at H
          have c9b0 := eq_true c9
          have c9b1 : decide (1 + t117.size ≤ 9223372036854775807) = true := decide_eq_true c9
          try have c9b2 : (9223372036854775807 < 1 + t117.size) = False := eq_false (Nat.not_lt.2 c9)
          by_cases c10 : x3_1.size + ((⟨#[47]⟩ : ByteArray) ++ t117).size ≤ 9223372036854775807
          · rw [if_pos c10] at H
            have c10b0 := eq_true c10
            have c10b1 : decide (x3_1.size + ((⟨#[47]⟩ : ByteArray) ++ t117).size ≤ 9223372036854775807) = true := decide_eq_true c10
            try have c10b2 : (9223372036854775807 < x3_1.size + ((⟨#[47]⟩ : ByteArray) ++ t117).size) = False := eq_false (Nat.not_lt.2 c10)
            have H' := Aside0.mk H
            clear H
            go_wp2_with (first | ((with_reducible refine gate_dst (N := 14) rfl ?_); refine Kd.R_lit Kd.string _ 9 ?hg (N := 14) ?hd (xs := ([(⟨#[97]⟩ : ByteArray), (⟨#[98]⟩ : ByteArray), (⟨#[99]⟩ : ByteArray), (⟨#[108]⟩ : ByteArray), (⟨#[109]⟩ : ByteArray)] : List ByteArray)) (inner := [.string (⟨#[97]⟩ : ByteArray), .string (⟨#[98]⟩ : ByteArray), .string (⟨#[99]⟩ : ByteArray), .string (⟨#[108]⟩ : ByteArray), .string (⟨#[109]⟩ : ByteArray)]) (ok := fun _ => True) (okp := fun _ => True) ?hr ?hp (fun _ hk => hk) trivial (Below.refl _ _) (Nat.le_refl _) (by simp) ?_; (case hd => rfl); (case hg => rfl); (case hr => first | (go_simp; done) | (go_simp; rfl)); (case hp => exact (Reps.one (show Kd.M Kd.string _ _ _ (⟨#[97]⟩ : ByteArray) [.string (⟨#[97]⟩ : ByteArray)] from rfl) (Reps.one (show Kd.M Kd.string _ _ _ (⟨#[98]⟩ : ByteArray) [.string (⟨#[98]⟩ : ByteArray)] from rfl) (Reps.one (show Kd.M Kd.string _ _ _ (⟨#[99]⟩ : ByteArray) [.string (⟨#[99]⟩ : ByteArray)] from rfl) (Reps.one (show Kd.M Kd.string _ _ _ (⟨#[108]⟩ : ByteArray) [.string (⟨#[108]⟩ : ByteArray)] from rfl) (Reps.one (show Kd.M Kd.string _ _ _ (⟨#[109]⟩ : ByteArray) [.string (⟨#[109]⟩ : ByteArray)] from rfl) (Reps.none _ _))))))); intro v115 w11 ho12 hb hg_ hnew_; clear hg_ hnew_; (first | rw [← Ny114.out] at ho12 | (simp only [Int.reduceToNat] at ho12; rw [← Ny114.out] at ho12)); have n0_ := Aside0.mk (Kd.R_lower ho12 (keep_size (w := w) (g := g) (row := none) (by repeat (first | (with_reducible first | exact HK.out | apply KeepBut.set_ | apply keep_drewN | apply keep_drew | apply keep_alloc) | exact HK.out)))); have n1_ := Aside0.mk (IsS39.below (by repeat (first | (with_reducible first | exact HI0.out | apply IsS39.alloc | apply IsS39.drewN | apply IsS39.drew | apply IsS39.set_1) | exact HI0.out)) hb); have n2_ := Aside0.mk (KeepBut.trans (by repeat (first | (with_reducible first | exact HK.out | apply KeepBut.set_ | apply keep_drewN | apply keep_drew | apply keep_alloc) | exact HK.out)) (KeepBut.of_below hb g none) (.inl rfl)); have n3_ := Aside0.mk (below_step (by repeat (first | (with_reducible first | exact HB.out | apply below_alloc | apply pw_below_drewN | apply below_drew1 | refine below_set ?_ (IsS39.ge HI0.out)) | exact HB.out)) hb); clear HI0; clear HK; clear HB; have HO116 := n0_; have HI0 := n1_; have HK := n2_; have HB := n3_; clear n0_ n1_ n2_ n3_; clear hb ho12; obtain ⟨Ao13, co13, eo13⟩ := Kd.R_slice HO116.out; subst eo13) | ((with_reducible refine gate_callee (f := 26) rfl ?_); refine goesL_ (some 15) rfl rfl Tryd.func26 (by kernel_rfl) rfl #[.pointer (some ⟨g, 0, none⟩), .slice Ao13 y114.length co13] rfl (by (try simp only [List.map_toArray, List.map_cons, List.map_nil]); first | done | rfl | (simp only [List.length_drop, List.length_take]; rfl)) ?_; (with_reducible refine (kauditmake_Src_Word.calls g s0_0 x1001_1 _ _ y114 t117 t118 w0 _ ?side1 ?side2 ?side3 ?side4 ?side5 A8.out).mono ?_); (case side1 => repeat (first | (with_reducible first | exact HI0.out | apply IsS39.alloc | apply IsS39.drewN | apply IsS39.drew | apply IsS39.set_1) | exact HI0.out)); (case side2 => repeat (first | (with_reducible first | exact HB.out | apply below_alloc | apply pw_below_drewN | apply below_drew1 | refine below_set ?_ (IsS39.ge HI0.out)) | exact HB.out)); (case side3 => repeat (first | exact (Kd.R_reads' HO116.out).2.2 | (with_reducible refine Kd.C_alloc ?_ _) | (with_reducible refine Kd.C_drewN ?_ _) | (with_reducible refine Kd.C_drew ?_))); (case side4 => exact (Kd.R_reads' HO116.out).2.1); (case side5 => exact far_slice (IsS39.own_ne HI0.out HO116.out (by decide))); rintro e w14 ⟨rfl, hi, hb, hk⟩; refine ⟨_, rfl, ?_⟩; have n0_ := Aside0.mk (Kd.R_mono (Kd.R_keep (IsS39.apart (show IsS39 w0 _ g s0_0 x1001_1 from by repeat (first | (with_reducible first | exact HI0.out | apply IsS39.alloc | apply IsS39.drewN | apply IsS39.drew | apply IsS39.set_1) | exact HI0.out)) (by (with_reducible repeat (first | apply Kd.R_alloc | apply Kd.R_drewN | apply Kd.R_drew)); exact HO116.out) (by decide)) hk (fun _ h => h.2)) (fun _ h => h.1)); have n1_ := Aside0.mk (KeepBut.trans (by repeat (first | (with_reducible first | exact HK.out | apply KeepBut.set_ | apply keep_drewN | apply keep_drew | apply keep_alloc) | exact HK.out)) hk (.inl rfl)); have n2_ := Aside0.mk (hb); have n3_ := Aside0.mk (hi); clear HO116; clear HK; clear HB; clear HI0; have HO116 := n0_; have HK := n1_; have HB := n2_; have HI0 := n3_; clear n0_ n1_ n2_ n3_; (try clear hb); (try clear hb2); (try clear hk); (try clear hi)))
            go_roundg k1
            case measure => have := HK1.out; omega
            case rel => exact ⟨(x3_1 ++ ((⟨#[47]⟩ : ByteArray) ++ t117)), (wrap64 (x4_1 - 1)), (t118), (by first | rfl | (simp; done) | (simp [*]; done)), (by first | rfl | (simp; done) | (simp [*]; done)), H', ⟨by have := HK1.out; omega⟩, ⟨by repeat (first | (with_reducible first | exact HI0.out | apply IsS39.alloc | apply IsS39.drewN | apply IsS39.drew | apply IsS39.set_1) | exact HI0.out)⟩, ⟨by repeat (first | (with_reducible first | exact HK.out | apply KeepBut.set_ | apply keep_drewN | apply keep_drew | apply keep_alloc) | exact HK.out)⟩, ⟨by repeat (first | (with_reducible first | exact HB.out | apply below_alloc | apply pw_below_drewN | apply below_drew1 | refine below_set ?_ (IsS39.ge HI0.out)) | exact HB.out)⟩⟩
          · rw [if_neg c10] at H
            exact absurd H (by simp)
        · rw [if_neg c9] at H
          exact absurd H (by simp)
      · rw [if_neg c7] at H
        have c7b0 : decide (0 < x4_1) = false := decide_eq_false c7
        clear c7
        simp only [Option.some.injEq, Prod.mk.injEq] at H
        obtain ⟨rfl, rfl⟩ := H
        go_wp2
        go_ret
        exact ⟨by first | rfl | (simp [errW_none, errW_some] <;> rfl) | (simp [*, errW_none, errW_some] <;> rfl), by repeat (first | (with_reducible first | exact HI0.out | apply IsS39.alloc | apply IsS39.drewN | apply IsS39.drew | apply IsS39.set_1) | exact HI0.out), by repeat (first | (with_reducible first | exact HB.out | apply below_alloc | apply pw_below_drewN | apply below_drew1 | refine below_set ?_ (IsS39.ge HI0.out)) | exact HB.out), by repeat (first | (with_reducible first | exact HK.out | apply KeepBut.set_ | apply keep_drewN | apply keep_drew | apply keep_alloc) | exact HK.out)⟩

end Go.Proofs.YtnjabpgbpgocnaaDoor.PAll

-- PureD
/- The worked example of the statements, and the makers of inputs (N, Pick, Word, Clean), in plain words. Condition: the maker's place stays below 10^9. -/
namespace Go.Proofs.YtnjabpgbpgocnaaDoor.PAll
open Go Go.RowKit Go.Proofs.YtnjabpgbpgocnaaDoorW.PrintWords Go.Proofs.YtnjabpgbpgocnaaDoorW.PrintLast Go.Proofs.YtnjabpgbpgocnaaDoorW.PrintMore
set_option linter.unusedVariables false
set_option linter.unusedSimpArgs false

theorem awake0 : kauditlaw04_awake.f 40 = some true := by kernel_rfl
theorem awake_eq (k : Nat) (hk : 40 ≤ k) : kauditlaw04_awake.f k = some true := by
  obtain ⟨d, rfl⟩ : ∃ d, k = 40 + d := ⟨k - 40, by omega⟩
  induction d with
  | zero => exact awake0
  | succ d ih => exact kauditlaw04_awake.mono (40 + d) _ (ih (by omega))

theorem N_eq (s : List Int) (i n : Int) (hi : 0 ≤ i) (hi2 : i ≤ 1000000000) (hn : 1 ≤ n) (hn2 : n ≤ 1000) : ∃ v, kauditmake_Src_N.f s i n = some (v, i + 1) ∧ 0 ≤ v ∧ v < n := by
  have e1 : wrap64 (i + 1) = i + 1 := by unfold wrap64; omega
  have e2 : wrap64 (i + 1 - 1) = i := by unfold wrap64; omega
  have key : ∀ x : Int, ∃ v, (if Int.tmod x n < 0 then some (wrap64 (Int.tmod x n + n), i + 1) else some (Int.tmod x n, i + 1)) = some (v, i + 1) ∧ 0 ≤ v ∧ v < n := fun x => by
    have h1 := Int.tmod_lt_of_pos x (show 0 < n by omega)
    have h2 : -n < Int.tmod x n := by
      have := Int.tmod_lt_of_pos (-x) (show 0 < n by omega)
      rw [Int.neg_tmod] at this
      omega
    by_cases h : Int.tmod x n < 0
    · exact ⟨Int.tmod x n + n, by rw [if_pos h, show wrap64 (Int.tmod x n + n) = Int.tmod x n + n by unfold wrap64; omega], by omega, by omega⟩
    · exact ⟨Int.tmod x n, by rw [if_neg h], by omega, by omega⟩
  unfold kauditmake_Src_N.f
  rw [if_neg (by omega), e1, e2]
  by_cases h : i + 1 ≤ (s.length : Int)
  · rw [if_pos h, if_pos hi, if_pos (by omega), if_neg (by omega)]
    exact key _
  · rw [if_neg h, if_neg (by omega)]
    exact key _

theorem Word_eq (s : List Int) (i : Int) (l : List ByteArray) (hi : 0 ≤ i) (hi2 : i ≤ 1000000000) (hl : 1 ≤ l.length) (hl2 : l.length ≤ 1000) :
    ∃ w, w ∈ l ∧ kauditmake_Src_Word.f s i l = some (w, i + 1) := by
  obtain ⟨v, hv, h0, h1⟩ := N_eq s i (l.length : Int) hi hi2 (by omega) (by omega)
  have hlt : v.toNat < l.length := by omega
  refine ⟨l[v.toNat]'hlt, List.getElem_mem hlt, ?_⟩
  unfold kauditmake_Src_Word.f
  rw [hv, Option.bind_some, if_pos h0, if_pos h1]
  refine congrArg some (Prod.ext ?_ rfl)
  show rdOf ByteArray.empty l v = _
  rw [rdOf, List.getD_eq_getElem?_getD, List.getElem?_eq_getElem hlt]
  rfl

theorem Pick_eq (s : List Int) (i : Int) (l : List Int) (hi : 0 ≤ i) (hi2 : i ≤ 1000000000) (hl : 1 ≤ l.length) (hl2 : l.length ≤ 1000) :
    ∃ w, w ∈ l ∧ kauditmake_Src_Pick.f s i l = some (w, i + 1) := by
  obtain ⟨v, hv, h0, h1⟩ := N_eq s i (l.length : Int) hi hi2 (by omega) (by omega)
  have hlt : v.toNat < l.length := by omega
  refine ⟨l[v.toNat]'hlt, List.getElem_mem hlt, ?_⟩
  unfold kauditmake_Src_Pick.f
  rw [hv, Option.bind_some, if_pos h0, if_pos h1]
  refine congrArg some (Prod.ext ?_ rfl)
  show rd l v = _
  rw [rd, List.getD_eq_getElem?_getD, List.getElem?_eq_getElem hlt]
  rfl

theorem srcClean_loop (s : List Int) : ∀ (n : Nat) (x : ByteArray) (i : Int) (k : Nat), n ≤ 10 → x.size + 2 * n ≤ 1000 → 0 ≤ i → i + n ≤ 1000000000 → n + 1 ≤ k →
    ∃ ps, ps.length = n ∧ (∀ p ∈ ps, nameL p = true ∧ p.length = 1) ∧ kauditmake_Src_Clean.l0 k x (n : Int) s i = some (ofL (x.data.toList ++ joinP ps), i + n) := by
  intro n
  induction n with
  | zero =>
    intro x i k _ _ _ _ hk
    obtain ⟨k, rfl⟩ : ∃ j, k = j + 1 := ⟨k - 1, by omega⟩
    refine ⟨[], rfl, by simp, ?_⟩
    rw [kauditmake_Src_Clean.l0, if_neg (by omega), joinP_nil, List.append_nil, ofL_data]
    simp
  | succ n ih =>
    intro x i k hn hx hi hi2 hk
    obtain ⟨k, rfl⟩ : ∃ j, k = j + 1 := ⟨k - 1, by omega⟩
    obtain ⟨w, hw, he⟩ := Word_eq s i [⟨#[97]⟩, ⟨#[98]⟩, ⟨#[99]⟩, ⟨#[108]⟩, ⟨#[109]⟩] hi (by omega) (by simp) (by simp)
    have hw2 : w.size = 1 ∧ nameL w.data.toList = true := by
      simp only [List.mem_cons, List.not_mem_nil, or_false] at hw
      rcases hw with rfl | rfl | rfl | rfl | rfl <;> exact ⟨rfl, by decide⟩
    have e1 : (⟨#[47]⟩ : ByteArray).size = 1 := rfl
    have ez : ((⟨#[47]⟩ : ByteArray) ++ w).size = 2 := by rw [ByteArray.size_append, e1, hw2.1]
    have e2 : wrap64 (((n + 1 : Nat) : Int) - 1) = (n : Int) := by unfold wrap64; omega
    obtain ⟨ps, hlen, hps, hf⟩ := ih (x ++ ((⟨#[47]⟩ : ByteArray) ++ w)) (i + 1) k (by omega) (by rw [ByteArray.size_append, ez]; omega) (by omega) (by omega) (by omega)
    refine ⟨w.data.toList :: ps, by simp [hlen], ?_, ?_⟩
    · intro p hp
      rcases List.mem_cons.1 hp with rfl | hp
      · exact ⟨hw2.2, by rw [← size_len]; exact hw2.1⟩
      · exact hps p hp
    · rw [kauditmake_Src_Clean.l0, if_pos (by omega), he, Option.bind_some]
      dsimp only
      rw [if_pos (by omega), if_pos (by omega), e2, hf]
      refine congrArg some (Prod.ext ?_ ?_)
      · rw [app_list, app_list, slash_list, joinP_cons]
        simp
      · show i + 1 + (n : Int) = i + ((n + 1 : Nat) : Int)
        omega

/-- What Src.Clean makes: a clean path of one to three names of one byte. -/
theorem srcClean_eq (s : List Int) (i : Int) (k : Nat) (hi : 0 ≤ i) (hi2 : i ≤ 999999000) (hk : 4 ≤ k) :
    ∃ ps i', ps ≠ [] ∧ ps.length ≤ 3 ∧ (∀ p ∈ ps, nameL p = true ∧ p.length = 1) ∧ i ≤ i' ∧ i' ≤ i + 4 ∧ kauditmake_Src_Clean.f k s i = some (ofL (joinP ps), i') := by
  obtain ⟨w, hw, he⟩ := Pick_eq s i [1, 1, 2, 2, 3] hi (by omega) (by simp) (by simp)
  obtain ⟨n, rfl, hn1, hn3⟩ : ∃ n : Nat, w = (n : Int) ∧ 1 ≤ n ∧ n ≤ 3 := by
    simp only [List.mem_cons, List.not_mem_nil, or_false] at hw
    exact ⟨w.toNat, by omega, by omega, by omega⟩
  obtain ⟨ps, hlen, hps, hf⟩ := srcClean_loop s n ⟨#[]⟩ (i + 1) k (by omega) (by show 0 + 2 * n ≤ 1000; omega) (by omega) (by omega) (by omega)
  refine ⟨ps, i + 1 + n, by intro e; rw [e] at hlen; simp at hlen; omega, by omega, hps, by omega, by omega, ?_⟩
  unfold kauditmake_Src_Clean.f
  rw [he, Option.bind_some]
  dsimp only
  rw [hf]
  rfl

theorem joinP_length {ps : List (List UInt8)} {m : Nat} (h : ∀ p ∈ ps, p.length ≤ m) : (joinP ps).length ≤ ps.length * (m + 1) := by
  induction ps with
  | nil => simp [joinP]
  | cons p ps ih =>
    have h1 := ih (fun q hq => h q (by simp [hq]))
    have h2 := h p (by simp)
    rw [joinP_cons, List.length_cons, List.length_append, List.length_cons, Nat.succ_mul]
    omega

end Go.Proofs.YtnjabpgbpgocnaaDoor.PAll

-- PureF
/- The reference's Join, Clean, Parent, and the comparison of lists of texts, in plain words. Condition: texts of at most 100000 bytes. -/
namespace Go.Proofs.YtnjabpgbpgocnaaDoor.PAll
open Go Go.RowKit Go.Proofs.YtnjabpgbpgocnaaDoorW.PrintWords Go.Proofs.YtnjabpgbpgocnaaDoorW.PrintLast Go.Proofs.YtnjabpgbpgocnaaDoorW.PrintMore
set_option linter.unusedVariables false
set_option linter.unusedSimpArgs false

theorem refJoin_eq (a b : ByteArray) (ha : a.size < 4294967296) (hb : b.size < 4294967296) : kauditref04_Join.f a b = some (ofL (joinL a.data.toList b.data.toList)) := by
  have e1 : (⟨#[47]⟩ : ByteArray).size = 1 := rfl
  have hyes : a ++ b = ofL (a.data.toList ++ b.data.toList) := ba_ext (by rw [app_list, ofL_list])
  have hno : (a ++ (⟨#[47]⟩ : ByteArray)) ++ b = ofL (a.data.toList ++ 47 :: b.data.toList) := ba_ext (by rw [app_list, app_list, ofL_list, slash_list]; simp)
  unfold kauditref04_Join.f
  by_cases h0 : 0 < a.size
  · have e : wrap64 ((a.size : Int) - 1) = ((a.size - 1 : Nat) : Int) := by unfold wrap64; omega
    have hl := last_bt a h0
    rw [if_pos (by omega), e, if_pos (by omega), if_pos (by omega), joinL]
    by_cases c : bt a ((a.size - 1 : Nat) : Int) = 47
    · have hg : a.data.toList.getLast? = some 47 := by
        rw [c] at hl
        exact of_decide_eq_true (by unfold lastSlash at hl; rw [← hl]; rfl)
      rw [if_pos c, if_pos (by omega), if_pos hg, hyes]
    · have hg : a.data.toList.getLast? ≠ some 47 := by
        intro h
        have : lastSlash a = true := by unfold lastSlash; exact decide_eq_true h
        rw [this, beq_iff_eq] at hl
        exact c hl
      rw [if_neg c, if_pos (by omega), if_pos (by rw [ByteArray.size_append, e1]; omega), if_neg hg, hno]
  · have hl : a.data.toList = [] := List.length_eq_zero_iff.1 (by rw [← size_len]; omega)
    rw [if_neg (by omega), if_pos (by omega), if_pos (by rw [ByteArray.size_append, e1]; omega), hno, joinL, hl]
    rfl

theorem piecesOf_map (s : ByteArray) : piecesOf s = (piecesL [] s.data.toList).map ofL := rfl

theorem joinP_pieces_le : ∀ (l cur : List UInt8), (joinP (piecesL cur l)).length ≤ l.length + cur.length + 1
  | [], cur => by
    by_cases h : cur = []
    · rw [piecesL, if_pos h]; simp [joinP]
    · rw [piecesL, if_neg h]; simp [joinP]
  | b :: l, cur => by
    have h1 := joinP_pieces_le l []
    have h2 := joinP_pieces_le l (cur ++ [b])
    rw [List.length_append] at h2
    simp at h1 h2
    by_cases hb : b = 47
    · by_cases h : cur = []
      · rw [piecesL, if_pos hb, if_pos h]; simp; omega
      · rw [piecesL, if_pos hb, if_neg h, joinP_cons]; simp; omega
    · rw [piecesL, if_neg hb]; simp; omega

theorem joinP_count (qs : List (List UInt8)) : qs.length ≤ (joinP qs).length := by
  induction qs with
  | nil => simp
  | cons q qs ih => rw [joinP_cons]; simp; omega

theorem joinP_parts (ps : List (List UInt8)) (i : Nat) (hi : i < ps.length) : joinP ps = joinP (ps.take i) ++ (47 :: (ps[i]'hi) ++ joinP (ps.drop (i + 1))) := by
  have h1 := List.take_append_drop i ps
  rw [List.drop_eq_getElem_cons hi] at h1
  conv => lhs; rw [← h1]
  rw [joinP_append, joinP_cons]
  simp

theorem refClean_end (s t : ByteArray) (xs : List ByteArray) (k : Nat) : kauditref04_Clean.l0 (k + 1) s xs t (xs.length : Int) = some (s.data.toList == [47] || (decide (xs.length ≠ 0) && s.data.toList == t.data.toList)) := by
  rw [kauditref04_Clean.l0, if_neg (by omega), Lib.toList_data, Lib.toList_data]
  by_cases h1 : s.data.toList = [47]
  · rw [if_pos h1, h1]; rfl
  · have hb : (s.data.toList == [47]) = false := by simpa using h1
    rw [if_neg h1, hb, Bool.false_or]
    by_cases h0 : xs.length = 0
    · rw [if_neg (by omega), decide_eq_false (fun h => h h0), Bool.false_and]
    · rw [if_pos (by omega), decide_eq_true h0, Bool.true_and]

theorem refClean_round (s t P : ByteArray) (xs : List ByteArray) (i k : Nat) (hi : i < xs.length) (hi2 : i ≤ 1000000) (hP : rdOf ByteArray.empty xs (i : Int) = P) (ht : t.size ≤ 200000) (hPz : P.size ≤ 200000) (hk : 15 ≤ k) :
    kauditref04_Clean.l0 (k + 1) s xs t (i : Int) = if nameL P.data.toList = true then kauditref04_Clean.l0 k s xs (t ++ ((⟨#[47]⟩ : ByteArray) ++ P)) ((i + 1 : Nat) : Int) else some false := by
  have e1 : (⟨#[47]⟩ : ByteArray).size = 1 := rfl
  have e2 : wrap64 ((i : Int) + 1) = ((i + 1 : Nat) : Int) := by unfold wrap64; omega
  rw [kauditref04_Clean.l0, if_pos (by omega), if_pos (by omega), hP, refName_eq P k hk, Option.bind_some, if_pos (show 1 + P.size ≤ 9223372036854775807 by omega), if_pos (show t.size + ((⟨#[47]⟩ : ByteArray) ++ P).size ≤ 9223372036854775807 by rw [ByteArray.size_append, e1]; omega), e2]

theorem refClean_loop (s : ByteArray) (ps : List (List UInt8)) (hps : (joinP ps).length ≤ 200000) : ∀ (d i k : Nat) (t : ByteArray), i + d = ps.length → t.data.toList = joinP (ps.take i) → d + 16 ≤ k →
    kauditref04_Clean.l0 k s (ps.map ofL) t (i : Int) = some ((ps.drop i).all nameL && (s.data.toList == [47] || (decide (ps ≠ []) && s.data.toList == joinP ps))) := by
  have hcount := joinP_count ps
  have hml : (ps.map ofL).length = ps.length := List.length_map _
  intro d
  induction d with
  | zero =>
    intro i k t hi ht hk
    obtain ⟨k, rfl⟩ : ∃ j, k = j + 1 := ⟨k - 1, by omega⟩
    obtain rfl : i = ps.length := by omega
    have h := refClean_end s t (ps.map ofL) k
    rw [hml] at h
    rw [h, List.drop_length, List.all_nil, Bool.true_and, ht, List.take_length]
    congr 3
    rw [Bool.eq_iff_iff, decide_eq_true_eq, decide_eq_true_eq]
    exact ⟨fun h e => h (by rw [e]; rfl), fun h e => h (List.length_eq_zero_iff.1 e)⟩
  | succ d ih =>
    intro i k t hi ht hk
    obtain ⟨k, rfl⟩ : ∃ j, k = j + 1 := ⟨k - 1, by omega⟩
    have hlt : i < ps.length := by omega
    have hlen := congrArg List.length (joinP_parts ps i hlt)
    simp only [List.length_append, List.length_cons] at hlen
    have htz : t.size ≤ 200000 := by rw [size_len, ht]; omega
    have hPz : (ofL (ps[i]'hlt)).size ≤ 200000 := by rw [ofL_size]; omega
    have hr := refClean_round s t (ofL (ps[i]'hlt)) (ps.map ofL) i k (by omega) (by omega) (rdOf_map ps i hlt) htz hPz (by omega)
    rw [ofL_list] at hr
    rw [hr, List.drop_eq_getElem_cons hlt, List.all_cons]
    by_cases hn : nameL (ps[i]'hlt) = true
    · have hih := ih (i + 1) k (t ++ ((⟨#[47]⟩ : ByteArray) ++ ofL (ps[i]'hlt))) (by omega) (by
        rw [app_list, app_list, slash_list, ofL_list, ht, List.take_succ_eq_append_getElem hlt, joinP_append, joinP_single]
        rfl) (by omega)
      rw [if_pos hn, hih, hn, Bool.true_and]
    · rw [if_neg hn, Bool.eq_false_iff.2 hn, Bool.false_and, Bool.false_and]

theorem refClean_eq (s : ByteArray) (k : Nat) (hs : s.size ≤ 100000) (hk : 2 * s.size + 20 ≤ k) : kauditref04_Clean.f k s = some (cleanL s.data.toList) := by
  have hj := joinP_pieces_le s.data.toList []
  rw [← size_len] at hj
  simp at hj
  have hc := joinP_count (piecesL [] s.data.toList)
  unfold kauditref04_Clean.f
  rw [refSplit_eq s k hs (by omega), Option.bind_some]
  dsimp only
  have h := refClean_loop s (piecesL [] s.data.toList) (by omega) (piecesL [] s.data.toList).length 0 k ⟨#[]⟩ (by omega) rfl (by omega)
  rw [show ((0 : Nat) : Int) = 0 from rfl, List.drop_zero] at h
  rw [piecesOf_map, h, ← clean_pieces]

theorem refParent_loop (qs : List (List UInt8)) (n : List UInt8) (hn : ∀ p ∈ qs ++ [n], nameL p = true) (hz : (joinP (qs ++ [n])).length ≤ 200000) : ∀ (d i k : Nat) (dir : ByteArray), i + d = qs.length → dir.data.toList = (if i = 0 then [47] else joinP (qs.take i)) → d + 1 ≤ k →
    kauditref04_Parent.l0 k ((qs ++ [n]).map ofL) dir (i : Int) = some (ofL (if qs = [] then [47] else joinP qs), ofL n, true) := by
  have hcount := joinP_count (qs ++ [n])
  have hlen : ((qs ++ [n]).map ofL).length = qs.length + 1 := by simp
  rw [List.length_append, List.length_singleton] at hcount
  intro d
  induction d with
  | zero =>
    intro i k dir hi hdir hk
    obtain ⟨k, rfl⟩ : ∃ j, k = j + 1 := ⟨k - 1, by omega⟩
    obtain rfl : i = qs.length := by omega
    have e2 : wrap64 ((qs.length : Int) + 1) = ((qs.length + 1 : Nat) : Int) := by unfold wrap64; omega
    have e3 : wrap64 (((qs.length + 1 : Nat) : Int) - 1) = (qs.length : Int) := by unfold wrap64; omega
    have hlt : qs.length < (qs ++ [n]).length := by simp
    rw [kauditref04_Parent.l0, hlen, e2, if_neg (by omega), e3, if_pos (by omega), if_pos (by omega), rdOf_map (qs ++ [n]) qs.length hlt]
    refine congrArg some (Prod.ext ?_ (Prod.ext ?_ rfl))
    · refine ba_ext ?_
      rw [ofL_list, hdir, List.take_length]
      cases qs with
      | nil => rfl
      | cons q qs => rw [if_neg (by simp), if_neg (by simp)]
    · show ofL _ = ofL n
      congr 1
      simp
  | succ d ih =>
    intro i k dir hi hdir hk
    obtain ⟨k, rfl⟩ : ∃ j, k = j + 1 := ⟨k - 1, by omega⟩
    have hlt : i < (qs ++ [n]).length := by simp; omega
    have hlq : i < qs.length := by omega
    have hget : (qs ++ [n])[i]'hlt = qs[i]'hlq := List.getElem_append_left hlq
    have e2 : wrap64 ((i : Int) + 1) = ((i + 1 : Nat) : Int) := by unfold wrap64; omega
    have hparts := congrArg List.length (joinP_parts (qs ++ [n]) i hlt)
    simp only [List.length_append, List.length_cons] at hparts
    have htake : (qs ++ [n]).take i = qs.take i := List.take_append_of_le_length (by omega)
    rw [htake, hget] at hparts
    have hdz : dir.size < 4294967296 := by
      rw [size_len, hdir]
      split
      · simp
      · omega
    have hpz : (ofL (qs[i]'hlq)).size < 4294967296 := by
      rw [ofL_size]
      have := nameL_len (hn (qs[i]'hlq) (by simp))
      omega
    rw [kauditref04_Parent.l0, hlen, e2, if_pos (by omega), if_pos (by omega), if_pos (by omega), rdOf_map (qs ++ [n]) i hlt, hget, refJoin_eq dir _ hdz hpz, Option.bind_some]
    refine ih (i + 1) k _ (by omega) ?_ (by omega)
    rw [ofL_list, ofL_list, if_neg (by omega), List.take_succ_eq_append_getElem hlq, joinP_append, joinP_single, hdir]
    by_cases h0 : i = 0
    · subst h0
      rw [if_pos rfl, List.take_zero, joinP_nil]
      rfl
    · rw [if_neg h0]
      refine joinL_clean (fun p hp => hn p ?_) ?_ _
      · exact List.mem_append_left _ (List.mem_of_mem_take hp)
      · intro e
        have := congrArg List.length e
        rw [List.length_take, List.length_nil] at this
        omega

theorem refParent_eq (s : ByteArray) (k : Nat) (hs : s.size ≤ 100000) (hk : 2 * s.size + 20 ≤ k) :
    kauditref04_Parent.f k s = some (ofL (parentL s.data.toList).1, ofL (parentL s.data.toList).2.1, (parentL s.data.toList).2.2) := by
  have hno : ¬ (cleanL s.data.toList = true ∧ s.data.toList ≠ [47]) → (some ((⟨#[]⟩ : ByteArray), (⟨#[]⟩ : ByteArray), false) : Option (ByteArray × ByteArray × Bool)) = some (ofL (parentL s.data.toList).1, ofL (parentL s.data.toList).2.1, (parentL s.data.toList).2.2) := fun h => by
    rw [parentL_no h]; rfl
  obtain ⟨j, hj⟩ : ∃ j, k = j + 1 := ⟨k - 1, by omega⟩
  unfold kauditref04_Parent.f
  rw [refClean_eq s k hs hk, Option.bind_some]
  by_cases hc : cleanL s.data.toList = true
  · rw [if_pos hc, Lib.toList_data, hj, kauditref04_Parent.j0]
    by_cases h1 : s.data.toList = [47]
    · rw [if_pos (by simpa using h1)]
      exact hno (fun h => h.2 h1)
    · obtain ⟨qs, n, hn, hl⟩ := clean_snoc hc h1
      have hp := pieces_join (ps := qs ++ [n]) (fun p hp => nameL_free (hn p hp)) (fun p hp => nameL_ne (hn p hp))
      have hjz : (joinP (qs ++ [n])).length = s.size := by rw [← hl, ← size_len]
      have hcount := joinP_count (qs ++ [n])
      rw [List.length_append, List.length_singleton] at hcount
      have h := refParent_loop qs n hn (by omega) qs.length 0 j ⟨#[47]⟩ (by omega) rfl (by omega)
      rw [show ((0 : Nat) : Int) = 0 from rfl] at h
      have hpar : parentL s.data.toList = (if qs = [] then [47] else joinP qs, n, true) := by rw [hl]; exact parentL_join hn
      rw [if_neg (by simpa using h1), refSplit_eq s j hs (by omega), Option.bind_some]
      dsimp only
      rw [piecesOf_map, hl, hp, h, ← hl, hpar]
  · rw [if_neg hc, hj, kauditref04_Parent.j0, if_pos rfl]
    exact hno (fun h => hc h.1)

theorem same_loop (xs : List ByteArray) (hl : xs.length ≤ 1000000) : ∀ (d i k : Nat), i + d = xs.length → d + 1 ≤ k → kauditlaw04_same.l0 k xs xs (i : Int) = some true := by
  intro d
  induction d with
  | zero =>
    intro i k hi hk
    obtain ⟨k, rfl⟩ : ∃ j, k = j + 1 := ⟨k - 1, by omega⟩
    rw [kauditlaw04_same.l0, if_neg (by omega)]
  | succ d ih =>
    intro i k hi hk
    obtain ⟨k, rfl⟩ : ∃ j, k = j + 1 := ⟨k - 1, by omega⟩
    have e2 : wrap64 ((i : Int) + 1) = ((i + 1 : Nat) : Int) := by unfold wrap64; omega
    rw [kauditlaw04_same.l0, if_pos (by omega), if_pos (by omega), if_pos (by omega), if_pos rfl, e2]
    exact ih (i + 1) k (by omega) (by omega)

theorem same_eq (xs : List ByteArray) (hl : xs.length ≤ 1000000) (k : Nat) (hk : xs.length + 1 ≤ k) : kauditlaw04_same.f k xs xs = some true := by
  unfold kauditlaw04_same.f
  rw [if_pos rfl]
  exact same_loop xs hl xs.length 0 k (by omega) hk

/-- The functions of one text agree with the reference. -/
theorem agrees_eq (s : ByteArray) (k : Nat) (hs : s.size ≤ 100000) (hk : 3 * s.size + 20 ≤ k) : kauditlaw04_agrees.f k s = some true := by
  have hl := piecesOf_length s
  unfold kauditlaw04_agrees.f
  rw [split_eq s (by omega), Option.bind_some, refSplit_eq s k hs (by omega), Option.bind_some, pathParent_eq s k (by omega) (by omega), Option.bind_some, refParent_eq s k hs (by omega), Option.bind_some,
    name_eq, Option.bind_some, refName_eq s k (by omega), Option.bind_some, if_pos (by simp), pathClean_eq s k (by omega) (by omega), Option.bind_some, refClean_eq s k hs (by omega), Option.bind_some, if_pos (by simp)]
  dsimp only
  rw [same_eq _ (by omega) k (by omega), Option.bind_some, if_pos rfl, if_pos (by simp), if_pos (by simp), if_pos rfl, if_pos rfl]
  simp

end Go.Proofs.YtnjabpgbpgocnaaDoor.PAll

-- PAllx52
namespace Go.Proofs.YtnjabpgbpgocnaaDoor.PAll
open Go.RowKit Go.Proofs.YtnjabpgbpgocnaaDoorW.PrintWords Go.Proofs.YtnjabpgbpgocnaaDoorW.PrintLast Go.Proofs.YtnjabpgbpgocnaaDoorW.PrintMore
attribute [local go_sem] max2_int min2_int max_two min_two max_three min_three max_four min_four   -- for this text's walks alone
set_option linter.unusedVariables false
set_option linter.unusedSimpArgs false

/-! ### kauditmake_Src_Name: function 20 -/
def kauditmake_Src_Name.f (s0_0 : List Int) (s0_1 : Int) : Option (ByteArray × Int) := (kauditmake_Src_N.f s0_0 s0_1 20).bind fun bt246 => (if bt246.1 = 19 then ((kauditmake_Src_Word.f s0_0 bt246.2 (([(⟨#[]⟩ : ByteArray), (⟨#[46]⟩ : ByteArray), (⟨#[46, 46]⟩ : ByteArray), (⟨#[97, 47, 98]⟩ : ByteArray), (⟨#[97, 98, 99, 100, 101, 102, 103, 104, 105, 106, 107, 108]⟩ : ByteArray), (⟨#[97, 98, 99, 100, 101, 102, 103, 104, 105, 106, 107, 108, 109]⟩ : ByteArray), (⟨#[97, 0]⟩ : ByteArray), (⟨#[126]⟩ : ByteArray)] : List ByteArray))).bind fun bt251 => (some (bt251.1, bt251.2))) else ((kauditmake_Src_Word.f s0_0 bt246.2 (([(⟨#[97]⟩ : ByteArray), (⟨#[98]⟩ : ByteArray), (⟨#[99]⟩ : ByteArray), (⟨#[100]⟩ : ByteArray), (⟨#[108]⟩ : ByteArray), (⟨#[109]⟩ : ByteArray)] : List ByteArray))).bind fun bt256 => (some (bt256.1, bt256.2))))
set_option maxHeartbeats 8000000 in
set_option maxRecDepth 100000 in
theorem kauditmake_Src_Name.calls (g : Nat) (s0_0 : List Int) (s0_1 : Int) (r1 : ByteArray) (r2 : Int) (w0 w : World) (hI : IsS39 w0 w g s0_0 s0_1) (hB : Below w0.heap.size w0 w) (h : kauditmake_Src_Name.f s0_0 s0_1 = some (r1, r2)) :
    Calls Tryd.prog 20 #[.pointer (some ⟨g, 0, none⟩)] w fun e w' => e = .returned (.string r1) ∧ IsS39 w0 w' g s0_0 r2 ∧ Below w0.heap.size w0 w' ∧ KeepBut w w' g none := by
  have HI0 := Aside0.mk hI
  have HK := Aside0.mk (KeepBut.refl w g none)
  have HL := Aside0.mk hB.size
  clear hI
  have HW0 := Aside0.mk hB.size
  have HB := Aside0.mk hB
  clear hB
  have H : ((kauditmake_Src_N.f s0_0 s0_1 20).bind fun bt246 => (if bt246.1 = 19 then ((kauditmake_Src_Word.f s0_0 bt246.2 (([(⟨#[]⟩ : ByteArray), (⟨#[46]⟩ : ByteArray), (⟨#[46, 46]⟩ : ByteArray), (⟨#[97, 47, 98]⟩ : ByteArray), (⟨#[97, 98, 99, 100, 101, 102, 103, 104, 105, 106, 107, 108]⟩ : ByteArray), (⟨#[97, 98, 99, 100, 101, 102, 103, 104, 105, 106, 107, 108, 109]⟩ : ByteArray), (⟨#[97, 0]⟩ : ByteArray), (⟨#[126]⟩ : ByteArray)] : List ByteArray))).bind fun bt251 => (some (bt251.1, bt251.2))) else ((kauditmake_Src_Word.f s0_0 bt246.2 (([(⟨#[97]⟩ : ByteArray), (⟨#[98]⟩ : ByteArray), (⟨#[99]⟩ : ByteArray), (⟨#[100]⟩ : ByteArray), (⟨#[108]⟩ : ByteArray), (⟨#[109]⟩ : ByteArray)] : List ByteArray))).bind fun bt256 => (some (bt256.1, bt256.2))))) = some (r1, r2) := h
  clear h
  replace H := Option.bind_eq_some_iff.mp H
  obtain ⟨⟨t246, t247⟩, A20, H⟩ := H
  replace H : (if t246 = 19 then ((kauditmake_Src_Word.f s0_0 t247 (([(⟨#[]⟩ : ByteArray), (⟨#[46]⟩ : ByteArray), (⟨#[46, 46]⟩ : ByteArray), (⟨#[97, 47, 98]⟩ : ByteArray), (⟨#[97, 98, 99, 100, 101, 102, 103, 104, 105, 106, 107, 108]⟩ : ByteArray), (⟨#[97, 98, 99, 100, 101, 102, 103, 104, 105, 106, 107, 108, 109]⟩ : ByteArray), (⟨#[97, 0]⟩ : ByteArray), (⟨#[126]⟩ : ByteArray)] : List ByteArray))).bind fun bt251 => (some (bt251.1, bt251.2))) else ((kauditmake_Src_Word.f s0_0 t247 (([(⟨#[97]⟩ : ByteArray), (⟨#[98]⟩ : ByteArray), (⟨#[99]⟩ : ByteArray), (⟨#[100]⟩ : ByteArray), (⟨#[108]⟩ : ByteArray), (⟨#[109]⟩ : ByteArray)] : List ByteArray))).bind fun bt256 => (some (bt256.1, bt256.2)))) = some (r1, r2) := H
  have A2 := Aside0.mk A20
  clear A20
  by_cases c3 : t246 = 19
  · rw [if_pos c3] at H
    have c3b0 : (t246 == 19) = true := beq_iff_eq.mpr c3
    have c3b1 : (t246 != 19) = false := bne_eq_false_iff_eq.mpr c3
    clear c3
    obtain ⟨y248, hy248⟩ : ∃ y_ : List ByteArray, y_ = (([(⟨#[]⟩ : ByteArray), (⟨#[46]⟩ : ByteArray), (⟨#[46, 46]⟩ : ByteArray), (⟨#[97, 47, 98]⟩ : ByteArray), (⟨#[97, 98, 99, 100, 101, 102, 103, 104, 105, 106, 107, 108]⟩ : ByteArray), (⟨#[97, 98, 99, 100, 101, 102, 103, 104, 105, 106, 107, 108, 109]⟩ : ByteArray), (⟨#[97, 0]⟩ : ByteArray), (⟨#[126]⟩ : ByteArray)] : List ByteArray)) := ⟨_, rfl⟩
    replace H : ((kauditmake_Src_Word.f s0_0 t247 y248).bind fun bt251 => (some (bt251.1, bt251.2))) = some (r1, r2) := by first | (rw [hy248]; with_reducible exact H) | (have H2_ := (Option.bind_some _ _).symm.trans H; rw [hy248]; with_reducible exact H2_) | (have H2_ := (Option.bind_some _ _).symm.trans H; with_reducible exact H2_) | with_reducible exact H | (rw [hy248]; exact H) | exact H
    have Ny248 := Aside0.mk hy248
    clear hy248
    replace H := Option.bind_eq_some_iff.mp H
    obtain ⟨⟨t251, t252⟩, A40, H⟩ := H
    replace H : (some (t251, t252)) = some (r1, r2) := H
    have A4 := Aside0.mk A40
    clear A40
    simp only [Option.some.injEq, Prod.mk.injEq] at H
    obtain ⟨rfl, rfl⟩ := H
    go_enter Tryd.func20, Tryd.ntmps20
    go_wp2_with (first | ((with_reducible refine gate_callee (f := 12) rfl ?_); refine goesL_ (some 4) rfl rfl Tryd.func12 (by kernel_rfl) rfl #[.pointer (some ⟨g, 0, none⟩), .int .i64 20] rfl (by (try simp only [List.map_toArray, List.map_cons, List.map_nil]); first | done | rfl | (simp only [List.length_drop, List.length_take]; rfl)) ?_; (with_reducible refine (kauditmake_Src_N.calls g s0_0 s0_1 20 t246 t247 w0 _ ?side1 ?side2 A2.out).mono ?_); (case side1 => repeat (first | (with_reducible first | exact HI0.out | apply IsS39.alloc | apply IsS39.drewN | apply IsS39.drew | apply IsS39.set_1) | exact HI0.out)); (case side2 => repeat (first | (with_reducible first | exact HB.out | apply below_alloc | apply pw_below_drewN | apply below_drew1 | refine below_set ?_ (IsS39.ge HI0.out)) | exact HB.out)); rintro e w5 ⟨rfl, hi, hb, hk⟩; refine ⟨_, rfl, ?_⟩; have n0_ := Aside0.mk (KeepBut.trans (by repeat (first | (with_reducible first | exact HK.out | apply KeepBut.set_ | apply keep_drewN | apply keep_drew | apply keep_alloc) | exact HK.out)) hk (.inl rfl)); have n1_ := Aside0.mk (hb); have n2_ := Aside0.mk (hi); clear HK; clear HB; clear HI0; have HK := n0_; have HB := n1_; have HI0 := n2_; clear n0_ n1_ n2_; (try clear hb); (try clear hb2); (try clear hk); (try clear hi)) | ((with_reducible refine gate_dst (N := 7) rfl ?_); refine Kd.R_lit Kd.string _ 9 ?hg (N := 7) ?hd (xs := ([(⟨#[]⟩ : ByteArray), (⟨#[46]⟩ : ByteArray), (⟨#[46, 46]⟩ : ByteArray), (⟨#[97, 47, 98]⟩ : ByteArray), (⟨#[97, 98, 99, 100, 101, 102, 103, 104, 105, 106, 107, 108]⟩ : ByteArray), (⟨#[97, 98, 99, 100, 101, 102, 103, 104, 105, 106, 107, 108, 109]⟩ : ByteArray), (⟨#[97, 0]⟩ : ByteArray), (⟨#[126]⟩ : ByteArray)] : List ByteArray)) (inner := [.string (⟨#[]⟩ : ByteArray), .string (⟨#[46]⟩ : ByteArray), .string (⟨#[46, 46]⟩ : ByteArray), .string (⟨#[97, 47, 98]⟩ : ByteArray), .string (⟨#[97, 98, 99, 100, 101, 102, 103, 104, 105, 106, 107, 108]⟩ : ByteArray), .string (⟨#[97, 98, 99, 100, 101, 102, 103, 104, 105, 106, 107, 108, 109]⟩ : ByteArray), .string (⟨#[97, 0]⟩ : ByteArray), .string (⟨#[126]⟩ : ByteArray)]) (ok := fun _ => True) (okp := fun _ => True) ?hr ?hp (fun _ hk => hk) trivial (Below.refl _ _) (Nat.le_refl _) (by simp) ?_; (case hd => rfl); (case hg => rfl); (case hr => first | (go_simp; done) | (go_simp; rfl)); (case hp => exact (Reps.one (show Kd.M Kd.string _ _ _ (⟨#[]⟩ : ByteArray) [.string (⟨#[]⟩ : ByteArray)] from rfl) (Reps.one (show Kd.M Kd.string _ _ _ (⟨#[46]⟩ : ByteArray) [.string (⟨#[46]⟩ : ByteArray)] from rfl) (Reps.one (show Kd.M Kd.string _ _ _ (⟨#[46, 46]⟩ : ByteArray) [.string (⟨#[46, 46]⟩ : ByteArray)] from rfl) (Reps.one (show Kd.M Kd.string _ _ _ (⟨#[97, 47, 98]⟩ : ByteArray) [.string (⟨#[97, 47, 98]⟩ : ByteArray)] from rfl) (Reps.one (show Kd.M Kd.string _ _ _ (⟨#[97, 98, 99, 100, 101, 102, 103, 104, 105, 106, 107, 108]⟩ : ByteArray) [.string (⟨#[97, 98, 99, 100, 101, 102, 103, 104, 105, 106, 107, 108]⟩ : ByteArray)] from rfl) (Reps.one (show Kd.M Kd.string _ _ _ (⟨#[97, 98, 99, 100, 101, 102, 103, 104, 105, 106, 107, 108, 109]⟩ : ByteArray) [.string (⟨#[97, 98, 99, 100, 101, 102, 103, 104, 105, 106, 107, 108, 109]⟩ : ByteArray)] from rfl) (Reps.one (show Kd.M Kd.string _ _ _ (⟨#[97, 0]⟩ : ByteArray) [.string (⟨#[97, 0]⟩ : ByteArray)] from rfl) (Reps.one (show Kd.M Kd.string _ _ _ (⟨#[126]⟩ : ByteArray) [.string (⟨#[126]⟩ : ByteArray)] from rfl) (Reps.none _ _)))))))))); intro v249 w6 ho7 hb hg_ hnew_; clear hg_ hnew_; (first | rw [← Ny248.out] at ho7 | (simp only [Int.reduceToNat] at ho7; rw [← Ny248.out] at ho7)); have n0_ := Aside0.mk (Kd.R_lower ho7 (keep_size (w := w) (g := g) (row := none) (by repeat (first | (with_reducible first | exact HK.out | apply KeepBut.set_ | apply keep_drewN | apply keep_drew | apply keep_alloc) | exact HK.out)))); have n1_ := Aside0.mk (IsS39.below (by repeat (first | (with_reducible first | exact HI0.out | apply IsS39.alloc | apply IsS39.drewN | apply IsS39.drew | apply IsS39.set_1) | exact HI0.out)) hb); have n2_ := Aside0.mk (KeepBut.trans (by repeat (first | (with_reducible first | exact HK.out | apply KeepBut.set_ | apply keep_drewN | apply keep_drew | apply keep_alloc) | exact HK.out)) (KeepBut.of_below hb g none) (.inl rfl)); have n3_ := Aside0.mk (below_step (by repeat (first | (with_reducible first | exact HB.out | apply below_alloc | apply pw_below_drewN | apply below_drew1 | refine below_set ?_ (IsS39.ge HI0.out)) | exact HB.out)) hb); clear HI0; clear HK; clear HB; have HO250 := n0_; have HI0 := n1_; have HK := n2_; have HB := n3_; clear n0_ n1_ n2_ n3_; clear hb ho7; obtain ⟨Ao8, co8, eo8⟩ := Kd.R_slice HO250.out; subst eo8) | ((with_reducible refine gate_callee (f := 26) rfl ?_); refine goesL_ (some 8) rfl rfl Tryd.func26 (by kernel_rfl) rfl #[.pointer (some ⟨g, 0, none⟩), .slice Ao8 y248.length co8] rfl (by (try simp only [List.map_toArray, List.map_cons, List.map_nil]); first | done | rfl | (simp only [List.length_drop, List.length_take]; rfl)) ?_; (with_reducible refine (kauditmake_Src_Word.calls g s0_0 t247 _ _ y248 t251 t252 w0 _ ?side1 ?side2 ?side3 ?side4 ?side5 A4.out).mono ?_); (case side1 => repeat (first | (with_reducible first | exact HI0.out | apply IsS39.alloc | apply IsS39.drewN | apply IsS39.drew | apply IsS39.set_1) | exact HI0.out)); (case side2 => repeat (first | (with_reducible first | exact HB.out | apply below_alloc | apply pw_below_drewN | apply below_drew1 | refine below_set ?_ (IsS39.ge HI0.out)) | exact HB.out)); (case side3 => repeat (first | exact (Kd.R_reads' HO250.out).2.2 | (with_reducible refine Kd.C_alloc ?_ _) | (with_reducible refine Kd.C_drewN ?_ _) | (with_reducible refine Kd.C_drew ?_))); (case side4 => exact (Kd.R_reads' HO250.out).2.1); (case side5 => exact far_slice (IsS39.own_ne HI0.out HO250.out (by decide))); rintro e w9 ⟨rfl, hi, hb, hk⟩; refine ⟨_, rfl, ?_⟩; have n0_ := Aside0.mk (Kd.R_mono (Kd.R_keep (IsS39.apart (show IsS39 w0 _ g s0_0 t247 from by repeat (first | (with_reducible first | exact HI0.out | apply IsS39.alloc | apply IsS39.drewN | apply IsS39.drew | apply IsS39.set_1) | exact HI0.out)) (by (with_reducible repeat (first | apply Kd.R_alloc | apply Kd.R_drewN | apply Kd.R_drew)); exact HO250.out) (by decide)) hk (fun _ h => h.2)) (fun _ h => h.1)); have n1_ := Aside0.mk (KeepBut.trans (by repeat (first | (with_reducible first | exact HK.out | apply KeepBut.set_ | apply keep_drewN | apply keep_drew | apply keep_alloc) | exact HK.out)) hk (.inl rfl)); have n2_ := Aside0.mk (hb); have n3_ := Aside0.mk (hi); clear HO250; clear HK; clear HB; clear HI0; have HO250 := n0_; have HK := n1_; have HB := n2_; have HI0 := n3_; clear n0_ n1_ n2_ n3_; (try clear hb); (try clear hb2); (try clear hk); (try clear hi)))
    go_ret
    exact ⟨by first | rfl | (simp [errW_none, errW_some] <;> rfl) | (simp [*, errW_none, errW_some] <;> rfl), by repeat (first | (with_reducible first | exact HI0.out | apply IsS39.alloc | apply IsS39.drewN | apply IsS39.drew | apply IsS39.set_1) | exact HI0.out), by repeat (first | (with_reducible first | exact HB.out | apply below_alloc | apply pw_below_drewN | apply below_drew1 | refine below_set ?_ (IsS39.ge HI0.out)) | exact HB.out), by repeat (first | (with_reducible first | exact HK.out | apply KeepBut.set_ | apply keep_drewN | apply keep_drew | apply keep_alloc) | exact HK.out)⟩
  · rw [if_neg c3] at H
    have c3b0 : (t246 == 19) = false := beq_eq_false_iff_ne.mpr c3
    have c3b1 : (t246 != 19) = true := bne_iff_ne.mpr c3
    obtain ⟨y253, hy253⟩ : ∃ y_ : List ByteArray, y_ = (([(⟨#[97]⟩ : ByteArray), (⟨#[98]⟩ : ByteArray), (⟨#[99]⟩ : ByteArray), (⟨#[100]⟩ : ByteArray), (⟨#[108]⟩ : ByteArray), (⟨#[109]⟩ : ByteArray)] : List ByteArray)) := ⟨_, rfl⟩
    replace H : ((kauditmake_Src_Word.f s0_0 t247 y253).bind fun bt256 => (some (bt256.1, bt256.2))) = some (r1, r2) := by first | (rw [hy253]; with_reducible exact H) | (have H2_ := (Option.bind_some _ _).symm.trans H; rw [hy253]; with_reducible exact H2_) | (have H2_ := (Option.bind_some _ _).symm.trans H; with_reducible exact H2_) | with_reducible exact H | (rw [hy253]; exact H) | exact H
    have Ny253 := Aside0.mk hy253
    clear hy253
    replace H := Option.bind_eq_some_iff.mp H
    obtain ⟨⟨t256, t257⟩, A100, H⟩ := H
    replace H : (some (t256, t257)) = some (r1, r2) := H
    have A10 := Aside0.mk A100
    clear A100
    simp only [Option.some.injEq, Prod.mk.injEq] at H
    obtain ⟨rfl, rfl⟩ := H
    go_enter Tryd.func20, Tryd.ntmps20
    go_wp2_with (first | ((with_reducible refine gate_callee (f := 12) rfl ?_); refine goesL_ (some 4) rfl rfl Tryd.func12 (by kernel_rfl) rfl #[.pointer (some ⟨g, 0, none⟩), .int .i64 20] rfl (by (try simp only [List.map_toArray, List.map_cons, List.map_nil]); first | done | rfl | (simp only [List.length_drop, List.length_take]; rfl)) ?_; (with_reducible refine (kauditmake_Src_N.calls g s0_0 s0_1 20 t246 t247 w0 _ ?side1 ?side2 A2.out).mono ?_); (case side1 => repeat (first | (with_reducible first | exact HI0.out | apply IsS39.alloc | apply IsS39.drewN | apply IsS39.drew | apply IsS39.set_1) | exact HI0.out)); (case side2 => repeat (first | (with_reducible first | exact HB.out | apply below_alloc | apply pw_below_drewN | apply below_drew1 | refine below_set ?_ (IsS39.ge HI0.out)) | exact HB.out)); rintro e w11 ⟨rfl, hi, hb, hk⟩; refine ⟨_, rfl, ?_⟩; have n0_ := Aside0.mk (KeepBut.trans (by repeat (first | (with_reducible first | exact HK.out | apply KeepBut.set_ | apply keep_drewN | apply keep_drew | apply keep_alloc) | exact HK.out)) hk (.inl rfl)); have n1_ := Aside0.mk (hb); have n2_ := Aside0.mk (hi); clear HK; clear HB; clear HI0; have HK := n0_; have HB := n1_; have HI0 := n2_; clear n0_ n1_ n2_; (try clear hb); (try clear hb2); (try clear hk); (try clear hi)) | ((with_reducible refine gate_dst (N := 10) rfl ?_); refine Kd.R_lit Kd.string _ 9 ?hg (N := 10) ?hd (xs := ([(⟨#[97]⟩ : ByteArray), (⟨#[98]⟩ : ByteArray), (⟨#[99]⟩ : ByteArray), (⟨#[100]⟩ : ByteArray), (⟨#[108]⟩ : ByteArray), (⟨#[109]⟩ : ByteArray)] : List ByteArray)) (inner := [.string (⟨#[97]⟩ : ByteArray), .string (⟨#[98]⟩ : ByteArray), .string (⟨#[99]⟩ : ByteArray), .string (⟨#[100]⟩ : ByteArray), .string (⟨#[108]⟩ : ByteArray), .string (⟨#[109]⟩ : ByteArray)]) (ok := fun _ => True) (okp := fun _ => True) ?hr ?hp (fun _ hk => hk) trivial (Below.refl _ _) (Nat.le_refl _) (by simp) ?_; (case hd => rfl); (case hg => rfl); (case hr => first | (go_simp; done) | (go_simp; rfl)); (case hp => exact (Reps.one (show Kd.M Kd.string _ _ _ (⟨#[97]⟩ : ByteArray) [.string (⟨#[97]⟩ : ByteArray)] from rfl) (Reps.one (show Kd.M Kd.string _ _ _ (⟨#[98]⟩ : ByteArray) [.string (⟨#[98]⟩ : ByteArray)] from rfl) (Reps.one (show Kd.M Kd.string _ _ _ (⟨#[99]⟩ : ByteArray) [.string (⟨#[99]⟩ : ByteArray)] from rfl) (Reps.one (show Kd.M Kd.string _ _ _ (⟨#[100]⟩ : ByteArray) [.string (⟨#[100]⟩ : ByteArray)] from rfl) (Reps.one (show Kd.M Kd.string _ _ _ (⟨#[108]⟩ : ByteArray) [.string (⟨#[108]⟩ : ByteArray)] from rfl) (Reps.one (show Kd.M Kd.string _ _ _ (⟨#[109]⟩ : ByteArray) [.string (⟨#[109]⟩ : ByteArray)] from rfl) (Reps.none _ _)))))))); intro v254 w12 ho13 hb hg_ hnew_; clear hg_ hnew_; (first | rw [← Ny253.out] at ho13 | (simp only [Int.reduceToNat] at ho13; rw [← Ny253.out] at ho13)); have n0_ := Aside0.mk (Kd.R_lower ho13 (keep_size (w := w) (g := g) (row := none) (by repeat (first | (with_reducible first | exact HK.out | apply KeepBut.set_ | apply keep_drewN | apply keep_drew | apply keep_alloc) | exact HK.out)))); have n1_ := Aside0.mk (IsS39.below (by repeat (first | (with_reducible first | exact HI0.out | apply IsS39.alloc | apply IsS39.drewN | apply IsS39.drew | apply IsS39.set_1) | exact HI0.out)) hb); have n2_ := Aside0.mk (KeepBut.trans (by repeat (first | (with_reducible first | exact HK.out | apply KeepBut.set_ | apply keep_drewN | apply keep_drew | apply keep_alloc) | exact HK.out)) (KeepBut.of_below hb g none) (.inl rfl)); have n3_ := Aside0.mk (below_step (by repeat (first | (with_reducible first | exact HB.out | apply below_alloc | apply pw_below_drewN | apply below_drew1 | refine below_set ?_ (IsS39.ge HI0.out)) | exact HB.out)) hb); clear HI0; clear HK; clear HB; have HO255 := n0_; have HI0 := n1_; have HK := n2_; have HB := n3_; clear n0_ n1_ n2_ n3_; clear hb ho13; obtain ⟨Ao14, co14, eo14⟩ := Kd.R_slice HO255.out; subst eo14) | ((with_reducible refine gate_callee (f := 26) rfl ?_); refine goesL_ (some 11) rfl rfl Tryd.func26 (by kernel_rfl) rfl #[.pointer (some ⟨g, 0, none⟩), .slice Ao14 y253.length co14] rfl (by (try simp only [List.map_toArray, List.map_cons, List.map_nil]); first | done | rfl | (simp only [List.length_drop, List.length_take]; rfl)) ?_; (with_reducible refine (kauditmake_Src_Word.calls g s0_0 t247 _ _ y253 t256 t257 w0 _ ?side1 ?side2 ?side3 ?side4 ?side5 A10.out).mono ?_); (case side1 => repeat (first | (with_reducible first | exact HI0.out | apply IsS39.alloc | apply IsS39.drewN | apply IsS39.drew | apply IsS39.set_1) | exact HI0.out)); (case side2 => repeat (first | (with_reducible first | exact HB.out | apply below_alloc | apply pw_below_drewN | apply below_drew1 | refine below_set ?_ (IsS39.ge HI0.out)) | exact HB.out)); (case side3 => repeat (first | exact (Kd.R_reads' HO255.out).2.2 | (with_reducible refine Kd.C_alloc ?_ _) | (with_reducible refine Kd.C_drewN ?_ _) | (with_reducible refine Kd.C_drew ?_))); (case side4 => exact (Kd.R_reads' HO255.out).2.1); (case side5 => exact far_slice (IsS39.own_ne HI0.out HO255.out (by decide))); rintro e w15 ⟨rfl, hi, hb, hk⟩; refine ⟨_, rfl, ?_⟩; have n0_ := Aside0.mk (Kd.R_mono (Kd.R_keep (IsS39.apart (show IsS39 w0 _ g s0_0 t247 from by repeat (first | (with_reducible first | exact HI0.out | apply IsS39.alloc | apply IsS39.drewN | apply IsS39.drew | apply IsS39.set_1) | exact HI0.out)) (by (with_reducible repeat (first | apply Kd.R_alloc | apply Kd.R_drewN | apply Kd.R_drew)); exact HO255.out) (by decide)) hk (fun _ h => h.2)) (fun _ h => h.1)); have n1_ := Aside0.mk (KeepBut.trans (by repeat (first | (with_reducible first | exact HK.out | apply KeepBut.set_ | apply keep_drewN | apply keep_drew | apply keep_alloc) | exact HK.out)) hk (.inl rfl)); have n2_ := Aside0.mk (hb); have n3_ := Aside0.mk (hi); clear HO255; clear HK; clear HB; clear HI0; have HO255 := n0_; have HK := n1_; have HB := n2_; have HI0 := n3_; clear n0_ n1_ n2_ n3_; (try clear hb); (try clear hb2); (try clear hk); (try clear hi)))
    go_ret
    exact ⟨by first | rfl | (simp [errW_none, errW_some] <;> rfl) | (simp [*, errW_none, errW_some] <;> rfl), by repeat (first | (with_reducible first | exact HI0.out | apply IsS39.alloc | apply IsS39.drewN | apply IsS39.drew | apply IsS39.set_1) | exact HI0.out), by repeat (first | (with_reducible first | exact HB.out | apply below_alloc | apply pw_below_drewN | apply below_drew1 | refine below_set ?_ (IsS39.ge HI0.out)) | exact HB.out), by repeat (first | (with_reducible first | exact HK.out | apply KeepBut.set_ | apply keep_drewN | apply keep_drew | apply keep_alloc) | exact HK.out)⟩

end Go.Proofs.YtnjabpgbpgocnaaDoor.PAll

-- PureG
/- The reference's Under and the maker of names, in plain words. Condition: texts of at most 100000 bytes. -/
namespace Go.Proofs.YtnjabpgbpgocnaaDoor.PAll
open Go Go.RowKit Go.Proofs.YtnjabpgbpgocnaaDoorW.PrintWords Go.Proofs.YtnjabpgbpgocnaaDoorW.PrintLast Go.Proofs.YtnjabpgbpgocnaaDoorW.PrintMore
set_option linter.unusedVariables false
set_option linter.unusedSimpArgs false

theorem ofL_inj {p q : List UInt8} (h : (ofL p).toList = (ofL q).toList) : p = q := by
  rw [Lib.toList_data, Lib.toList_data, ofL_list, ofL_list] at h
  exact h

theorem refUnder_round (xs ys : List ByteArray) (i k : Nat) (hi : i < xs.length) (hle : xs.length ≤ ys.length) (hi2 : i ≤ 1000000) :
    kauditref04_Under.l0 (k + 1) xs ys (i : Int) = if (rdOf ByteArray.empty xs (i : Int)).toList = (rdOf ByteArray.empty ys (i : Int)).toList then kauditref04_Under.l0 k xs ys ((i + 1 : Nat) : Int) else some false := by
  have e2 : wrap64 ((i : Int) + 1) = ((i + 1 : Nat) : Int) := by unfold wrap64; omega
  rw [kauditref04_Under.l0, if_pos (by omega), if_pos (by omega), if_pos (by omega), e2]

theorem refUnder_loop (ps qs : List (List UInt8)) (hle : ps.length ≤ qs.length) (hz : ps.length ≤ 1000000) : ∀ (d i k : Nat), i + d = ps.length → d + 1 ≤ k →
    kauditref04_Under.l0 k (ps.map ofL) (qs.map ofL) (i : Int) = some ((ps.drop i).isPrefixOf (qs.drop i)) := by
  have hp : (ps.map ofL).length = ps.length := List.length_map _
  have hq : (qs.map ofL).length = qs.length := List.length_map _
  intro d
  induction d with
  | zero =>
    intro i k hi hk
    obtain ⟨k, rfl⟩ : ∃ j, k = j + 1 := ⟨k - 1, by omega⟩
    rw [kauditref04_Under.l0, if_neg (by omega), List.drop_eq_nil_of_le (by omega)]
    rfl
  | succ d ih =>
    intro i k hi hk
    obtain ⟨k, rfl⟩ : ∃ j, k = j + 1 := ⟨k - 1, by omega⟩
    have hlt : i < ps.length := by omega
    have hlq : i < qs.length := by omega
    rw [refUnder_round _ _ i k (by omega) (by omega) (by omega), rdOf_map ps i hlt, rdOf_map qs i hlq, List.drop_eq_getElem_cons hlt, List.drop_eq_getElem_cons hlq, List.isPrefixOf_cons_cons]
    by_cases e : ps[i]'hlt = qs[i]'hlq
    · rw [if_pos (by rw [e]), ih (i + 1) k (by omega) (by omega), show (ps[i]'hlt == qs[i]'hlq) = true by simpa using e, Bool.true_and]
    · rw [if_neg (fun h => e (ofL_inj h)), show (ps[i]'hlt == qs[i]'hlq) = false by simpa using e, Bool.false_and]

theorem refUnder_eq (a b : ByteArray) (k : Nat) (ha : a.size ≤ 100000) (hb : b.size ≤ 100000) (hka : 2 * a.size + 30 ≤ k) (hkb : 2 * b.size + 30 ≤ k) :
    kauditref04_Under.f k a b = some (underL a.data.toList b.data.toList) := by
  obtain ⟨j, hj⟩ : ∃ j, k = j + 1 := ⟨k - 1, by omega⟩
  have la := piecesOf_length a
  have lb := piecesOf_length b
  unfold kauditref04_Under.f
  rw [refClean_eq a k ha (by omega), Option.bind_some, underL]
  by_cases hca : cleanL a.data.toList = true
  · rw [if_pos hca, refClean_eq b k hb (by omega), Option.bind_some, hca, Bool.true_and, hj, kauditref04_Under.j0]
    by_cases hcb : cleanL b.data.toList = true
    · rw [hcb, Bool.true_and, if_neg (by simp), refSplit_eq a j ha (by omega), Option.bind_some, refSplit_eq b j hb (by omega), Option.bind_some]
      dsimp only
      rw [piecesOf, List.length_map] at la lb
      by_cases hl : (piecesL [] a.data.toList).length ≤ (piecesL [] b.data.toList).length
      · have h := refUnder_loop (piecesL [] a.data.toList) (piecesL [] b.data.toList) hl (by omega) (piecesL [] a.data.toList).length 0 j (by omega) (by omega)
        rw [List.drop_zero, List.drop_zero] at h
        rw [if_neg (by rw [piecesOf_map, piecesOf_map, List.length_map, List.length_map]; omega)]
        exact h
      · rw [if_pos (by rw [piecesOf_map, piecesOf_map, List.length_map, List.length_map]; omega)]
        refine congrArg some ?_
        symm
        rw [Bool.eq_false_iff, ne_eq, List.isPrefixOf_iff_prefix]
        intro hp
        exact hl hp.length_le
    · rw [Bool.eq_false_iff.2 hcb, Bool.false_and]
      rfl
  · rw [if_neg hca, Bool.eq_false_iff.2 hca, Bool.false_and, Bool.false_and, hj, kauditref04_Under.j0, if_pos rfl]

/-- The names that the maker tells. -/
def makerNames : List ByteArray := [⟨#[]⟩, ⟨#[46]⟩, ⟨#[46, 46]⟩, ⟨#[97, 47, 98]⟩, ⟨#[97, 98, 99, 100, 101, 102, 103, 104, 105, 106, 107, 108]⟩, ⟨#[97, 98, 99, 100, 101, 102, 103, 104, 105, 106, 107, 108, 109]⟩, ⟨#[97, 0]⟩, ⟨#[126]⟩, ⟨#[97]⟩, ⟨#[98]⟩, ⟨#[99]⟩, ⟨#[100]⟩, ⟨#[108]⟩, ⟨#[109]⟩]

theorem makerName_eq (s : List Int) (i : Int) (hi : 0 ≤ i) (hi2 : i ≤ 999999000) : ∃ w, w ∈ makerNames ∧ kauditmake_Src_Name.f s i = some (w, i + 2) := by
  obtain ⟨v, hv, h0, h1⟩ := N_eq s i 20 hi (by omega) (by omega) (by omega)
  unfold kauditmake_Src_Name.f
  rw [hv, Option.bind_some]
  dsimp only
  by_cases h : v = 19
  · obtain ⟨w, hw, he⟩ := Word_eq s (i + 1) [⟨#[]⟩, ⟨#[46]⟩, ⟨#[46, 46]⟩, ⟨#[97, 47, 98]⟩, ⟨#[97, 98, 99, 100, 101, 102, 103, 104, 105, 106, 107, 108]⟩, ⟨#[97, 98, 99, 100, 101, 102, 103, 104, 105, 106, 107, 108, 109]⟩, ⟨#[97, 0]⟩, ⟨#[126]⟩] (by omega) (by omega) (by simp) (by simp)
    refine ⟨w, ?_, ?_⟩
    · simp only [List.mem_cons, List.not_mem_nil, or_false] at hw
      rcases hw with rfl | rfl | rfl | rfl | rfl | rfl | rfl | rfl <;> simp [makerNames]
    · rw [if_pos h, he, Option.bind_some]
      refine congrArg some (Prod.ext rfl ?_)
      show i + 1 + 1 = i + 2
      omega
  · obtain ⟨w, hw, he⟩ := Word_eq s (i + 1) [⟨#[97]⟩, ⟨#[98]⟩, ⟨#[99]⟩, ⟨#[100]⟩, ⟨#[108]⟩, ⟨#[109]⟩] (by omega) (by omega) (by simp) (by simp)
    refine ⟨w, ?_, ?_⟩
    · simp only [List.mem_cons, List.not_mem_nil, or_false] at hw
      rcases hw with rfl | rfl | rfl | rfl | rfl | rfl <;> simp [makerNames]
    · rw [if_neg h, he, Option.bind_some]
      refine congrArg some (Prod.ext rfl ?_)
      show i + 1 + 1 = i + 2
      omega

theorem maker_small {w : ByteArray} (h : w ∈ makerNames) : w.size ≤ 13 := by
  simp only [makerNames, List.mem_cons, List.not_mem_nil, or_false] at h
  rcases h with rfl | rfl | rfl | rfl | rfl | rfl | rfl | rfl | rfl | rfl | rfl | rfl | rfl | rfl <;> decide

theorem maker_free {w : ByteArray} (h : w ∈ makerNames) (hne : w.data.toList ≠ [97, 47, 98]) : Free w.data.toList := by
  simp only [makerNames, List.mem_cons, List.not_mem_nil, or_false] at h
  rcases h with rfl | rfl | rfl | rfl | rfl | rfl | rfl | rfl | rfl | rfl | rfl | rfl | rfl | rfl
  case inr.inr.inr.inl => exact absurd rfl hne
  all_goals (intro b hb; revert b; decide)

end Go.Proofs.YtnjabpgbpgocnaaDoor.PAll

-- PurePathPairs
/- PathPairs: Join and Under return what the reference returns: plain law. No condition. -/
namespace Go.Proofs.YtnjabpgbpgocnaaDoor.Pure
open Go Go.RowKit Go.Proofs.YtnjabpgbpgocnaaDoor.PAll Go.Proofs.YtnjabpgbpgocnaaDoorW.PrintWords Go.Proofs.YtnjabpgbpgocnaaDoorW.PrintLast
set_option linter.unusedVariables false

theorem pairs_long (a b : ByteArray) (k : Nat) (hk : 100 ≤ k) : kauditlaw04_PathPairs.j0 k a b true = some true := by
  obtain ⟨k, rfl⟩ : ∃ j, k = j + 1 := ⟨k - 1, by omega⟩
  rw [kauditlaw04_PathPairs.j0, if_pos rfl, awake_eq k (by omega)]
  rfl

theorem pairs_short (a b : ByteArray) (ha : a.size ≤ 200) (hb : b.size ≤ 200) (k : Nat) (hk : 5000 ≤ k) : kauditlaw04_PathPairs.j0 k a b false = some true := by
  obtain ⟨k, rfl⟩ : ∃ j, k = j + 1 := ⟨k - 1, by omega⟩
  have e1 : (⟨#[47]⟩ : ByteArray).size = 1 := rfl
  have z1 : ((⟨#[47]⟩ : ByteArray) ++ a).size = 1 + a.size := by rw [ByteArray.size_append, e1]
  have z2 : (((⟨#[47]⟩ : ByteArray) ++ a) ++ (⟨#[47]⟩ : ByteArray)).size = 1 + a.size + 1 := by rw [ByteArray.size_append, z1, e1]
  have z3 : ((((⟨#[47]⟩ : ByteArray) ++ a) ++ (⟨#[47]⟩ : ByteArray)) ++ b).size = 1 + a.size + 1 + b.size := by rw [ByteArray.size_append, z2]
  rw [kauditlaw04_PathPairs.j0, if_neg (by simp), pathJoin_eq a b (by omega) (by omega), Option.bind_some, refJoin_eq a b (by omega) (by omega), Option.bind_some, if_pos rfl,
    pathUnder_eq a b k (by omega) (by omega) (by omega) (by omega), Option.bind_some, refUnder_eq a b k (by omega) (by omega) (by omega) (by omega), Option.bind_some, if_pos (by simp), if_pos (by omega), if_pos (by omega), if_pos (by omega),
    pathUnder_eq _ _ k (by omega) (by omega) (by omega) (by omega), Option.bind_some, refUnder_eq _ _ k (by omega) (by omega) (by omega) (by omega), Option.bind_some, if_pos (by simp), awake_eq k (by omega)]
  rfl

theorem PathPairs : kauditlaw04_PathPairs.Pure := by
  intro a b _ _
  refine ⟨6000, ?_⟩
  unfold kauditlaw04_PathPairs.f
  by_cases ha : a.size ≤ 200
  · rw [if_neg (by omega)]
    by_cases hb : b.size ≤ 200
    · rw [decide_eq_false (by omega)]
      exact pairs_short a b ha hb 6000 (by omega)
    · rw [decide_eq_true (by omega)]
      exact pairs_long a b 6000 (by omega)
  · rw [if_pos (by omega)]
    exact pairs_long a b 6000 (by omega)

end Go.Proofs.YtnjabpgbpgocnaaDoor.Pure
