/- For PathBuilt: contracts of the functions that it reaches and plain facts, joined out of 7 texts by a program (merge_claim.py): PAllx56, PAllx57, PureA, PureB, PureC, PureE, PAllx5. Each text's own conditions stand at its head below. -/
import Derived.Test.YtnjabpgbpgocnaaDoorZPathBuilt2
import Derived.Lib.IndexBytes

-- PAllx56
namespace Go.Proofs.YtnjabpgbpgocnaaDoor.PAll
open Go.RowKit Go.Proofs.YtnjabpgbpgocnaaDoorW.PrintWords Go.Proofs.YtnjabpgbpgocnaaDoorW.PrintLast Go.Proofs.YtnjabpgbpgocnaaDoorW.PrintMore
attribute [local go_sem] max2_int min2_int max_two min_two max_three min_three max_four min_four   -- for this text's walks alone
set_option linter.unusedVariables false
set_option linter.unusedSimpArgs false

/-! ### kauditmake_Src_Path: function 24 -/
mutual
def kauditmake_Src_Path.j0 : Nat → ByteArray → List Int → Int → Option (ByteArray × Int)
  | 0, _, _, _ => none
  | k + 1, x3, x1000, x1001 => (kauditmake_Src_Pick.f x1000 x1001 (([1, 1, 2, 2, 3, 0, 4] : List Int))).bind fun bt305 => (kauditmake_Src_Path.l0 k x3 bt305.1 0 x1000 bt305.2)
def kauditmake_Src_Path.l0 : Nat → ByteArray → Int → Int → List Int → Int → Option (ByteArray × Int)
  | 0, _, _, _, _, _ => none
  | k + 1, x3, x4, x5, x1000, x1001 => if x5 < x4 then (if x5 > 0 then (if x3.size + 1 ≤ 9223372036854775807 then (kauditmake_Src_Path.j2 k (x3 ++ (⟨#[47]⟩ : ByteArray)) x4 x5 x1000 x1001) else (none)) else (kauditmake_Src_Path.j2 k x3 x4 x5 x1000 x1001)) else ((kauditmake_Src_N.f x1000 x1001 8).bind fun bt307 => (if bt307.1 = 7 then (if x3.size + 1 ≤ 9223372036854775807 then (some (x3 ++ (⟨#[47]⟩ : ByteArray), bt307.2)) else (none)) else (some (x3, bt307.2))))
def kauditmake_Src_Path.j2 : Nat → ByteArray → Int → Int → List Int → Int → Option (ByteArray × Int)
  | 0, _, _, _, _, _ => none
  | k + 1, x3, x4, x5, x1000, x1001 => (kauditmake_Src_N.f x1000 x1001 8).bind fun bt309 => (if bt309.1 = 7 then ((kauditmake_Src_Word.f x1000 bt309.2 (([(⟨#[46]⟩ : ByteArray), (⟨#[46, 46]⟩ : ByteArray), (⟨#[]⟩ : ByteArray), (⟨#[97, 47, 47, 98]⟩ : ByteArray)] : List ByteArray))).bind fun bt314 => (if x3.size + bt314.1.size ≤ 9223372036854775807 then (kauditmake_Src_Path.l0 k (x3 ++ bt314.1) x4 (wrap64 (x5 + 1)) x1000 bt314.2) else (none))) else ((kauditmake_Src_Name.f x1000 bt309.2).bind fun bt316 => (if x3.size + bt316.1.size ≤ 9223372036854775807 then (kauditmake_Src_Path.l0 k (x3 ++ bt316.1) x4 (wrap64 (x5 + 1)) x1000 bt316.2) else (none))))
end
def kauditmake_Src_Path.f (k : Nat) (s0_0 : List Int) (s0_1 : Int) : Option (ByteArray × Int) := (kauditmake_Src_N.f s0_0 s0_1 6).bind fun bt300 => (if bt300.1 > 0 then (kauditmake_Src_Path.j0 k (⟨#[47]⟩ : ByteArray) s0_0 bt300.2) else (kauditmake_Src_Path.j0 k (⟨#[]⟩ : ByteArray) s0_0 bt300.2))
theorem kauditmake_Src_Path.mono_l : ∀ k, (∀ y0 y1 y2, LeO (kauditmake_Src_Path.j0 k y0 y1 y2) (kauditmake_Src_Path.j0 (k + 1) y0 y1 y2)) ∧ (∀ y0 y1 y2 y3 y4, LeO (kauditmake_Src_Path.l0 k y0 y1 y2 y3 y4) (kauditmake_Src_Path.l0 (k + 1) y0 y1 y2 y3 y4)) ∧ (∀ y0 y1 y2 y3 y4, LeO (kauditmake_Src_Path.j2 k y0 y1 y2 y3 y4) (kauditmake_Src_Path.j2 (k + 1) y0 y1 y2 y3 y4))
  | 0 => ⟨fun _ _ _ r h => by simp [kauditmake_Src_Path.j0] at h, fun _ _ _ _ _ r h => by simp [kauditmake_Src_Path.l0] at h, fun _ _ _ _ _ r h => by simp [kauditmake_Src_Path.j2] at h⟩
  | k + 1 => by
    obtain ⟨ih0, ih1, ih2⟩ := kauditmake_Src_Path.mono_l k
    refine ⟨?_, ?_, ?_⟩
    · intro y0 y1 y2
      unfold kauditmake_Src_Path.j0
      repeat' first
      | (with_reducible exact ih0 _ _ _)
      | (with_reducible exact ih1 _ _ _ _ _)
      | (with_reducible exact ih2 _ _ _ _ _)
      | (with_reducible exact LeO.refl _)
      | (with_reducible exact LeO.none _)
      | (with_reducible refine LeO.ite ?_ ?_)
      | (with_reducible refine LeO.bind ?_ (fun _ => ?_))
      | exact ih0 _ _ _
      | exact ih1 _ _ _ _ _
      | exact ih2 _ _ _ _ _
      | exact LeO.none _
      | refine LeO.ite ?_ ?_
      | refine LeO.bind ?_ (fun _ => ?_)
    · intro y0 y1 y2 y3 y4
      unfold kauditmake_Src_Path.l0
      repeat' first
      | (with_reducible exact ih0 _ _ _)
      | (with_reducible exact ih1 _ _ _ _ _)
      | (with_reducible exact ih2 _ _ _ _ _)
      | (with_reducible exact LeO.refl _)
      | (with_reducible exact LeO.none _)
      | (with_reducible refine LeO.ite ?_ ?_)
      | (with_reducible refine LeO.bind ?_ (fun _ => ?_))
      | exact ih0 _ _ _
      | exact ih1 _ _ _ _ _
      | exact ih2 _ _ _ _ _
      | exact LeO.none _
      | refine LeO.ite ?_ ?_
      | refine LeO.bind ?_ (fun _ => ?_)
    · intro y0 y1 y2 y3 y4
      unfold kauditmake_Src_Path.j2
      repeat' first
      | (with_reducible exact ih0 _ _ _)
      | (with_reducible exact ih1 _ _ _ _ _)
      | (with_reducible exact ih2 _ _ _ _ _)
      | (with_reducible exact LeO.refl _)
      | (with_reducible exact LeO.none _)
      | (with_reducible refine LeO.ite ?_ ?_)
      | (with_reducible refine LeO.bind ?_ (fun _ => ?_))
      | exact ih0 _ _ _
      | exact ih1 _ _ _ _ _
      | exact ih2 _ _ _ _ _
      | exact LeO.none _
      | refine LeO.ite ?_ ?_
      | refine LeO.bind ?_ (fun _ => ?_)
theorem kauditmake_Src_Path.mono : ∀ a0 a1 k, LeO (kauditmake_Src_Path.f k a0 a1) (kauditmake_Src_Path.f (k + 1) a0 a1) := by
  intro a0 a1 k
  obtain ⟨ih0, ih1, ih2⟩ := kauditmake_Src_Path.mono_l k
  unfold kauditmake_Src_Path.f
  repeat' first
      | (with_reducible exact ih0 _ _ _)
      | (with_reducible exact ih1 _ _ _ _ _)
      | (with_reducible exact ih2 _ _ _ _ _)
      | (with_reducible exact LeO.refl _)
      | (with_reducible exact LeO.none _)
      | (with_reducible refine LeO.ite ?_ ?_)
      | (with_reducible refine LeO.bind ?_ (fun _ => ?_))
      | exact ih0 _ _ _
      | exact ih1 _ _ _ _ _
      | exact ih2 _ _ _ _ _
      | exact LeO.none _
      | refine LeO.ite ?_ ?_
      | refine LeO.bind ?_ (fun _ => ?_)
set_option maxHeartbeats 8000000 in
set_option maxRecDepth 100000 in
theorem kauditmake_Src_Path.calls (k : Nat) (g : Nat) (s0_0 : List Int) (s0_1 : Int) (r1 : ByteArray) (r2 : Int) (w0 w : World) (hI : IsS39 w0 w g s0_0 s0_1) (hB : Below w0.heap.size w0 w) (h : kauditmake_Src_Path.f k s0_0 s0_1 = some (r1, r2)) :
    Calls Tryd.prog 24 #[.pointer (some ⟨g, 0, none⟩)] w fun e w' => e = .returned (.string r1) ∧ IsS39 w0 w' g s0_0 r2 ∧ Below w0.heap.size w0 w' ∧ KeepBut w w' g none := by
  have HI0 := Aside0.mk hI
  have HK := Aside0.mk (KeepBut.refl w g none)
  have HL := Aside0.mk hB.size
  clear hI
  have HW0 := Aside0.mk hB.size
  have HB := Aside0.mk hB
  clear hB
  have H : ((kauditmake_Src_N.f s0_0 s0_1 6).bind fun bt300 => (if bt300.1 > 0 then (kauditmake_Src_Path.j0 k (⟨#[47]⟩ : ByteArray) s0_0 bt300.2) else (kauditmake_Src_Path.j0 k (⟨#[]⟩ : ByteArray) s0_0 bt300.2))) = some (r1, r2) := h
  clear h
  replace H := Option.bind_eq_some_iff.mp H
  obtain ⟨⟨t300, t301⟩, A20, H⟩ := H
  replace H : (if t300 > 0 then (kauditmake_Src_Path.j0 k (⟨#[47]⟩ : ByteArray) s0_0 t301) else (kauditmake_Src_Path.j0 k (⟨#[]⟩ : ByteArray) s0_0 t301)) = some (r1, r2) := H
  have A2 := Aside0.mk A20
  clear A20
  have HC3 := Aside0.mk H
  clear H
  go_enter Tryd.func24, Tryd.ntmps24
  go_upto_if 8 with (first | ((with_reducible refine gate_callee (f := 12) rfl ?_); refine goesL_ (some 7) rfl rfl Tryd.func12 (by kernel_rfl) rfl #[.pointer (some ⟨g, 0, none⟩), .int .i64 6] rfl (by (try simp only [List.map_toArray, List.map_cons, List.map_nil]); first | done | rfl | (simp only [List.length_drop, List.length_take]; rfl)) ?_; (with_reducible refine (kauditmake_Src_N.calls g s0_0 s0_1 6 t300 t301 w0 _ ?side1 ?side2 A2.out).mono ?_); (case side1 => repeat (first | (with_reducible first | exact HI0.out | apply IsS39.alloc | apply IsS39.drewN | apply IsS39.drew | apply IsS39.set_1) | exact HI0.out)); (case side2 => repeat (first | (with_reducible first | exact HB.out | apply below_alloc | apply pw_below_drewN | apply below_drew1 | refine below_set ?_ (IsS39.ge HI0.out)) | exact HB.out)); rintro e w4 ⟨rfl, hi, hb, hk⟩; refine ⟨_, rfl, ?_⟩; have n0_ := Aside0.mk (KeepBut.trans (by repeat (first | (with_reducible first | exact HK.out | apply KeepBut.set_ | apply keep_drewN | apply keep_drew | apply keep_alloc) | exact HK.out)) hk (.inl rfl)); have n1_ := Aside0.mk (hb); have n2_ := Aside0.mk (hi); clear HK; clear HB; clear HI0; have HK := n0_; have HB := n1_; have HI0 := n2_; clear n0_ n1_ n2_; (try clear hb); (try clear hb2); (try clear hk); (try clear hi)))
  (try simp only [Act.put, List.setIfInBounds_toArray, List.set_cons_zero, List.set_cons_succ])
  go_cut [3] (fun v3 wc => ∃ (kq : Nat) (x3_2 : ByteArray), v3 = .string x3_2 ∧ Aside0 (kauditmake_Src_Path.j0 kq x3_2 s0_0 t301 = some (r1, r2)) ∧ Aside0 (kq ≤ k) ∧ Aside0 (IsS39 w0 wc g s0_0 t301) ∧ Aside0 (KeepBut w wc g none) ∧ Aside0 (Below w0.heap.size w0 wc))
  case first =>
    have H := HC3.out
    clear HC3
    by_cases c5 : t300 > 0
    · rw [if_pos c5] at H
      have c5b0 : decide (0 < t300) = true := decide_eq_true c5
      clear c5
      (first | rw [c5b0] | (simp only [i64_w, i32_w]; rw [c5b0]) | skip)
      have H' := Aside0.mk H
      clear H
      go_wp2
      go_meet
      case rel => exact ⟨_, ((⟨#[47]⟩ : ByteArray)), (by first | rfl | (simp; done) | (simp [*]; done)), H', ⟨by first | omega | exact Nat.le_refl _⟩, ⟨by repeat (first | (with_reducible first | exact HI0.out | apply IsS39.alloc | apply IsS39.drewN | apply IsS39.drew | apply IsS39.set_1) | exact HI0.out)⟩, ⟨by repeat (first | (with_reducible first | exact HK.out | apply KeepBut.set_ | apply keep_drewN | apply keep_drew | apply keep_alloc) | exact HK.out)⟩, ⟨by repeat (first | (with_reducible first | exact HB.out | apply below_alloc | apply pw_below_drewN | apply below_drew1 | refine below_set ?_ (IsS39.ge HI0.out)) | exact HB.out)⟩⟩
    · rw [if_neg c5] at H
      have c5b0 : decide (0 < t300) = false := decide_eq_false c5
      clear c5
      (first | rw [c5b0] | (simp only [i64_w, i32_w]; rw [c5b0]) | skip)
      have H' := Aside0.mk H
      clear H
      go_wp2
      go_meet
      case rel => exact ⟨_, ((⟨#[]⟩ : ByteArray)), (by first | rfl | (simp; done) | (simp [*]; done)), H', ⟨by first | omega | exact Nat.le_refl _⟩, ⟨by repeat (first | (with_reducible first | exact HI0.out | apply IsS39.alloc | apply IsS39.drewN | apply IsS39.drew | apply IsS39.set_1) | exact HI0.out)⟩, ⟨by repeat (first | (with_reducible first | exact HK.out | apply KeepBut.set_ | apply keep_drewN | apply keep_drew | apply keep_alloc) | exact HK.out)⟩, ⟨by repeat (first | (with_reducible first | exact HB.out | apply below_alloc | apply pw_below_drewN | apply below_drew1 | refine below_set ?_ (IsS39.ge HI0.out)) | exact HB.out)⟩⟩
  case rest =>
    clear HC3
    try clear c1
    try clear c2
    try clear p2
    try clear c5
    try clear c5b0
    obtain ⟨kq, x3_2, rfl, HA, HJ2, HI0, HK, HB⟩ := hcut
    cases kq with
    | zero => exact absurd HA.out (by simp [kauditmake_Src_Path.j0])
    | succ kj2 =>
      have H := HA.out
      clear HA
      simp only [kauditmake_Src_Path.j0] at H
      obtain ⟨y302, hy302⟩ : ∃ y_ : List Int, y_ = (([1, 1, 2, 2, 3, 0, 4] : List Int)) := ⟨_, rfl⟩
      replace H : ((kauditmake_Src_Pick.f s0_0 t301 y302).bind fun bt305 => (kauditmake_Src_Path.l0 kj2 x3_2 bt305.1 0 s0_0 bt305.2)) = some (r1, r2) := by first | (rw [hy302]; with_reducible exact H) | (have H2_ := (Option.bind_some _ _).symm.trans H; rw [hy302]; with_reducible exact H2_) | (have H2_ := (Option.bind_some _ _).symm.trans H; with_reducible exact H2_) | with_reducible exact H | (rw [hy302]; exact H) | exact H
      have Ny302 := Aside0.mk hy302
      clear hy302
      replace H := Option.bind_eq_some_iff.mp H
      obtain ⟨⟨t305, t306⟩, A60, H⟩ := H
      replace H : (kauditmake_Src_Path.l0 kj2 x3_2 t305 0 s0_0 t306) = some (r1, r2) := H
      have A6 := Aside0.mk A60
      clear A60
      have H' := Aside0.mk H
      clear H
      go_wp2_with (first | ((with_reducible refine gate_dst (N := 10) rfl ?_); refine Kd.R_lit (Kd.int .i64) _ 3 ?hg (N := 10) ?hd (xs := ([1, 1, 2, 2, 3, 0, 4] : List Int)) (inner := [.int .i64 1, .int .i64 1, .int .i64 2, .int .i64 2, .int .i64 3, .int .i64 0, .int .i64 4]) (ok := fun _ => True) (okp := fun _ => True) ?hr ?hp (fun _ hk => hk) trivial (Below.refl _ _) (Nat.le_refl _) (by simp) ?_; (case hd => rfl); (case hg => rfl); (case hr => first | (go_simp; done) | (go_simp; rfl)); (case hp => exact (Reps.one (show Kd.M (Kd.int .i64) _ _ _ 1 [.int .i64 1] from rfl) (Reps.one (show Kd.M (Kd.int .i64) _ _ _ 1 [.int .i64 1] from rfl) (Reps.one (show Kd.M (Kd.int .i64) _ _ _ 2 [.int .i64 2] from rfl) (Reps.one (show Kd.M (Kd.int .i64) _ _ _ 2 [.int .i64 2] from rfl) (Reps.one (show Kd.M (Kd.int .i64) _ _ _ 3 [.int .i64 3] from rfl) (Reps.one (show Kd.M (Kd.int .i64) _ _ _ 0 [.int .i64 0] from rfl) (Reps.one (show Kd.M (Kd.int .i64) _ _ _ 4 [.int .i64 4] from rfl) (Reps.none _ _))))))))); intro v303 w7 ho8 hb hg_ hnew_; clear hg_ hnew_; (first | rw [← Ny302.out] at ho8 | (simp only [Int.reduceToNat] at ho8; rw [← Ny302.out] at ho8)); have n0_ := Aside0.mk (Kd.R_lower ho8 (keep_size (w := w) (g := g) (row := none) (by repeat (first | (with_reducible first | exact HK.out | apply KeepBut.set_ | apply keep_drewN | apply keep_drew | apply keep_alloc) | exact HK.out)))); have n1_ := Aside0.mk (IsS39.below (by repeat (first | (with_reducible first | exact HI0.out | apply IsS39.alloc | apply IsS39.drewN | apply IsS39.drew | apply IsS39.set_1) | exact HI0.out)) hb); have n2_ := Aside0.mk (KeepBut.trans (by repeat (first | (with_reducible first | exact HK.out | apply KeepBut.set_ | apply keep_drewN | apply keep_drew | apply keep_alloc) | exact HK.out)) (KeepBut.of_below hb g none) (.inl rfl)); have n3_ := Aside0.mk (below_step (by repeat (first | (with_reducible first | exact HB.out | apply below_alloc | apply pw_below_drewN | apply below_drew1 | refine below_set ?_ (IsS39.ge HI0.out)) | exact HB.out)) hb); clear HI0; clear HK; clear HB; have HO304 := n0_; have HI0 := n1_; have HK := n2_; have HB := n3_; clear n0_ n1_ n2_ n3_; clear hb ho8; obtain ⟨Ao9, co9, eo9⟩ := Kd.R_slice HO304.out; subst eo9) | ((with_reducible refine gate_callee (f := 25) rfl ?_); refine goesL_ (some 11) rfl rfl Tryd.func25 (by kernel_rfl) rfl #[.pointer (some ⟨g, 0, none⟩), .slice Ao9 y302.length co9] rfl (by (try simp only [List.map_toArray, List.map_cons, List.map_nil]); first | done | rfl | (simp only [List.length_drop, List.length_take]; rfl)) ?_; (with_reducible refine (kauditmake_Src_Pick.calls g s0_0 t301 _ _ y302 t305 t306 w0 _ ?side1 ?side2 ?side3 ?side4 ?side5 A6.out).mono ?_); (case side1 => repeat (first | (with_reducible first | exact HI0.out | apply IsS39.alloc | apply IsS39.drewN | apply IsS39.drew | apply IsS39.set_1) | exact HI0.out)); (case side2 => repeat (first | (with_reducible first | exact HB.out | apply below_alloc | apply pw_below_drewN | apply below_drew1 | refine below_set ?_ (IsS39.ge HI0.out)) | exact HB.out)); (case side3 => repeat (first | exact (Kd.R_reads' HO304.out).2.2 | (with_reducible refine Kd.C_alloc ?_ _) | (with_reducible refine Kd.C_drewN ?_ _) | (with_reducible refine Kd.C_drew ?_))); (case side4 => exact (Kd.R_reads' HO304.out).2.1); (case side5 => exact far_slice (IsS39.own_ne HI0.out HO304.out (by decide))); rintro e w10 ⟨rfl, hi, hb, hk⟩; refine ⟨_, rfl, ?_⟩; have n0_ := Aside0.mk (Kd.R_mono (Kd.R_keep (IsS39.apart (show IsS39 w0 _ g s0_0 t301 from by repeat (first | (with_reducible first | exact HI0.out | apply IsS39.alloc | apply IsS39.drewN | apply IsS39.drew | apply IsS39.set_1) | exact HI0.out)) (by (with_reducible repeat (first | apply Kd.R_alloc | apply Kd.R_drewN | apply Kd.R_drew)); exact HO304.out) (by decide)) hk (fun _ h => h.2)) (fun _ h => h.1)); have n1_ := Aside0.mk (KeepBut.trans (by repeat (first | (with_reducible first | exact HK.out | apply KeepBut.set_ | apply keep_drewN | apply keep_drew | apply keep_alloc) | exact HK.out)) hk (.inl rfl)); have n2_ := Aside0.mk (hb); have n3_ := Aside0.mk (hi); clear HO304; clear HK; clear HB; clear HI0; have HO304 := n0_; have HK := n1_; have HB := n2_; have HI0 := n3_; clear n0_ n1_ n2_ n3_; (try clear hb); (try clear hb2); (try clear hk); (try clear hi)))
      (first | go_loopg [3, 5] kj2 (fun kq v3 v5 w' => ∃ (x3_2 : ByteArray) (x5_2 : Int) (x1001_2 : Int), v3 = .string x3_2 ∧ v5 = .int .i64 x5_2 ∧ Aside0 (kauditmake_Src_Path.l0 kq x3_2 t305 x5_2 s0_0 x1001_2 = some (r1, r2)) ∧ Aside0 (kq ≤ kj2) ∧ Aside0 (IsS39 w0 w' g s0_0 x1001_2) ∧ Aside0 (KeepBut w w' g none) ∧ Aside0 (Below w0.heap.size w0 w')) | (go_simp; go_loopg [3, 5] kj2 (fun kq v3 v5 w' => ∃ (x3_2 : ByteArray) (x5_2 : Int) (x1001_2 : Int), v3 = .string x3_2 ∧ v5 = .int .i64 x5_2 ∧ Aside0 (kauditmake_Src_Path.l0 kq x3_2 t305 x5_2 s0_0 x1001_2 = some (r1, r2)) ∧ Aside0 (kq ≤ kj2) ∧ Aside0 (IsS39 w0 w' g s0_0 x1001_2) ∧ Aside0 (KeepBut w w' g none) ∧ Aside0 (Below w0.heap.size w0 w'))))
      case atStart => exact ⟨(x3_2), (0), (t306), (by first | rfl | (simp; done) | (simp [*]; done)), (by first | rfl | (simp; done) | (simp [*]; done)), H', ⟨Nat.le_refl _⟩, ⟨by repeat (first | (with_reducible first | exact HI0.out | apply IsS39.alloc | apply IsS39.drewN | apply IsS39.drew | apply IsS39.set_1) | exact HI0.out)⟩, ⟨by repeat (first | (with_reducible first | exact HK.out | apply KeepBut.set_ | apply keep_drewN | apply keep_drew | apply keep_alloc) | exact HK.out)⟩, ⟨by repeat (first | (with_reducible first | exact HB.out | apply below_alloc | apply pw_below_drewN | apply below_drew1 | refine below_set ?_ (IsS39.ge HI0.out)) | exact HB.out)⟩⟩
      case round =>
        clear H'
        try clear c1
        try clear c2
        try clear p2
        try clear c5
        try clear c5b0
        try clear p2
        obtain ⟨x3_2, x5_2, x1001_2, rfl, rfl, HA, HK2, HI0, HK, HB⟩ := hrel
        cases gk with
        | zero => exact absurd HA.out (by simp [kauditmake_Src_Path.l0])
        | succ k2 =>
          have H := HA.out
          clear HA
          simp only [kauditmake_Src_Path.l0] at H
          by_cases c11 : x5_2 < t305
          · rw [if_pos c11] at H
            have c11b0 : decide (x5_2 < t305) = true := decide_eq_true c11
            clear c11
            have HC12 := Aside0.mk H
            clear H
            go_upto_if 18 with (fail)
            go_cut [3] (fun v3 wc => ∃ (kq : Nat) (x3_11 : ByteArray), v3 = .string x3_11 ∧ Aside0 (kauditmake_Src_Path.j2 kq x3_11 t305 x5_2 s0_0 x1001_2 = some (r1, r2)) ∧ Aside0 (kq ≤ k2) ∧ Aside0 (IsS39 w0 wc g s0_0 x1001_2) ∧ Aside0 (KeepBut w wc g none) ∧ Aside0 (Below w0.heap.size w0 wc))
            case first =>
              have H := HC12.out
              clear HC12
              by_cases c13 : x5_2 > 0
              · rw [if_pos c13] at H
                have c13b0 : decide (0 < x5_2) = true := decide_eq_true c13
                clear c13
                (first | rw [c13b0] | (simp only [i64_w, i32_w]; rw [c13b0]) | skip)
                by_cases c14 : x3_2.size + 1 ≤ 9223372036854775807
                · rw [if_pos c14] at H
                  have c14b0 := eq_true c14
                  have c14b1 : decide (x3_2.size + 1 ≤ 9223372036854775807) = true := decide_eq_true c14
                  try have c14b2 : (9223372036854775807 < x3_2.size + 1) = False := eq_false (Nat.not_lt.2 c14)
                  have H' := Aside0.mk H
                  clear H
                  go_wp2
                  go_meet
                  case rel => exact ⟨_, (x3_2 ++ (⟨#[47]⟩ : ByteArray)), (by first | rfl | (simp; done) | (simp [*]; done)), H', ⟨by have := HJ2.out; have := HK2.out; first | omega | exact Nat.le_refl _⟩, ⟨by repeat (first | (with_reducible first | exact HI0.out | apply IsS39.alloc | apply IsS39.drewN | apply IsS39.drew | apply IsS39.set_1) | exact HI0.out)⟩, ⟨by repeat (first | (with_reducible first | exact HK.out | apply KeepBut.set_ | apply keep_drewN | apply keep_drew | apply keep_alloc) | exact HK.out)⟩, ⟨by repeat (first | (with_reducible first | exact HB.out | apply below_alloc | apply pw_below_drewN | apply below_drew1 | refine below_set ?_ (IsS39.ge HI0.out)) | exact HB.out)⟩⟩
                · rw [if_neg c14] at H
                  exact absurd H (by simp)
              · rw [if_neg c13] at H
                have c13b0 : decide (0 < x5_2) = false := decide_eq_false c13
                clear c13
                (first | rw [c13b0] | (simp only [i64_w, i32_w]; rw [c13b0]) | skip)
                have H' := Aside0.mk H
                clear H
                go_wp2
                go_meet
                case rel => exact ⟨_, (x3_2), (by first | rfl | (simp; done) | (simp [*]; done)), H', ⟨by have := HJ2.out; have := HK2.out; first | omega | exact Nat.le_refl _⟩, ⟨by repeat (first | (with_reducible first | exact HI0.out | apply IsS39.alloc | apply IsS39.drewN | apply IsS39.drew | apply IsS39.set_1) | exact HI0.out)⟩, ⟨by repeat (first | (with_reducible first | exact HK.out | apply KeepBut.set_ | apply keep_drewN | apply keep_drew | apply keep_alloc) | exact HK.out)⟩, ⟨by repeat (first | (with_reducible first | exact HB.out | apply below_alloc | apply pw_below_drewN | apply below_drew1 | refine below_set ?_ (IsS39.ge HI0.out)) | exact HB.out)⟩⟩
            case rest =>
              clear HC12
              try clear c1
              try clear c2
              try clear p2
              try clear c5
              try clear c5b0
              try clear c11
              try clear c11b0
              try clear c12
              try clear c13
              try clear c13b0
              try clear c14
              try clear c14b0
              try clear c14b1
              try clear c14b2
              try clear p2
              obtain ⟨kq, x3_11, rfl, HA, HJ11, HI0, HK, HB⟩ := hcut
              cases kq with
              | zero => exact absurd HA.out (by simp [kauditmake_Src_Path.j2])
              | succ kj11 =>
                have H := HA.out
                clear HA
                simp only [kauditmake_Src_Path.j2] at H
                replace H := Option.bind_eq_some_iff.mp H
                obtain ⟨⟨t309, t310⟩, A150, H⟩ := H
                replace H : (if t309 = 7 then ((kauditmake_Src_Word.f s0_0 t310 (([(⟨#[46]⟩ : ByteArray), (⟨#[46, 46]⟩ : ByteArray), (⟨#[]⟩ : ByteArray), (⟨#[97, 47, 47, 98]⟩ : ByteArray)] : List ByteArray))).bind fun bt314 => (if x3_11.size + bt314.1.size ≤ 9223372036854775807 then (kauditmake_Src_Path.l0 kj11 (x3_11 ++ bt314.1) t305 (wrap64 (x5_2 + 1)) s0_0 bt314.2) else (none))) else ((kauditmake_Src_Name.f s0_0 t310).bind fun bt316 => (if x3_11.size + bt316.1.size ≤ 9223372036854775807 then (kauditmake_Src_Path.l0 kj11 (x3_11 ++ bt316.1) t305 (wrap64 (x5_2 + 1)) s0_0 bt316.2) else (none)))) = some (r1, r2) := H
                have A15 := Aside0.mk A150
                clear A150
                by_cases c16 : t309 = 7
                · rw [if_pos c16] at H
                  have c16b0 : (t309 == 7) = true := beq_iff_eq.mpr c16
                  have c16b1 : (t309 != 7) = false := bne_eq_false_iff_eq.mpr c16
                  clear c16
                  obtain ⟨y311, hy311⟩ : ∃ y_ : List ByteArray, y_ = (([(⟨#[46]⟩ : ByteArray), (⟨#[46, 46]⟩ : ByteArray), (⟨#[]⟩ : ByteArray), (⟨#[97, 47, 47, 98]⟩ : ByteArray)] : List ByteArray)) := ⟨_, rfl⟩
                  replace H : ((kauditmake_Src_Word.f s0_0 t310 y311).bind fun bt314 => (if x3_11.size + bt314.1.size ≤ 9223372036854775807 then (kauditmake_Src_Path.l0 kj11 (x3_11 ++ bt314.1) t305 (wrap64 (x5_2 + 1)) s0_0 bt314.2) else (none))) = some (r1, r2) := by first | (rw [hy311]; with_reducible exact H) | (have H2_ := (Option.bind_some _ _).symm.trans H; rw [hy311]; with_reducible exact H2_) | (have H2_ := (Option.bind_some _ _).symm.trans H; with_reducible exact H2_) | with_reducible exact H | (rw [hy311]; exact H) | exact H
                  have Ny311 := Aside0.mk hy311
                  clear hy311
                  replace H := Option.bind_eq_some_iff.mp H
                  obtain ⟨⟨t314, t315⟩, A170, H⟩ := H
                  replace H : (if x3_11.size + t314.size ≤ 9223372036854775807 then (kauditmake_Src_Path.l0 kj11 (x3_11 ++ t314) t305 (wrap64 (x5_2 + 1)) s0_0 t315) else (none)) = some (r1, r2) := H
                  have A17 := Aside0.mk A170
                  clear A170
                  by_cases c18 : x3_11.size + t314.size ≤ 9223372036854775807
                  · rw [if_pos c18] at H
                    have c18b0 := eq_true c18
                    have c18b1 : decide (x3_11.size + t314.size ≤ 9223372036854775807) = true := decide_eq_true c18
                    try have c18b2 : (9223372036854775807 < x3_11.size + t314.size) = False := eq_false (Nat.not_lt.2 c18)
                    have H' := Aside0.mk H
                    clear H
                    go_wp2_with (first | ((with_reducible refine gate_callee (f := 12) rfl ?_); refine goesL_ (some 22) rfl rfl Tryd.func12 (by kernel_rfl) rfl #[.pointer (some ⟨g, 0, none⟩), .int .i64 8] rfl (by (try simp only [List.map_toArray, List.map_cons, List.map_nil]); first | done | rfl | (simp only [List.length_drop, List.length_take]; rfl)) ?_; (with_reducible refine (kauditmake_Src_N.calls g s0_0 x1001_2 8 t309 t310 w0 _ ?side1 ?side2 A15.out).mono ?_); (case side1 => repeat (first | (with_reducible first | exact HI0.out | apply IsS39.alloc | apply IsS39.drewN | apply IsS39.drew | apply IsS39.set_1) | exact HI0.out)); (case side2 => repeat (first | (with_reducible first | exact HB.out | apply below_alloc | apply pw_below_drewN | apply below_drew1 | refine below_set ?_ (IsS39.ge HI0.out)) | exact HB.out)); rintro e w19 ⟨rfl, hi, hb, hk⟩; refine ⟨_, rfl, ?_⟩; have n0_ := Aside0.mk (KeepBut.trans (by repeat (first | (with_reducible first | exact HK.out | apply KeepBut.set_ | apply keep_drewN | apply keep_drew | apply keep_alloc) | exact HK.out)) hk (.inl rfl)); have n1_ := Aside0.mk (hb); have n2_ := Aside0.mk (hi); clear HK; clear HB; clear HI0; have HK := n0_; have HB := n1_; have HI0 := n2_; clear n0_ n1_ n2_; (try clear hb); (try clear hb2); (try clear hk); (try clear hi)) | ((with_reducible refine gate_dst (N := 26) rfl ?_); refine Kd.R_lit Kd.string _ 9 ?hg (N := 26) ?hd (xs := ([(⟨#[46]⟩ : ByteArray), (⟨#[46, 46]⟩ : ByteArray), (⟨#[]⟩ : ByteArray), (⟨#[97, 47, 47, 98]⟩ : ByteArray)] : List ByteArray)) (inner := [.string (⟨#[46]⟩ : ByteArray), .string (⟨#[46, 46]⟩ : ByteArray), .string (⟨#[]⟩ : ByteArray), .string (⟨#[97, 47, 47, 98]⟩ : ByteArray)]) (ok := fun _ => True) (okp := fun _ => True) ?hr ?hp (fun _ hk => hk) trivial (Below.refl _ _) (Nat.le_refl _) (by simp) ?_; (case hd => rfl); (case hg => rfl); (case hr => first | (go_simp; done) | (go_simp; rfl)); (case hp => exact (Reps.one (show Kd.M Kd.string _ _ _ (⟨#[46]⟩ : ByteArray) [.string (⟨#[46]⟩ : ByteArray)] from rfl) (Reps.one (show Kd.M Kd.string _ _ _ (⟨#[46, 46]⟩ : ByteArray) [.string (⟨#[46, 46]⟩ : ByteArray)] from rfl) (Reps.one (show Kd.M Kd.string _ _ _ (⟨#[]⟩ : ByteArray) [.string (⟨#[]⟩ : ByteArray)] from rfl) (Reps.one (show Kd.M Kd.string _ _ _ (⟨#[97, 47, 47, 98]⟩ : ByteArray) [.string (⟨#[97, 47, 47, 98]⟩ : ByteArray)] from rfl) (Reps.none _ _)))))); intro v312 w20 ho21 hb hg_ hnew_; clear hg_ hnew_; (first | rw [← Ny311.out] at ho21 | (simp only [Int.reduceToNat] at ho21; rw [← Ny311.out] at ho21)); have n0_ := Aside0.mk (Kd.R_lower ho21 (keep_size (w := w) (g := g) (row := none) (by repeat (first | (with_reducible first | exact HK.out | apply KeepBut.set_ | apply keep_drewN | apply keep_drew | apply keep_alloc) | exact HK.out)))); have n1_ := Aside0.mk (IsS39.below (by repeat (first | (with_reducible first | exact HI0.out | apply IsS39.alloc | apply IsS39.drewN | apply IsS39.drew | apply IsS39.set_1) | exact HI0.out)) hb); have n2_ := Aside0.mk (KeepBut.trans (by repeat (first | (with_reducible first | exact HK.out | apply KeepBut.set_ | apply keep_drewN | apply keep_drew | apply keep_alloc) | exact HK.out)) (KeepBut.of_below hb g none) (.inl rfl)); have n3_ := Aside0.mk (below_step (by repeat (first | (with_reducible first | exact HB.out | apply below_alloc | apply pw_below_drewN | apply below_drew1 | refine below_set ?_ (IsS39.ge HI0.out)) | exact HB.out)) hb); clear HI0; clear HK; clear HB; have HO313 := n0_; have HI0 := n1_; have HK := n2_; have HB := n3_; clear n0_ n1_ n2_ n3_; clear hb ho21; obtain ⟨Ao22, co22, eo22⟩ := Kd.R_slice HO313.out; subst eo22) | ((with_reducible refine gate_callee (f := 26) rfl ?_); refine goesL_ (some 27) rfl rfl Tryd.func26 (by kernel_rfl) rfl #[.pointer (some ⟨g, 0, none⟩), .slice Ao22 y311.length co22] rfl (by (try simp only [List.map_toArray, List.map_cons, List.map_nil]); first | done | rfl | (simp only [List.length_drop, List.length_take]; rfl)) ?_; (with_reducible refine (kauditmake_Src_Word.calls g s0_0 t310 _ _ y311 t314 t315 w0 _ ?side1 ?side2 ?side3 ?side4 ?side5 A17.out).mono ?_); (case side1 => repeat (first | (with_reducible first | exact HI0.out | apply IsS39.alloc | apply IsS39.drewN | apply IsS39.drew | apply IsS39.set_1) | exact HI0.out)); (case side2 => repeat (first | (with_reducible first | exact HB.out | apply below_alloc | apply pw_below_drewN | apply below_drew1 | refine below_set ?_ (IsS39.ge HI0.out)) | exact HB.out)); (case side3 => repeat (first | exact (Kd.R_reads' HO313.out).2.2 | (with_reducible refine Kd.C_alloc ?_ _) | (with_reducible refine Kd.C_drewN ?_ _) | (with_reducible refine Kd.C_drew ?_))); (case side4 => exact (Kd.R_reads' HO313.out).2.1); (case side5 => exact far_slice (IsS39.own_ne HI0.out HO313.out (by decide))); rintro e w23 ⟨rfl, hi, hb, hk⟩; refine ⟨_, rfl, ?_⟩; have n0_ := Aside0.mk (Kd.R_mono (Kd.R_keep (IsS39.apart (show IsS39 w0 _ g s0_0 t310 from by repeat (first | (with_reducible first | exact HI0.out | apply IsS39.alloc | apply IsS39.drewN | apply IsS39.drew | apply IsS39.set_1) | exact HI0.out)) (by (with_reducible repeat (first | apply Kd.R_alloc | apply Kd.R_drewN | apply Kd.R_drew)); exact HO313.out) (by decide)) hk (fun _ h => h.2)) (fun _ h => h.1)); have n1_ := Aside0.mk (KeepBut.trans (by repeat (first | (with_reducible first | exact HK.out | apply KeepBut.set_ | apply keep_drewN | apply keep_drew | apply keep_alloc) | exact HK.out)) hk (.inl rfl)); have n2_ := Aside0.mk (hb); have n3_ := Aside0.mk (hi); clear HO313; clear HK; clear HB; clear HI0; have HO313 := n0_; have HK := n1_; have HB := n2_; have HI0 := n3_; clear n0_ n1_ n2_ n3_; (try clear hb); (try clear hb2); (try clear hk); (try clear hi)))
                    go_roundg kj11
                    case measure => have := HJ2.out; have := HK2.out; have := HJ11.out; omega
                    case rel => exact ⟨(x3_11 ++ t314), (wrap64 (x5_2 + 1)), (t315), (by first | rfl | (simp; done) | (simp [*]; done)), (by first | rfl | (simp; done) | (simp [*]; done)), H', ⟨by have := HJ2.out; have := HK2.out; have := HJ11.out; omega⟩, ⟨by repeat (first | (with_reducible first | exact HI0.out | apply IsS39.alloc | apply IsS39.drewN | apply IsS39.drew | apply IsS39.set_1) | exact HI0.out)⟩, ⟨by repeat (first | (with_reducible first | exact HK.out | apply KeepBut.set_ | apply keep_drewN | apply keep_drew | apply keep_alloc) | exact HK.out)⟩, ⟨by repeat (first | (with_reducible first | exact HB.out | apply below_alloc | apply pw_below_drewN | apply below_drew1 | refine below_set ?_ (IsS39.ge HI0.out)) | exact HB.out)⟩⟩
                  · rw [if_neg c18] at H
                    exact absurd H (by simp)
                · rw [if_neg c16] at H
                  have c16b0 : (t309 == 7) = false := beq_eq_false_iff_ne.mpr c16
                  have c16b1 : (t309 != 7) = true := bne_iff_ne.mpr c16
                  replace H := Option.bind_eq_some_iff.mp H
                  obtain ⟨⟨t316, t317⟩, A240, H⟩ := H
                  replace H : (if x3_11.size + t316.size ≤ 9223372036854775807 then (kauditmake_Src_Path.l0 kj11 (x3_11 ++ t316) t305 (wrap64 (x5_2 + 1)) s0_0 t317) else (none)) = some (r1, r2) := H
                  have A24 := Aside0.mk A240
                  clear A240
                  by_cases c25 : x3_11.size + t316.size ≤ 9223372036854775807
                  · rw [if_pos c25] at H
                    have c25b0 := eq_true c25
                    have c25b1 : decide (x3_11.size + t316.size ≤ 9223372036854775807) = true := decide_eq_true c25
                    try have c25b2 : (9223372036854775807 < x3_11.size + t316.size) = False := eq_false (Nat.not_lt.2 c25)
                    have H' := Aside0.mk H
                    clear H
                    go_wp2_with (first | ((with_reducible refine gate_callee (f := 12) rfl ?_); refine goesL_ (some 22) rfl rfl Tryd.func12 (by kernel_rfl) rfl #[.pointer (some ⟨g, 0, none⟩), .int .i64 8] rfl (by (try simp only [List.map_toArray, List.map_cons, List.map_nil]); first | done | rfl | (simp only [List.length_drop, List.length_take]; rfl)) ?_; (with_reducible refine (kauditmake_Src_N.calls g s0_0 x1001_2 8 t309 t310 w0 _ ?side1 ?side2 A15.out).mono ?_); (case side1 => repeat (first | (with_reducible first | exact HI0.out | apply IsS39.alloc | apply IsS39.drewN | apply IsS39.drew | apply IsS39.set_1) | exact HI0.out)); (case side2 => repeat (first | (with_reducible first | exact HB.out | apply below_alloc | apply pw_below_drewN | apply below_drew1 | refine below_set ?_ (IsS39.ge HI0.out)) | exact HB.out)); rintro e w26 ⟨rfl, hi, hb, hk⟩; refine ⟨_, rfl, ?_⟩; have n0_ := Aside0.mk (KeepBut.trans (by repeat (first | (with_reducible first | exact HK.out | apply KeepBut.set_ | apply keep_drewN | apply keep_drew | apply keep_alloc) | exact HK.out)) hk (.inl rfl)); have n1_ := Aside0.mk (hb); have n2_ := Aside0.mk (hi); clear HK; clear HB; clear HI0; have HK := n0_; have HB := n1_; have HI0 := n2_; clear n0_ n1_ n2_; (try clear hb); (try clear hb2); (try clear hk); (try clear hi)) | ((with_reducible refine gate_callee (f := 20) rfl ?_); refine goesL_ (some 31) rfl rfl Tryd.func20 (by kernel_rfl) rfl #[.pointer (some ⟨g, 0, none⟩)] rfl (by (try simp only [List.map_toArray, List.map_cons, List.map_nil]); first | done | rfl | (simp only [List.length_drop, List.length_take]; rfl)) ?_; (with_reducible refine (kauditmake_Src_Name.calls g s0_0 t310 t316 t317 w0 _ ?side1 ?side2 A24.out).mono ?_); (case side1 => repeat (first | (with_reducible first | exact HI0.out | apply IsS39.alloc | apply IsS39.drewN | apply IsS39.drew | apply IsS39.set_1) | exact HI0.out)); (case side2 => repeat (first | (with_reducible first | exact HB.out | apply below_alloc | apply pw_below_drewN | apply below_drew1 | refine below_set ?_ (IsS39.ge HI0.out)) | exact HB.out)); rintro e w27 ⟨rfl, hi, hb, hk⟩; refine ⟨_, rfl, ?_⟩; have n0_ := Aside0.mk (KeepBut.trans (by repeat (first | (with_reducible first | exact HK.out | apply KeepBut.set_ | apply keep_drewN | apply keep_drew | apply keep_alloc) | exact HK.out)) hk (.inl rfl)); have n1_ := Aside0.mk (hb); have n2_ := Aside0.mk (hi); clear HK; clear HB; clear HI0; have HK := n0_; have HB := n1_; have HI0 := n2_; clear n0_ n1_ n2_; (try clear hb); (try clear hb2); (try clear hk); (try clear hi)))
                    go_roundg kj11
                    case measure => have := HJ2.out; have := HK2.out; have := HJ11.out; omega
                    case rel => exact ⟨(x3_11 ++ t316), (wrap64 (x5_2 + 1)), (t317), (by first | rfl | (simp; done) | (simp [*]; done)), (by first | rfl | (simp; done) | (simp [*]; done)), H', ⟨by have := HJ2.out; have := HK2.out; have := HJ11.out; omega⟩, ⟨by repeat (first | (with_reducible first | exact HI0.out | apply IsS39.alloc | apply IsS39.drewN | apply IsS39.drew | apply IsS39.set_1) | exact HI0.out)⟩, ⟨by repeat (first | (with_reducible first | exact HK.out | apply KeepBut.set_ | apply keep_drewN | apply keep_drew | apply keep_alloc) | exact HK.out)⟩, ⟨by repeat (first | (with_reducible first | exact HB.out | apply below_alloc | apply pw_below_drewN | apply below_drew1 | refine below_set ?_ (IsS39.ge HI0.out)) | exact HB.out)⟩⟩
                  · rw [if_neg c25] at H
                    exact absurd H (by simp)
          · rw [if_neg c11] at H
            have c11b0 : decide (x5_2 < t305) = false := decide_eq_false c11
            clear c11
            replace H := Option.bind_eq_some_iff.mp H
            obtain ⟨⟨t307, t308⟩, A280, H⟩ := H
            replace H : (if t307 = 7 then (if x3_2.size + 1 ≤ 9223372036854775807 then (some (x3_2 ++ (⟨#[47]⟩ : ByteArray), t308)) else (none)) else (some (x3_2, t308))) = some (r1, r2) := H
            have A28 := Aside0.mk A280
            clear A280
            by_cases c29 : t307 = 7
            · rw [if_pos c29] at H
              have c29b0 : (t307 == 7) = true := beq_iff_eq.mpr c29
              have c29b1 : (t307 != 7) = false := bne_eq_false_iff_eq.mpr c29
              clear c29
              by_cases c30 : x3_2.size + 1 ≤ 9223372036854775807
              · rw [if_pos c30] at H
                have c30b0 := eq_true c30
                have c30b1 : decide (x3_2.size + 1 ≤ 9223372036854775807) = true := decide_eq_true c30
                try have c30b2 : (9223372036854775807 < x3_2.size + 1) = False := eq_false (Nat.not_lt.2 c30)
                simp only [Option.some.injEq, Prod.mk.injEq] at H
                obtain ⟨rfl, rfl⟩ := H
                go_wp2_with (first | ((with_reducible refine gate_callee (f := 12) rfl ?_); refine goesL_ (some 34) rfl rfl Tryd.func12 (by kernel_rfl) rfl #[.pointer (some ⟨g, 0, none⟩), .int .i64 8] rfl (by (try simp only [List.map_toArray, List.map_cons, List.map_nil]); first | done | rfl | (simp only [List.length_drop, List.length_take]; rfl)) ?_; (with_reducible refine (kauditmake_Src_N.calls g s0_0 x1001_2 8 t307 t308 w0 _ ?side1 ?side2 A28.out).mono ?_); (case side1 => repeat (first | (with_reducible first | exact HI0.out | apply IsS39.alloc | apply IsS39.drewN | apply IsS39.drew | apply IsS39.set_1) | exact HI0.out)); (case side2 => repeat (first | (with_reducible first | exact HB.out | apply below_alloc | apply pw_below_drewN | apply below_drew1 | refine below_set ?_ (IsS39.ge HI0.out)) | exact HB.out)); rintro e w31 ⟨rfl, hi, hb, hk⟩; refine ⟨_, rfl, ?_⟩; have n0_ := Aside0.mk (KeepBut.trans (by repeat (first | (with_reducible first | exact HK.out | apply KeepBut.set_ | apply keep_drewN | apply keep_drew | apply keep_alloc) | exact HK.out)) hk (.inl rfl)); have n1_ := Aside0.mk (hb); have n2_ := Aside0.mk (hi); clear HK; clear HB; clear HI0; have HK := n0_; have HB := n1_; have HI0 := n2_; clear n0_ n1_ n2_; (try clear hb); (try clear hb2); (try clear hk); (try clear hi)))
                go_ret
                exact ⟨by first | rfl | (simp [errW_none, errW_some] <;> rfl) | (simp [*, errW_none, errW_some] <;> rfl), by repeat (first | (with_reducible first | exact HI0.out | apply IsS39.alloc | apply IsS39.drewN | apply IsS39.drew | apply IsS39.set_1) | exact HI0.out), by repeat (first | (with_reducible first | exact HB.out | apply below_alloc | apply pw_below_drewN | apply below_drew1 | refine below_set ?_ (IsS39.ge HI0.out)) | exact HB.out), by repeat (first | (with_reducible first | exact HK.out | apply KeepBut.set_ | apply keep_drewN | apply keep_drew | apply keep_alloc) | exact HK.out)⟩
              · rw [if_neg c30] at H
                exact absurd H (by simp)
            · rw [if_neg c29] at H
              have c29b0 : (t307 == 7) = false := beq_eq_false_iff_ne.mpr c29
              have c29b1 : (t307 != 7) = true := bne_iff_ne.mpr c29
              simp only [Option.some.injEq, Prod.mk.injEq] at H
              obtain ⟨rfl, rfl⟩ := H
              go_wp2_with (first | ((with_reducible refine gate_callee (f := 12) rfl ?_); refine goesL_ (some 34) rfl rfl Tryd.func12 (by kernel_rfl) rfl #[.pointer (some ⟨g, 0, none⟩), .int .i64 8] rfl (by (try simp only [List.map_toArray, List.map_cons, List.map_nil]); first | done | rfl | (simp only [List.length_drop, List.length_take]; rfl)) ?_; (with_reducible refine (kauditmake_Src_N.calls g s0_0 x1001_2 8 t307 t308 w0 _ ?side1 ?side2 A28.out).mono ?_); (case side1 => repeat (first | (with_reducible first | exact HI0.out | apply IsS39.alloc | apply IsS39.drewN | apply IsS39.drew | apply IsS39.set_1) | exact HI0.out)); (case side2 => repeat (first | (with_reducible first | exact HB.out | apply below_alloc | apply pw_below_drewN | apply below_drew1 | refine below_set ?_ (IsS39.ge HI0.out)) | exact HB.out)); rintro e w32 ⟨rfl, hi, hb, hk⟩; refine ⟨_, rfl, ?_⟩; have n0_ := Aside0.mk (KeepBut.trans (by repeat (first | (with_reducible first | exact HK.out | apply KeepBut.set_ | apply keep_drewN | apply keep_drew | apply keep_alloc) | exact HK.out)) hk (.inl rfl)); have n1_ := Aside0.mk (hb); have n2_ := Aside0.mk (hi); clear HK; clear HB; clear HI0; have HK := n0_; have HB := n1_; have HI0 := n2_; clear n0_ n1_ n2_; (try clear hb); (try clear hb2); (try clear hk); (try clear hi)))
              go_ret
              exact ⟨by first | rfl | (simp [errW_none, errW_some] <;> rfl) | (simp [*, errW_none, errW_some] <;> rfl), by repeat (first | (with_reducible first | exact HI0.out | apply IsS39.alloc | apply IsS39.drewN | apply IsS39.drew | apply IsS39.set_1) | exact HI0.out), by repeat (first | (with_reducible first | exact HB.out | apply below_alloc | apply pw_below_drewN | apply below_drew1 | refine below_set ?_ (IsS39.ge HI0.out)) | exact HB.out), by repeat (first | (with_reducible first | exact HK.out | apply KeepBut.set_ | apply keep_drewN | apply keep_drew | apply keep_alloc) | exact HK.out)⟩

end Go.Proofs.YtnjabpgbpgocnaaDoor.PAll

-- PAllx57
namespace Go.Proofs.YtnjabpgbpgocnaaDoor.PAll
open Go.RowKit Go.Proofs.YtnjabpgbpgocnaaDoorW.PrintWords Go.Proofs.YtnjabpgbpgocnaaDoorW.PrintLast Go.Proofs.YtnjabpgbpgocnaaDoorW.PrintMore
attribute [local go_sem] max2_int min2_int max_two min_two max_three min_three max_four min_four   -- for this text's walks alone
set_option linter.unusedVariables false
set_option linter.unusedSimpArgs false

/-! ### kauditlaw04_PathBuilt: function 9 -/
def kauditlaw04_PathBuilt.f (k : Nat) (l0 : List Int) : Option (Bool) := (kauditmake_New.f l0).bind fun bt318 => ((kauditmake_Src_Path.f k bt318.1 bt318.2).bind fun bt321 => ((kauditmake_Src_Path.f k bt318.1 bt321.2).bind fun bt323 => ((kauditmake_Src_Name.f bt318.1 bt323.2).bind fun bt325 => ((kauditlaw04_agrees.f k bt321.1).bind fun t327 => (if t327 = true then ((kauditlaw04_agrees.f k bt323.1).bind fun t328 => (if t328 = true then ((kauditlaw04_agrees.f k bt325.1).bind fun t329 => (if t329 = true then ((path_Join.f bt321.1 bt325.1).bind fun t330 => ((kauditref04_Join.f bt321.1 bt325.1).bind fun t331 => (if t330.toList = t331.toList then ((path_Under.f k bt321.1 bt323.1).bind fun t332 => ((kauditref04_Under.f k bt321.1 bt323.1).bind fun t333 => (if (t332 == t333) = true then ((path_Join.f bt321.1 bt325.1).bind fun t334 => ((path_Under.f k bt321.1 t334).bind fun t335 => ((kauditref04_Join.f bt321.1 bt325.1).bind fun t336 => ((kauditref04_Under.f k bt321.1 t336).bind fun t337 => (if (t335 == t337) = true then ((kauditlaw04_awake.f k).bind fun t338 => (some t338)) else (some false)))))) else (some false)))) else (some false)))) else (some false))) else (some false))) else (some false))))))
theorem kauditlaw04_PathBuilt.mono : ∀ a0 k, LeO (kauditlaw04_PathBuilt.f k a0) (kauditlaw04_PathBuilt.f (k + 1) a0) := by
  intro a0 k
  unfold kauditlaw04_PathBuilt.f
  repeat' first
      | (with_reducible exact kauditlaw04_agrees.mono _ _)
      | (with_reducible exact kauditlaw04_awake.mono _)
      | (with_reducible exact kauditmake_Src_Path.mono _ _ _)
      | (with_reducible exact kauditref04_Under.mono _ _ _)
      | (with_reducible exact path_Under.mono _ _ _)
      | (with_reducible exact LeO.refl _)
      | (with_reducible exact LeO.none _)
      | (with_reducible refine LeO.ite ?_ ?_)
      | (with_reducible refine LeO.bind ?_ (fun _ => ?_))
      | exact kauditlaw04_agrees.mono _ _
      | exact kauditlaw04_awake.mono _
      | exact kauditmake_Src_Path.mono _ _ _
      | exact kauditref04_Under.mono _ _ _
      | exact path_Under.mono _ _ _
      | exact LeO.none _
      | refine LeO.ite ?_ ?_
      | refine LeO.bind ?_ (fun _ => ?_)
set_option maxHeartbeats 8000000 in
set_option maxRecDepth 100000 in
theorem kauditlaw04_PathBuilt.calls (k : Nat) (A0 : Option Addr) (c0 : Nat) (l0 : List Int) (r : Bool) (w : World) (hr0 : Kd.C (Kd.int .i64) w A0 l0.length l0) (hc0 : l0.length ≤ c0) (h : kauditlaw04_PathBuilt.f k l0 = some r) :
    Calls Tryd.prog 9 #[.slice A0 l0.length c0] w fun e w' => e = .returned (.bool r) ∧ Below w.heap.size w w' := by
  have HR0 := Aside0.mk hr0
  have HC0 := Aside0.mk hc0
  clear hr0 hc0
  have HB := Aside0.mk (Below.refl w.heap.size w)
  have H : ((kauditmake_New.f l0).bind fun bt318 => ((kauditmake_Src_Path.f k bt318.1 bt318.2).bind fun bt321 => ((kauditmake_Src_Path.f k bt318.1 bt321.2).bind fun bt323 => ((kauditmake_Src_Name.f bt318.1 bt323.2).bind fun bt325 => ((kauditlaw04_agrees.f k bt321.1).bind fun t327 => (if t327 = true then ((kauditlaw04_agrees.f k bt323.1).bind fun t328 => (if t328 = true then ((kauditlaw04_agrees.f k bt325.1).bind fun t329 => (if t329 = true then ((path_Join.f bt321.1 bt325.1).bind fun t330 => ((kauditref04_Join.f bt321.1 bt325.1).bind fun t331 => (if t330.toList = t331.toList then ((path_Under.f k bt321.1 bt323.1).bind fun t332 => ((kauditref04_Under.f k bt321.1 bt323.1).bind fun t333 => (if (t332 == t333) = true then ((path_Join.f bt321.1 bt325.1).bind fun t334 => ((path_Under.f k bt321.1 t334).bind fun t335 => ((kauditref04_Join.f bt321.1 bt325.1).bind fun t336 => ((kauditref04_Under.f k bt321.1 t336).bind fun t337 => (if (t335 == t337) = true then ((kauditlaw04_awake.f k).bind fun t338 => (some t338)) else (some false)))))) else (some false)))) else (some false)))) else (some false))) else (some false))) else (some false))))))) = some r := h
  clear h
  replace H := Option.bind_eq_some_iff.mp H
  obtain ⟨⟨t318, t319⟩, A20, H⟩ := H
  replace H : ((kauditmake_Src_Path.f k t318 t319).bind fun bt321 => ((kauditmake_Src_Path.f k t318 bt321.2).bind fun bt323 => ((kauditmake_Src_Name.f t318 bt323.2).bind fun bt325 => ((kauditlaw04_agrees.f k bt321.1).bind fun t327 => (if t327 = true then ((kauditlaw04_agrees.f k bt323.1).bind fun t328 => (if t328 = true then ((kauditlaw04_agrees.f k bt325.1).bind fun t329 => (if t329 = true then ((path_Join.f bt321.1 bt325.1).bind fun t330 => ((kauditref04_Join.f bt321.1 bt325.1).bind fun t331 => (if t330.toList = t331.toList then ((path_Under.f k bt321.1 bt323.1).bind fun t332 => ((kauditref04_Under.f k bt321.1 bt323.1).bind fun t333 => (if (t332 == t333) = true then ((path_Join.f bt321.1 bt325.1).bind fun t334 => ((path_Under.f k bt321.1 t334).bind fun t335 => ((kauditref04_Join.f bt321.1 bt325.1).bind fun t336 => ((kauditref04_Under.f k bt321.1 t336).bind fun t337 => (if (t335 == t337) = true then ((kauditlaw04_awake.f k).bind fun t338 => (some t338)) else (some false)))))) else (some false)))) else (some false)))) else (some false))) else (some false))) else (some false)))))) = some r := H
  have A2 := Aside0.mk A20
  clear A20
  replace H := Option.bind_eq_some_iff.mp H
  obtain ⟨⟨t321, t322⟩, A30, H⟩ := H
  replace H : ((kauditmake_Src_Path.f k t318 t322).bind fun bt323 => ((kauditmake_Src_Name.f t318 bt323.2).bind fun bt325 => ((kauditlaw04_agrees.f k t321).bind fun t327 => (if t327 = true then ((kauditlaw04_agrees.f k bt323.1).bind fun t328 => (if t328 = true then ((kauditlaw04_agrees.f k bt325.1).bind fun t329 => (if t329 = true then ((path_Join.f t321 bt325.1).bind fun t330 => ((kauditref04_Join.f t321 bt325.1).bind fun t331 => (if t330.toList = t331.toList then ((path_Under.f k t321 bt323.1).bind fun t332 => ((kauditref04_Under.f k t321 bt323.1).bind fun t333 => (if (t332 == t333) = true then ((path_Join.f t321 bt325.1).bind fun t334 => ((path_Under.f k t321 t334).bind fun t335 => ((kauditref04_Join.f t321 bt325.1).bind fun t336 => ((kauditref04_Under.f k t321 t336).bind fun t337 => (if (t335 == t337) = true then ((kauditlaw04_awake.f k).bind fun t338 => (some t338)) else (some false)))))) else (some false)))) else (some false)))) else (some false))) else (some false))) else (some false))))) = some r := H
  have A3 := Aside0.mk A30
  clear A30
  replace H := Option.bind_eq_some_iff.mp H
  obtain ⟨⟨t323, t324⟩, A40, H⟩ := H
  replace H : ((kauditmake_Src_Name.f t318 t324).bind fun bt325 => ((kauditlaw04_agrees.f k t321).bind fun t327 => (if t327 = true then ((kauditlaw04_agrees.f k t323).bind fun t328 => (if t328 = true then ((kauditlaw04_agrees.f k bt325.1).bind fun t329 => (if t329 = true then ((path_Join.f t321 bt325.1).bind fun t330 => ((kauditref04_Join.f t321 bt325.1).bind fun t331 => (if t330.toList = t331.toList then ((path_Under.f k t321 t323).bind fun t332 => ((kauditref04_Under.f k t321 t323).bind fun t333 => (if (t332 == t333) = true then ((path_Join.f t321 bt325.1).bind fun t334 => ((path_Under.f k t321 t334).bind fun t335 => ((kauditref04_Join.f t321 bt325.1).bind fun t336 => ((kauditref04_Under.f k t321 t336).bind fun t337 => (if (t335 == t337) = true then ((kauditlaw04_awake.f k).bind fun t338 => (some t338)) else (some false)))))) else (some false)))) else (some false)))) else (some false))) else (some false))) else (some false)))) = some r := H
  have A4 := Aside0.mk A40
  clear A40
  replace H := Option.bind_eq_some_iff.mp H
  obtain ⟨⟨t325, t326⟩, A50, H⟩ := H
  replace H : ((kauditlaw04_agrees.f k t321).bind fun t327 => (if t327 = true then ((kauditlaw04_agrees.f k t323).bind fun t328 => (if t328 = true then ((kauditlaw04_agrees.f k t325).bind fun t329 => (if t329 = true then ((path_Join.f t321 t325).bind fun t330 => ((kauditref04_Join.f t321 t325).bind fun t331 => (if t330.toList = t331.toList then ((path_Under.f k t321 t323).bind fun t332 => ((kauditref04_Under.f k t321 t323).bind fun t333 => (if (t332 == t333) = true then ((path_Join.f t321 t325).bind fun t334 => ((path_Under.f k t321 t334).bind fun t335 => ((kauditref04_Join.f t321 t325).bind fun t336 => ((kauditref04_Under.f k t321 t336).bind fun t337 => (if (t335 == t337) = true then ((kauditlaw04_awake.f k).bind fun t338 => (some t338)) else (some false)))))) else (some false)))) else (some false)))) else (some false))) else (some false))) else (some false))) = some r := H
  have A5 := Aside0.mk A50
  clear A50
  replace H := Option.bind_eq_some_iff.mp H
  obtain ⟨t327, A60, H⟩ := H
  replace H : (if t327 = true then ((kauditlaw04_agrees.f k t323).bind fun t328 => (if t328 = true then ((kauditlaw04_agrees.f k t325).bind fun t329 => (if t329 = true then ((path_Join.f t321 t325).bind fun t330 => ((kauditref04_Join.f t321 t325).bind fun t331 => (if t330.toList = t331.toList then ((path_Under.f k t321 t323).bind fun t332 => ((kauditref04_Under.f k t321 t323).bind fun t333 => (if (t332 == t333) = true then ((path_Join.f t321 t325).bind fun t334 => ((path_Under.f k t321 t334).bind fun t335 => ((kauditref04_Join.f t321 t325).bind fun t336 => ((kauditref04_Under.f k t321 t336).bind fun t337 => (if (t335 == t337) = true then ((kauditlaw04_awake.f k).bind fun t338 => (some t338)) else (some false)))))) else (some false)))) else (some false)))) else (some false))) else (some false))) else (some false)) = some r := H
  have A6 := Aside0.mk A60
  clear A60
  by_cases c7 : t327 = true
  · subst c7
    have H1 : ((kauditlaw04_agrees.f k t323).bind fun t328 => (if t328 = true then ((kauditlaw04_agrees.f k t325).bind fun t329 => (if t329 = true then ((path_Join.f t321 t325).bind fun t330 => ((kauditref04_Join.f t321 t325).bind fun t331 => (if t330.toList = t331.toList then ((path_Under.f k t321 t323).bind fun t332 => ((kauditref04_Under.f k t321 t323).bind fun t333 => (if (t332 == t333) = true then ((path_Join.f t321 t325).bind fun t334 => ((path_Under.f k t321 t334).bind fun t335 => ((kauditref04_Join.f t321 t325).bind fun t336 => ((kauditref04_Under.f k t321 t336).bind fun t337 => (if (t335 == t337) = true then ((kauditlaw04_awake.f k).bind fun t338 => (some t338)) else (some false)))))) else (some false)))) else (some false)))) else (some false))) else (some false))) = some r := by rw [if_pos rfl] at H; exact H
    clear H
    have H := H1
    clear H1
    replace H := Option.bind_eq_some_iff.mp H
    obtain ⟨t328, A80, H⟩ := H
    replace H : (if t328 = true then ((kauditlaw04_agrees.f k t325).bind fun t329 => (if t329 = true then ((path_Join.f t321 t325).bind fun t330 => ((kauditref04_Join.f t321 t325).bind fun t331 => (if t330.toList = t331.toList then ((path_Under.f k t321 t323).bind fun t332 => ((kauditref04_Under.f k t321 t323).bind fun t333 => (if (t332 == t333) = true then ((path_Join.f t321 t325).bind fun t334 => ((path_Under.f k t321 t334).bind fun t335 => ((kauditref04_Join.f t321 t325).bind fun t336 => ((kauditref04_Under.f k t321 t336).bind fun t337 => (if (t335 == t337) = true then ((kauditlaw04_awake.f k).bind fun t338 => (some t338)) else (some false)))))) else (some false)))) else (some false)))) else (some false))) else (some false)) = some r := H
    have A8 := Aside0.mk A80
    clear A80
    by_cases c9 : t328 = true
    · subst c9
      have H1 : ((kauditlaw04_agrees.f k t325).bind fun t329 => (if t329 = true then ((path_Join.f t321 t325).bind fun t330 => ((kauditref04_Join.f t321 t325).bind fun t331 => (if t330.toList = t331.toList then ((path_Under.f k t321 t323).bind fun t332 => ((kauditref04_Under.f k t321 t323).bind fun t333 => (if (t332 == t333) = true then ((path_Join.f t321 t325).bind fun t334 => ((path_Under.f k t321 t334).bind fun t335 => ((kauditref04_Join.f t321 t325).bind fun t336 => ((kauditref04_Under.f k t321 t336).bind fun t337 => (if (t335 == t337) = true then ((kauditlaw04_awake.f k).bind fun t338 => (some t338)) else (some false)))))) else (some false)))) else (some false)))) else (some false))) = some r := by rw [if_pos rfl] at H; exact H
      clear H
      have H := H1
      clear H1
      replace H := Option.bind_eq_some_iff.mp H
      obtain ⟨t329, A100, H⟩ := H
      replace H : (if t329 = true then ((path_Join.f t321 t325).bind fun t330 => ((kauditref04_Join.f t321 t325).bind fun t331 => (if t330.toList = t331.toList then ((path_Under.f k t321 t323).bind fun t332 => ((kauditref04_Under.f k t321 t323).bind fun t333 => (if (t332 == t333) = true then ((path_Join.f t321 t325).bind fun t334 => ((path_Under.f k t321 t334).bind fun t335 => ((kauditref04_Join.f t321 t325).bind fun t336 => ((kauditref04_Under.f k t321 t336).bind fun t337 => (if (t335 == t337) = true then ((kauditlaw04_awake.f k).bind fun t338 => (some t338)) else (some false)))))) else (some false)))) else (some false)))) else (some false)) = some r := H
      have A10 := Aside0.mk A100
      clear A100
      by_cases c11 : t329 = true
      · subst c11
        have H1 : ((path_Join.f t321 t325).bind fun t330 => ((kauditref04_Join.f t321 t325).bind fun t331 => (if t330.toList = t331.toList then ((path_Under.f k t321 t323).bind fun t332 => ((kauditref04_Under.f k t321 t323).bind fun t333 => (if (t332 == t333) = true then ((path_Join.f t321 t325).bind fun t334 => ((path_Under.f k t321 t334).bind fun t335 => ((kauditref04_Join.f t321 t325).bind fun t336 => ((kauditref04_Under.f k t321 t336).bind fun t337 => (if (t335 == t337) = true then ((kauditlaw04_awake.f k).bind fun t338 => (some t338)) else (some false)))))) else (some false)))) else (some false)))) = some r := by rw [if_pos rfl] at H; exact H
        clear H
        have H := H1
        clear H1
        replace H := Option.bind_eq_some_iff.mp H
        obtain ⟨t330, A120, H⟩ := H
        replace H : ((kauditref04_Join.f t321 t325).bind fun t331 => (if t330.toList = t331.toList then ((path_Under.f k t321 t323).bind fun t332 => ((kauditref04_Under.f k t321 t323).bind fun t333 => (if (t332 == t333) = true then ((path_Join.f t321 t325).bind fun t334 => ((path_Under.f k t321 t334).bind fun t335 => ((kauditref04_Join.f t321 t325).bind fun t336 => ((kauditref04_Under.f k t321 t336).bind fun t337 => (if (t335 == t337) = true then ((kauditlaw04_awake.f k).bind fun t338 => (some t338)) else (some false)))))) else (some false)))) else (some false))) = some r := H
        have A12 := Aside0.mk A120
        clear A120
        replace H := Option.bind_eq_some_iff.mp H
        obtain ⟨t331, A130, H⟩ := H
        replace H : (if t330.toList = t331.toList then ((path_Under.f k t321 t323).bind fun t332 => ((kauditref04_Under.f k t321 t323).bind fun t333 => (if (t332 == t333) = true then ((path_Join.f t321 t325).bind fun t334 => ((path_Under.f k t321 t334).bind fun t335 => ((kauditref04_Join.f t321 t325).bind fun t336 => ((kauditref04_Under.f k t321 t336).bind fun t337 => (if (t335 == t337) = true then ((kauditlaw04_awake.f k).bind fun t338 => (some t338)) else (some false)))))) else (some false)))) else (some false)) = some r := H
        have A13 := Aside0.mk A130
        clear A130
        by_cases c14 : t330.toList = t331.toList
        · rw [if_pos c14] at H
          have c14b0 : (t330.toList == t331.toList) = true := beq_iff_eq.mpr c14
          have c14b1 : (t330.toList != t331.toList) = false := bne_eq_false_iff_eq.mpr c14
          clear c14
          replace H := Option.bind_eq_some_iff.mp H
          obtain ⟨t332, A150, H⟩ := H
          replace H : ((kauditref04_Under.f k t321 t323).bind fun t333 => (if (t332 == t333) = true then ((path_Join.f t321 t325).bind fun t334 => ((path_Under.f k t321 t334).bind fun t335 => ((kauditref04_Join.f t321 t325).bind fun t336 => ((kauditref04_Under.f k t321 t336).bind fun t337 => (if (t335 == t337) = true then ((kauditlaw04_awake.f k).bind fun t338 => (some t338)) else (some false)))))) else (some false))) = some r := H
          have A15 := Aside0.mk A150
          clear A150
          replace H := Option.bind_eq_some_iff.mp H
          obtain ⟨t333, A160, H⟩ := H
          replace H : (if (t332 == t333) = true then ((path_Join.f t321 t325).bind fun t334 => ((path_Under.f k t321 t334).bind fun t335 => ((kauditref04_Join.f t321 t325).bind fun t336 => ((kauditref04_Under.f k t321 t336).bind fun t337 => (if (t335 == t337) = true then ((kauditlaw04_awake.f k).bind fun t338 => (some t338)) else (some false)))))) else (some false)) = some r := H
          have A16 := Aside0.mk A160
          clear A160
          by_cases c17 : (t332 == t333) = true
          · rw [if_pos c17] at H
            have c17b0 : (t332 == t333) = true := c17
            (try (have c17b1 : decide (t332 = t333) = true := by simpa using c17))
            (try (have c17b2 : (t332 == t333) = true := by simpa using c17))
            clear c17
            replace H := Option.bind_eq_some_iff.mp H
            obtain ⟨t334_, A180, H⟩ := H
            obtain rfl : t330 = t334_ := Option.some.inj (A12.out.symm.trans A180)
            replace H : ((path_Under.f k t321 t330).bind fun t335 => ((kauditref04_Join.f t321 t325).bind fun t331 => ((kauditref04_Under.f k t321 t331).bind fun t337 => (if (t335 == t337) = true then ((kauditlaw04_awake.f k).bind fun t338 => (some t338)) else (some false))))) = some r := H
            have A18 := Aside0.mk A180
            clear A180
            replace H := Option.bind_eq_some_iff.mp H
            obtain ⟨t335, A190, H⟩ := H
            replace H : ((kauditref04_Join.f t321 t325).bind fun t331 => ((kauditref04_Under.f k t321 t331).bind fun t337 => (if (t335 == t337) = true then ((kauditlaw04_awake.f k).bind fun t338 => (some t338)) else (some false)))) = some r := H
            have A19 := Aside0.mk A190
            clear A190
            replace H := Option.bind_eq_some_iff.mp H
            obtain ⟨t336_, A200, H⟩ := H
            obtain rfl : t331 = t336_ := Option.some.inj (A13.out.symm.trans A200)
            replace H : ((kauditref04_Under.f k t321 t331).bind fun t337 => (if (t335 == t337) = true then ((kauditlaw04_awake.f k).bind fun t338 => (some t338)) else (some false))) = some r := H
            have A20 := Aside0.mk A200
            clear A200
            replace H := Option.bind_eq_some_iff.mp H
            obtain ⟨t337, A210, H⟩ := H
            replace H : (if (t335 == t337) = true then ((kauditlaw04_awake.f k).bind fun t338 => (some t338)) else (some false)) = some r := H
            have A21 := Aside0.mk A210
            clear A210
            by_cases c22 : (t335 == t337) = true
            · rw [if_pos c22] at H
              have c22b0 : (t335 == t337) = true := c22
              (try (have c22b1 : decide (t335 = t337) = true := by simpa using c22))
              (try (have c22b2 : (t335 == t337) = true := by simpa using c22))
              clear c22
              replace H := Option.bind_eq_some_iff.mp H
              obtain ⟨t338, A230, H⟩ := H
              replace H : (some t338) = some r := H
              have A23 := Aside0.mk A230
              clear A230
              obtain rfl := Option.some.inj H
              go_enter Tryd.func9, Tryd.ntmps9
              go_wp2_with (first | ((with_reducible refine gate_callee (f := 10) rfl ?_); refine goesL_ (some 8) rfl rfl Tryd.func10 (by kernel_rfl) rfl #[.slice A0 l0.length c0] rfl (by (try simp only [List.map_toArray, List.map_cons, List.map_nil]); first | done | rfl | (simp only [List.length_drop, List.length_take]; rfl)) ?_; (with_reducible refine (kauditmake_New.calls _ _ l0 t318 t319 w _ ?side1 ?side2 ?side3 A2.out).mono ?_); (case side1 => repeat (first | (with_reducible first | exact HB.out | apply below_alloc | apply pw_below_drewN | apply below_drew1) | exact HB.out)); (case side2 => exact HR0.out); (case side3 => exact HC0.out); rintro e w24 ⟨g320, rfl, hi, hb, hb2⟩; refine ⟨_, rfl, ?_⟩; have n0_ := Aside0.mk (hb); have n1_ := Aside0.mk (hi); clear HB; have HB := n0_; have HI320 := n1_; clear n0_ n1_; (try clear hb); (try clear hb2); (try clear hk); (try clear hi)) | ((with_reducible refine gate_callee (f := 24) rfl ?_); refine goesL_ (some 10) rfl rfl Tryd.func24 (by kernel_rfl) rfl #[.pointer (some ⟨g320, 0, none⟩)] rfl (by (try simp only [List.map_toArray, List.map_cons, List.map_nil]); first | done | rfl | (simp only [List.length_drop, List.length_take]; rfl)) ?_; (with_reducible refine (kauditmake_Src_Path.calls k g320 t318 t319 t321 t322 w _ ?side1 ?side2 A3.out).mono ?_); (case side1 => repeat (first | (with_reducible first | exact HI320.out | apply IsS39.alloc | apply IsS39.drewN | apply IsS39.drew | apply IsS39.set_1) | exact HI320.out)); (case side2 => repeat (first | (with_reducible first | exact HB.out | apply below_alloc | apply pw_below_drewN | apply below_drew1 | refine below_set ?_ (IsS39.ge HI320.out)) | exact HB.out)); rintro e w25 ⟨rfl, hi, hb, hk⟩; refine ⟨_, rfl, ?_⟩; have n0_ := Aside0.mk (hb); have n1_ := Aside0.mk (hi); clear HB; clear HI320; have HB := n0_; have HI320 := n1_; clear n0_ n1_; (try clear hb); (try clear hb2); (try clear hk); (try clear hi)) | ((with_reducible refine gate_callee (f := 24) rfl ?_); refine goesL_ (some 12) rfl rfl Tryd.func24 (by kernel_rfl) rfl #[.pointer (some ⟨g320, 0, none⟩)] rfl (by (try simp only [List.map_toArray, List.map_cons, List.map_nil]); first | done | rfl | (simp only [List.length_drop, List.length_take]; rfl)) ?_; (with_reducible refine (kauditmake_Src_Path.calls k g320 t318 t322 t323 t324 w _ ?side1 ?side2 A4.out).mono ?_); (case side1 => repeat (first | (with_reducible first | exact HI320.out | apply IsS39.alloc | apply IsS39.drewN | apply IsS39.drew | apply IsS39.set_1) | exact HI320.out)); (case side2 => repeat (first | (with_reducible first | exact HB.out | apply below_alloc | apply pw_below_drewN | apply below_drew1 | refine below_set ?_ (IsS39.ge HI320.out)) | exact HB.out)); rintro e w26 ⟨rfl, hi, hb, hk⟩; refine ⟨_, rfl, ?_⟩; have n0_ := Aside0.mk (hb); have n1_ := Aside0.mk (hi); clear HB; clear HI320; have HB := n0_; have HI320 := n1_; clear n0_ n1_; (try clear hb); (try clear hb2); (try clear hk); (try clear hi)) | ((with_reducible refine gate_callee (f := 20) rfl ?_); refine goesL_ (some 14) rfl rfl Tryd.func20 (by kernel_rfl) rfl #[.pointer (some ⟨g320, 0, none⟩)] rfl (by (try simp only [List.map_toArray, List.map_cons, List.map_nil]); first | done | rfl | (simp only [List.length_drop, List.length_take]; rfl)) ?_; (with_reducible refine (kauditmake_Src_Name.calls g320 t318 t324 t325 t326 w _ ?side1 ?side2 A5.out).mono ?_); (case side1 => repeat (first | (with_reducible first | exact HI320.out | apply IsS39.alloc | apply IsS39.drewN | apply IsS39.drew | apply IsS39.set_1) | exact HI320.out)); (case side2 => repeat (first | (with_reducible first | exact HB.out | apply below_alloc | apply pw_below_drewN | apply below_drew1 | refine below_set ?_ (IsS39.ge HI320.out)) | exact HB.out)); rintro e w27 ⟨rfl, hi, hb, hk⟩; refine ⟨_, rfl, ?_⟩; have n0_ := Aside0.mk (hb); have n1_ := Aside0.mk (hi); clear HB; clear HI320; have HB := n0_; have HI320 := n1_; clear n0_ n1_; (try clear hb); (try clear hb2); (try clear hk); (try clear hi)) | ((with_reducible refine gate_callee (f := 18) rfl ?_); refine goesL_ (some 16) rfl rfl Tryd.func18 (by kernel_rfl) rfl #[.string t321] rfl (by (try simp only [List.map_toArray, List.map_cons, List.map_nil]); first | done | rfl | (simp only [List.length_drop, List.length_take]; rfl)) ?_; (with_reducible refine (kauditlaw04_agrees.calls k t321 true _ A6.out).mono ?_); rintro e w28 ⟨rfl, hb⟩; refine ⟨_, rfl, ?_⟩; have n0_ := Aside0.mk (IsS39.below (by repeat (first | (with_reducible first | exact HI320.out | apply IsS39.alloc | apply IsS39.drewN | apply IsS39.drew | apply IsS39.set_1) | exact HI320.out)) hb); have n1_ := Aside0.mk (below_step (by repeat (first | (with_reducible first | exact HB.out | apply below_alloc | apply pw_below_drewN | apply below_drew1 | refine below_set ?_ (IsS39.ge HI320.out)) | exact HB.out)) hb); clear HI320; clear HB; have HI320 := n0_; have HB := n1_; clear n0_ n1_; (try clear hb); (try clear hb2); (try clear hk); (try clear hi)) | (go_at_call 18; (with_reducible refine (kauditlaw04_agrees.calls k t323 true _ A8.out).mono ?_); rintro e w29 ⟨rfl, hb⟩; have n0_ := Aside0.mk (IsS39.below (by repeat (first | (with_reducible first | exact HI320.out | apply IsS39.alloc | apply IsS39.drewN | apply IsS39.drew | apply IsS39.set_1) | exact HI320.out)) hb); have n1_ := Aside0.mk (below_step (by repeat (first | (with_reducible first | exact HB.out | apply below_alloc | apply pw_below_drewN | apply below_drew1 | refine below_set ?_ (IsS39.ge HI320.out)) | exact HB.out)) hb); clear HI320; clear HB; have HI320 := n0_; have HB := n1_; clear n0_ n1_; (try clear hb); (try clear hb2); (try clear hk); (try clear hi)) | (go_at_call 18; (with_reducible refine (kauditlaw04_agrees.calls k t325 true _ A10.out).mono ?_); rintro e w30 ⟨rfl, hb⟩; have n0_ := Aside0.mk (IsS39.below (by repeat (first | (with_reducible first | exact HI320.out | apply IsS39.alloc | apply IsS39.drewN | apply IsS39.drew | apply IsS39.set_1) | exact HI320.out)) hb); have n1_ := Aside0.mk (below_step (by repeat (first | (with_reducible first | exact HB.out | apply below_alloc | apply pw_below_drewN | apply below_drew1 | refine below_set ?_ (IsS39.ge HI320.out)) | exact HB.out)) hb); clear HI320; clear HB; have HI320 := n0_; have HB := n1_; clear n0_ n1_; (try clear hb); (try clear hb2); (try clear hk); (try clear hi)) | (go_at_call 13; (with_reducible refine (path_Join.calls t321 t325 t330 _ A12.out).mono ?_); rintro e w' ⟨rfl, ⟨nd, rfl⟩⟩) | (go_at_call 22; (with_reducible refine (kauditref04_Join.calls t321 t325 t331 _ A13.out).mono ?_); rintro e w' ⟨rfl, ⟨nd, rfl⟩⟩) | (go_at_call 14; (with_reducible refine (path_Under.calls k t321 t323 t332 _ A15.out).mono ?_); rintro e w31 ⟨rfl, hb⟩; have n0_ := Aside0.mk (IsS39.below (by repeat (first | (with_reducible first | exact HI320.out | apply IsS39.alloc | apply IsS39.drewN | apply IsS39.drew | apply IsS39.set_1) | exact HI320.out)) hb); have n1_ := Aside0.mk (below_step (by repeat (first | (with_reducible first | exact HB.out | apply below_alloc | apply pw_below_drewN | apply below_drew1 | refine below_set ?_ (IsS39.ge HI320.out)) | exact HB.out)) hb); clear HI320; clear HB; have HI320 := n0_; have HB := n1_; clear n0_ n1_; (try clear hb); (try clear hb2); (try clear hk); (try clear hi)) | (go_at_call 23; (with_reducible refine (kauditref04_Under.calls k t321 t323 t333 _ A16.out).mono ?_); rintro e w32 ⟨rfl, hb⟩; have n0_ := Aside0.mk (IsS39.below (by repeat (first | (with_reducible first | exact HI320.out | apply IsS39.alloc | apply IsS39.drewN | apply IsS39.drew | apply IsS39.set_1) | exact HI320.out)) hb); have n1_ := Aside0.mk (below_step (by repeat (first | (with_reducible first | exact HB.out | apply below_alloc | apply pw_below_drewN | apply below_drew1 | refine below_set ?_ (IsS39.ge HI320.out)) | exact HB.out)) hb); clear HI320; clear HB; have HI320 := n0_; have HB := n1_; clear n0_ n1_; (try clear hb); (try clear hb2); (try clear hk); (try clear hi)) | (go_at_call 13; (with_reducible refine (path_Join.calls t321 t325 t330 _ A18.out).mono ?_); rintro e w' ⟨rfl, ⟨nd, rfl⟩⟩) | (go_at_call 14; (with_reducible refine (path_Under.calls k t321 t330 t335 _ A19.out).mono ?_); rintro e w33 ⟨rfl, hb⟩; have n0_ := Aside0.mk (IsS39.below (by repeat (first | (with_reducible first | exact HI320.out | apply IsS39.alloc | apply IsS39.drewN | apply IsS39.drew | apply IsS39.set_1) | exact HI320.out)) hb); have n1_ := Aside0.mk (below_step (by repeat (first | (with_reducible first | exact HB.out | apply below_alloc | apply pw_below_drewN | apply below_drew1 | refine below_set ?_ (IsS39.ge HI320.out)) | exact HB.out)) hb); clear HI320; clear HB; have HI320 := n0_; have HB := n1_; clear n0_ n1_; (try clear hb); (try clear hb2); (try clear hk); (try clear hi)) | (go_at_call 22; (with_reducible refine (kauditref04_Join.calls t321 t325 t331 _ A20.out).mono ?_); rintro e w' ⟨rfl, ⟨nd, rfl⟩⟩) | (go_at_call 23; (with_reducible refine (kauditref04_Under.calls k t321 t331 t337 _ A21.out).mono ?_); rintro e w34 ⟨rfl, hb⟩; have n0_ := Aside0.mk (IsS39.below (by repeat (first | (with_reducible first | exact HI320.out | apply IsS39.alloc | apply IsS39.drewN | apply IsS39.drew | apply IsS39.set_1) | exact HI320.out)) hb); have n1_ := Aside0.mk (below_step (by repeat (first | (with_reducible first | exact HB.out | apply below_alloc | apply pw_below_drewN | apply below_drew1 | refine below_set ?_ (IsS39.ge HI320.out)) | exact HB.out)) hb); clear HI320; clear HB; have HI320 := n0_; have HB := n1_; clear n0_ n1_; (try clear hb); (try clear hb2); (try clear hk); (try clear hi)) | (go_at_call 15; (with_reducible refine (kauditlaw04_awake.calls k  t338 _ A23.out).mono ?_); rintro e w35 ⟨rfl, hb⟩; have n0_ := Aside0.mk (IsS39.below (by repeat (first | (with_reducible first | exact HI320.out | apply IsS39.alloc | apply IsS39.drewN | apply IsS39.drew | apply IsS39.set_1) | exact HI320.out)) hb); have n1_ := Aside0.mk (below_step (by repeat (first | (with_reducible first | exact HB.out | apply below_alloc | apply pw_below_drewN | apply below_drew1 | refine below_set ?_ (IsS39.ge HI320.out)) | exact HB.out)) hb); clear HI320; clear HB; have HI320 := n0_; have HB := n1_; clear n0_ n1_; (try clear hb); (try clear hb2); (try clear hk); (try clear hi)))
              go_ret
              exact ⟨by first | rfl | (simp [errW_none, errW_some] <;> rfl) | (simp [*, errW_none, errW_some] <;> rfl), by repeat (first | (with_reducible first | exact HB.out | apply below_alloc | apply pw_below_drewN | apply below_drew1 | refine below_set ?_ (IsS39.ge HI320.out)) | exact HB.out)⟩
            · rw [if_neg c22] at H
              have c22b0 : (t335 == t337) = false := by simpa using c22
              (try (have c22b1 : decide (t335 = t337) = false := by simpa using c22))
              (try (have c22b2 : (t335 == t337) = false := by simpa using c22))
              (try (have c22b3 : ¬ (t335 = t337) := by simpa using c22))
              clear c22
              obtain rfl := Option.some.inj H
              go_enter Tryd.func9, Tryd.ntmps9
              go_wp2_with (first | ((with_reducible refine gate_callee (f := 10) rfl ?_); refine goesL_ (some 8) rfl rfl Tryd.func10 (by kernel_rfl) rfl #[.slice A0 l0.length c0] rfl (by (try simp only [List.map_toArray, List.map_cons, List.map_nil]); first | done | rfl | (simp only [List.length_drop, List.length_take]; rfl)) ?_; (with_reducible refine (kauditmake_New.calls _ _ l0 t318 t319 w _ ?side1 ?side2 ?side3 A2.out).mono ?_); (case side1 => repeat (first | (with_reducible first | exact HB.out | apply below_alloc | apply pw_below_drewN | apply below_drew1) | exact HB.out)); (case side2 => exact HR0.out); (case side3 => exact HC0.out); rintro e w36 ⟨g320, rfl, hi, hb, hb2⟩; refine ⟨_, rfl, ?_⟩; have n0_ := Aside0.mk (hb); have n1_ := Aside0.mk (hi); clear HB; have HB := n0_; have HI320 := n1_; clear n0_ n1_; (try clear hb); (try clear hb2); (try clear hk); (try clear hi)) | ((with_reducible refine gate_callee (f := 24) rfl ?_); refine goesL_ (some 10) rfl rfl Tryd.func24 (by kernel_rfl) rfl #[.pointer (some ⟨g320, 0, none⟩)] rfl (by (try simp only [List.map_toArray, List.map_cons, List.map_nil]); first | done | rfl | (simp only [List.length_drop, List.length_take]; rfl)) ?_; (with_reducible refine (kauditmake_Src_Path.calls k g320 t318 t319 t321 t322 w _ ?side1 ?side2 A3.out).mono ?_); (case side1 => repeat (first | (with_reducible first | exact HI320.out | apply IsS39.alloc | apply IsS39.drewN | apply IsS39.drew | apply IsS39.set_1) | exact HI320.out)); (case side2 => repeat (first | (with_reducible first | exact HB.out | apply below_alloc | apply pw_below_drewN | apply below_drew1 | refine below_set ?_ (IsS39.ge HI320.out)) | exact HB.out)); rintro e w37 ⟨rfl, hi, hb, hk⟩; refine ⟨_, rfl, ?_⟩; have n0_ := Aside0.mk (hb); have n1_ := Aside0.mk (hi); clear HB; clear HI320; have HB := n0_; have HI320 := n1_; clear n0_ n1_; (try clear hb); (try clear hb2); (try clear hk); (try clear hi)) | ((with_reducible refine gate_callee (f := 24) rfl ?_); refine goesL_ (some 12) rfl rfl Tryd.func24 (by kernel_rfl) rfl #[.pointer (some ⟨g320, 0, none⟩)] rfl (by (try simp only [List.map_toArray, List.map_cons, List.map_nil]); first | done | rfl | (simp only [List.length_drop, List.length_take]; rfl)) ?_; (with_reducible refine (kauditmake_Src_Path.calls k g320 t318 t322 t323 t324 w _ ?side1 ?side2 A4.out).mono ?_); (case side1 => repeat (first | (with_reducible first | exact HI320.out | apply IsS39.alloc | apply IsS39.drewN | apply IsS39.drew | apply IsS39.set_1) | exact HI320.out)); (case side2 => repeat (first | (with_reducible first | exact HB.out | apply below_alloc | apply pw_below_drewN | apply below_drew1 | refine below_set ?_ (IsS39.ge HI320.out)) | exact HB.out)); rintro e w38 ⟨rfl, hi, hb, hk⟩; refine ⟨_, rfl, ?_⟩; have n0_ := Aside0.mk (hb); have n1_ := Aside0.mk (hi); clear HB; clear HI320; have HB := n0_; have HI320 := n1_; clear n0_ n1_; (try clear hb); (try clear hb2); (try clear hk); (try clear hi)) | ((with_reducible refine gate_callee (f := 20) rfl ?_); refine goesL_ (some 14) rfl rfl Tryd.func20 (by kernel_rfl) rfl #[.pointer (some ⟨g320, 0, none⟩)] rfl (by (try simp only [List.map_toArray, List.map_cons, List.map_nil]); first | done | rfl | (simp only [List.length_drop, List.length_take]; rfl)) ?_; (with_reducible refine (kauditmake_Src_Name.calls g320 t318 t324 t325 t326 w _ ?side1 ?side2 A5.out).mono ?_); (case side1 => repeat (first | (with_reducible first | exact HI320.out | apply IsS39.alloc | apply IsS39.drewN | apply IsS39.drew | apply IsS39.set_1) | exact HI320.out)); (case side2 => repeat (first | (with_reducible first | exact HB.out | apply below_alloc | apply pw_below_drewN | apply below_drew1 | refine below_set ?_ (IsS39.ge HI320.out)) | exact HB.out)); rintro e w39 ⟨rfl, hi, hb, hk⟩; refine ⟨_, rfl, ?_⟩; have n0_ := Aside0.mk (hb); have n1_ := Aside0.mk (hi); clear HB; clear HI320; have HB := n0_; have HI320 := n1_; clear n0_ n1_; (try clear hb); (try clear hb2); (try clear hk); (try clear hi)) | ((with_reducible refine gate_callee (f := 18) rfl ?_); refine goesL_ (some 16) rfl rfl Tryd.func18 (by kernel_rfl) rfl #[.string t321] rfl (by (try simp only [List.map_toArray, List.map_cons, List.map_nil]); first | done | rfl | (simp only [List.length_drop, List.length_take]; rfl)) ?_; (with_reducible refine (kauditlaw04_agrees.calls k t321 true _ A6.out).mono ?_); rintro e w40 ⟨rfl, hb⟩; refine ⟨_, rfl, ?_⟩; have n0_ := Aside0.mk (IsS39.below (by repeat (first | (with_reducible first | exact HI320.out | apply IsS39.alloc | apply IsS39.drewN | apply IsS39.drew | apply IsS39.set_1) | exact HI320.out)) hb); have n1_ := Aside0.mk (below_step (by repeat (first | (with_reducible first | exact HB.out | apply below_alloc | apply pw_below_drewN | apply below_drew1 | refine below_set ?_ (IsS39.ge HI320.out)) | exact HB.out)) hb); clear HI320; clear HB; have HI320 := n0_; have HB := n1_; clear n0_ n1_; (try clear hb); (try clear hb2); (try clear hk); (try clear hi)) | (go_at_call 18; (with_reducible refine (kauditlaw04_agrees.calls k t323 true _ A8.out).mono ?_); rintro e w41 ⟨rfl, hb⟩; have n0_ := Aside0.mk (IsS39.below (by repeat (first | (with_reducible first | exact HI320.out | apply IsS39.alloc | apply IsS39.drewN | apply IsS39.drew | apply IsS39.set_1) | exact HI320.out)) hb); have n1_ := Aside0.mk (below_step (by repeat (first | (with_reducible first | exact HB.out | apply below_alloc | apply pw_below_drewN | apply below_drew1 | refine below_set ?_ (IsS39.ge HI320.out)) | exact HB.out)) hb); clear HI320; clear HB; have HI320 := n0_; have HB := n1_; clear n0_ n1_; (try clear hb); (try clear hb2); (try clear hk); (try clear hi)) | (go_at_call 18; (with_reducible refine (kauditlaw04_agrees.calls k t325 true _ A10.out).mono ?_); rintro e w42 ⟨rfl, hb⟩; have n0_ := Aside0.mk (IsS39.below (by repeat (first | (with_reducible first | exact HI320.out | apply IsS39.alloc | apply IsS39.drewN | apply IsS39.drew | apply IsS39.set_1) | exact HI320.out)) hb); have n1_ := Aside0.mk (below_step (by repeat (first | (with_reducible first | exact HB.out | apply below_alloc | apply pw_below_drewN | apply below_drew1 | refine below_set ?_ (IsS39.ge HI320.out)) | exact HB.out)) hb); clear HI320; clear HB; have HI320 := n0_; have HB := n1_; clear n0_ n1_; (try clear hb); (try clear hb2); (try clear hk); (try clear hi)) | (go_at_call 13; (with_reducible refine (path_Join.calls t321 t325 t330 _ A12.out).mono ?_); rintro e w' ⟨rfl, ⟨nd, rfl⟩⟩) | (go_at_call 22; (with_reducible refine (kauditref04_Join.calls t321 t325 t331 _ A13.out).mono ?_); rintro e w' ⟨rfl, ⟨nd, rfl⟩⟩) | (go_at_call 14; (with_reducible refine (path_Under.calls k t321 t323 t332 _ A15.out).mono ?_); rintro e w43 ⟨rfl, hb⟩; have n0_ := Aside0.mk (IsS39.below (by repeat (first | (with_reducible first | exact HI320.out | apply IsS39.alloc | apply IsS39.drewN | apply IsS39.drew | apply IsS39.set_1) | exact HI320.out)) hb); have n1_ := Aside0.mk (below_step (by repeat (first | (with_reducible first | exact HB.out | apply below_alloc | apply pw_below_drewN | apply below_drew1 | refine below_set ?_ (IsS39.ge HI320.out)) | exact HB.out)) hb); clear HI320; clear HB; have HI320 := n0_; have HB := n1_; clear n0_ n1_; (try clear hb); (try clear hb2); (try clear hk); (try clear hi)) | (go_at_call 23; (with_reducible refine (kauditref04_Under.calls k t321 t323 t333 _ A16.out).mono ?_); rintro e w44 ⟨rfl, hb⟩; have n0_ := Aside0.mk (IsS39.below (by repeat (first | (with_reducible first | exact HI320.out | apply IsS39.alloc | apply IsS39.drewN | apply IsS39.drew | apply IsS39.set_1) | exact HI320.out)) hb); have n1_ := Aside0.mk (below_step (by repeat (first | (with_reducible first | exact HB.out | apply below_alloc | apply pw_below_drewN | apply below_drew1 | refine below_set ?_ (IsS39.ge HI320.out)) | exact HB.out)) hb); clear HI320; clear HB; have HI320 := n0_; have HB := n1_; clear n0_ n1_; (try clear hb); (try clear hb2); (try clear hk); (try clear hi)) | (go_at_call 13; (with_reducible refine (path_Join.calls t321 t325 t330 _ A18.out).mono ?_); rintro e w' ⟨rfl, ⟨nd, rfl⟩⟩) | (go_at_call 14; (with_reducible refine (path_Under.calls k t321 t330 t335 _ A19.out).mono ?_); rintro e w45 ⟨rfl, hb⟩; have n0_ := Aside0.mk (IsS39.below (by repeat (first | (with_reducible first | exact HI320.out | apply IsS39.alloc | apply IsS39.drewN | apply IsS39.drew | apply IsS39.set_1) | exact HI320.out)) hb); have n1_ := Aside0.mk (below_step (by repeat (first | (with_reducible first | exact HB.out | apply below_alloc | apply pw_below_drewN | apply below_drew1 | refine below_set ?_ (IsS39.ge HI320.out)) | exact HB.out)) hb); clear HI320; clear HB; have HI320 := n0_; have HB := n1_; clear n0_ n1_; (try clear hb); (try clear hb2); (try clear hk); (try clear hi)) | (go_at_call 22; (with_reducible refine (kauditref04_Join.calls t321 t325 t331 _ A20.out).mono ?_); rintro e w' ⟨rfl, ⟨nd, rfl⟩⟩) | (go_at_call 23; (with_reducible refine (kauditref04_Under.calls k t321 t331 t337 _ A21.out).mono ?_); rintro e w46 ⟨rfl, hb⟩; have n0_ := Aside0.mk (IsS39.below (by repeat (first | (with_reducible first | exact HI320.out | apply IsS39.alloc | apply IsS39.drewN | apply IsS39.drew | apply IsS39.set_1) | exact HI320.out)) hb); have n1_ := Aside0.mk (below_step (by repeat (first | (with_reducible first | exact HB.out | apply below_alloc | apply pw_below_drewN | apply below_drew1 | refine below_set ?_ (IsS39.ge HI320.out)) | exact HB.out)) hb); clear HI320; clear HB; have HI320 := n0_; have HB := n1_; clear n0_ n1_; (try clear hb); (try clear hb2); (try clear hk); (try clear hi)))
              go_ret
              exact ⟨by first | rfl | (simp [errW_none, errW_some] <;> rfl) | (simp [*, errW_none, errW_some] <;> rfl), by repeat (first | (with_reducible first | exact HB.out | apply below_alloc | apply pw_below_drewN | apply below_drew1 | refine below_set ?_ (IsS39.ge HI320.out)) | exact HB.out)⟩
          · rw [if_neg c17] at H
            have c17b0 : (t332 == t333) = false := by simpa using c17
            (try (have c17b1 : decide (t332 = t333) = false := by simpa using c17))
            (try (have c17b2 : (t332 == t333) = false := by simpa using c17))
            (try (have c17b3 : ¬ (t332 = t333) := by simpa using c17))
            clear c17
            obtain rfl := Option.some.inj H
            go_enter Tryd.func9, Tryd.ntmps9
            go_wp2_with (first | ((with_reducible refine gate_callee (f := 10) rfl ?_); refine goesL_ (some 8) rfl rfl Tryd.func10 (by kernel_rfl) rfl #[.slice A0 l0.length c0] rfl (by (try simp only [List.map_toArray, List.map_cons, List.map_nil]); first | done | rfl | (simp only [List.length_drop, List.length_take]; rfl)) ?_; (with_reducible refine (kauditmake_New.calls _ _ l0 t318 t319 w _ ?side1 ?side2 ?side3 A2.out).mono ?_); (case side1 => repeat (first | (with_reducible first | exact HB.out | apply below_alloc | apply pw_below_drewN | apply below_drew1) | exact HB.out)); (case side2 => exact HR0.out); (case side3 => exact HC0.out); rintro e w47 ⟨g320, rfl, hi, hb, hb2⟩; refine ⟨_, rfl, ?_⟩; have n0_ := Aside0.mk (hb); have n1_ := Aside0.mk (hi); clear HB; have HB := n0_; have HI320 := n1_; clear n0_ n1_; (try clear hb); (try clear hb2); (try clear hk); (try clear hi)) | ((with_reducible refine gate_callee (f := 24) rfl ?_); refine goesL_ (some 10) rfl rfl Tryd.func24 (by kernel_rfl) rfl #[.pointer (some ⟨g320, 0, none⟩)] rfl (by (try simp only [List.map_toArray, List.map_cons, List.map_nil]); first | done | rfl | (simp only [List.length_drop, List.length_take]; rfl)) ?_; (with_reducible refine (kauditmake_Src_Path.calls k g320 t318 t319 t321 t322 w _ ?side1 ?side2 A3.out).mono ?_); (case side1 => repeat (first | (with_reducible first | exact HI320.out | apply IsS39.alloc | apply IsS39.drewN | apply IsS39.drew | apply IsS39.set_1) | exact HI320.out)); (case side2 => repeat (first | (with_reducible first | exact HB.out | apply below_alloc | apply pw_below_drewN | apply below_drew1 | refine below_set ?_ (IsS39.ge HI320.out)) | exact HB.out)); rintro e w48 ⟨rfl, hi, hb, hk⟩; refine ⟨_, rfl, ?_⟩; have n0_ := Aside0.mk (hb); have n1_ := Aside0.mk (hi); clear HB; clear HI320; have HB := n0_; have HI320 := n1_; clear n0_ n1_; (try clear hb); (try clear hb2); (try clear hk); (try clear hi)) | ((with_reducible refine gate_callee (f := 24) rfl ?_); refine goesL_ (some 12) rfl rfl Tryd.func24 (by kernel_rfl) rfl #[.pointer (some ⟨g320, 0, none⟩)] rfl (by (try simp only [List.map_toArray, List.map_cons, List.map_nil]); first | done | rfl | (simp only [List.length_drop, List.length_take]; rfl)) ?_; (with_reducible refine (kauditmake_Src_Path.calls k g320 t318 t322 t323 t324 w _ ?side1 ?side2 A4.out).mono ?_); (case side1 => repeat (first | (with_reducible first | exact HI320.out | apply IsS39.alloc | apply IsS39.drewN | apply IsS39.drew | apply IsS39.set_1) | exact HI320.out)); (case side2 => repeat (first | (with_reducible first | exact HB.out | apply below_alloc | apply pw_below_drewN | apply below_drew1 | refine below_set ?_ (IsS39.ge HI320.out)) | exact HB.out)); rintro e w49 ⟨rfl, hi, hb, hk⟩; refine ⟨_, rfl, ?_⟩; have n0_ := Aside0.mk (hb); have n1_ := Aside0.mk (hi); clear HB; clear HI320; have HB := n0_; have HI320 := n1_; clear n0_ n1_; (try clear hb); (try clear hb2); (try clear hk); (try clear hi)) | ((with_reducible refine gate_callee (f := 20) rfl ?_); refine goesL_ (some 14) rfl rfl Tryd.func20 (by kernel_rfl) rfl #[.pointer (some ⟨g320, 0, none⟩)] rfl (by (try simp only [List.map_toArray, List.map_cons, List.map_nil]); first | done | rfl | (simp only [List.length_drop, List.length_take]; rfl)) ?_; (with_reducible refine (kauditmake_Src_Name.calls g320 t318 t324 t325 t326 w _ ?side1 ?side2 A5.out).mono ?_); (case side1 => repeat (first | (with_reducible first | exact HI320.out | apply IsS39.alloc | apply IsS39.drewN | apply IsS39.drew | apply IsS39.set_1) | exact HI320.out)); (case side2 => repeat (first | (with_reducible first | exact HB.out | apply below_alloc | apply pw_below_drewN | apply below_drew1 | refine below_set ?_ (IsS39.ge HI320.out)) | exact HB.out)); rintro e w50 ⟨rfl, hi, hb, hk⟩; refine ⟨_, rfl, ?_⟩; have n0_ := Aside0.mk (hb); have n1_ := Aside0.mk (hi); clear HB; clear HI320; have HB := n0_; have HI320 := n1_; clear n0_ n1_; (try clear hb); (try clear hb2); (try clear hk); (try clear hi)) | ((with_reducible refine gate_callee (f := 18) rfl ?_); refine goesL_ (some 16) rfl rfl Tryd.func18 (by kernel_rfl) rfl #[.string t321] rfl (by (try simp only [List.map_toArray, List.map_cons, List.map_nil]); first | done | rfl | (simp only [List.length_drop, List.length_take]; rfl)) ?_; (with_reducible refine (kauditlaw04_agrees.calls k t321 true _ A6.out).mono ?_); rintro e w51 ⟨rfl, hb⟩; refine ⟨_, rfl, ?_⟩; have n0_ := Aside0.mk (IsS39.below (by repeat (first | (with_reducible first | exact HI320.out | apply IsS39.alloc | apply IsS39.drewN | apply IsS39.drew | apply IsS39.set_1) | exact HI320.out)) hb); have n1_ := Aside0.mk (below_step (by repeat (first | (with_reducible first | exact HB.out | apply below_alloc | apply pw_below_drewN | apply below_drew1 | refine below_set ?_ (IsS39.ge HI320.out)) | exact HB.out)) hb); clear HI320; clear HB; have HI320 := n0_; have HB := n1_; clear n0_ n1_; (try clear hb); (try clear hb2); (try clear hk); (try clear hi)) | (go_at_call 18; (with_reducible refine (kauditlaw04_agrees.calls k t323 true _ A8.out).mono ?_); rintro e w52 ⟨rfl, hb⟩; have n0_ := Aside0.mk (IsS39.below (by repeat (first | (with_reducible first | exact HI320.out | apply IsS39.alloc | apply IsS39.drewN | apply IsS39.drew | apply IsS39.set_1) | exact HI320.out)) hb); have n1_ := Aside0.mk (below_step (by repeat (first | (with_reducible first | exact HB.out | apply below_alloc | apply pw_below_drewN | apply below_drew1 | refine below_set ?_ (IsS39.ge HI320.out)) | exact HB.out)) hb); clear HI320; clear HB; have HI320 := n0_; have HB := n1_; clear n0_ n1_; (try clear hb); (try clear hb2); (try clear hk); (try clear hi)) | (go_at_call 18; (with_reducible refine (kauditlaw04_agrees.calls k t325 true _ A10.out).mono ?_); rintro e w53 ⟨rfl, hb⟩; have n0_ := Aside0.mk (IsS39.below (by repeat (first | (with_reducible first | exact HI320.out | apply IsS39.alloc | apply IsS39.drewN | apply IsS39.drew | apply IsS39.set_1) | exact HI320.out)) hb); have n1_ := Aside0.mk (below_step (by repeat (first | (with_reducible first | exact HB.out | apply below_alloc | apply pw_below_drewN | apply below_drew1 | refine below_set ?_ (IsS39.ge HI320.out)) | exact HB.out)) hb); clear HI320; clear HB; have HI320 := n0_; have HB := n1_; clear n0_ n1_; (try clear hb); (try clear hb2); (try clear hk); (try clear hi)) | (go_at_call 13; (with_reducible refine (path_Join.calls t321 t325 t330 _ A12.out).mono ?_); rintro e w' ⟨rfl, ⟨nd, rfl⟩⟩) | (go_at_call 22; (with_reducible refine (kauditref04_Join.calls t321 t325 t331 _ A13.out).mono ?_); rintro e w' ⟨rfl, ⟨nd, rfl⟩⟩) | (go_at_call 14; (with_reducible refine (path_Under.calls k t321 t323 t332 _ A15.out).mono ?_); rintro e w54 ⟨rfl, hb⟩; have n0_ := Aside0.mk (IsS39.below (by repeat (first | (with_reducible first | exact HI320.out | apply IsS39.alloc | apply IsS39.drewN | apply IsS39.drew | apply IsS39.set_1) | exact HI320.out)) hb); have n1_ := Aside0.mk (below_step (by repeat (first | (with_reducible first | exact HB.out | apply below_alloc | apply pw_below_drewN | apply below_drew1 | refine below_set ?_ (IsS39.ge HI320.out)) | exact HB.out)) hb); clear HI320; clear HB; have HI320 := n0_; have HB := n1_; clear n0_ n1_; (try clear hb); (try clear hb2); (try clear hk); (try clear hi)) | (go_at_call 23; (with_reducible refine (kauditref04_Under.calls k t321 t323 t333 _ A16.out).mono ?_); rintro e w55 ⟨rfl, hb⟩; have n0_ := Aside0.mk (IsS39.below (by repeat (first | (with_reducible first | exact HI320.out | apply IsS39.alloc | apply IsS39.drewN | apply IsS39.drew | apply IsS39.set_1) | exact HI320.out)) hb); have n1_ := Aside0.mk (below_step (by repeat (first | (with_reducible first | exact HB.out | apply below_alloc | apply pw_below_drewN | apply below_drew1 | refine below_set ?_ (IsS39.ge HI320.out)) | exact HB.out)) hb); clear HI320; clear HB; have HI320 := n0_; have HB := n1_; clear n0_ n1_; (try clear hb); (try clear hb2); (try clear hk); (try clear hi)))
            go_ret
            exact ⟨by first | rfl | (simp [errW_none, errW_some] <;> rfl) | (simp [*, errW_none, errW_some] <;> rfl), by repeat (first | (with_reducible first | exact HB.out | apply below_alloc | apply pw_below_drewN | apply below_drew1 | refine below_set ?_ (IsS39.ge HI320.out)) | exact HB.out)⟩
        · rw [if_neg c14] at H
          have c14b0 : (t330.toList == t331.toList) = false := beq_eq_false_iff_ne.mpr c14
          have c14b1 : (t330.toList != t331.toList) = true := bne_iff_ne.mpr c14
          obtain rfl := Option.some.inj H
          go_enter Tryd.func9, Tryd.ntmps9
          go_wp2_with (first | ((with_reducible refine gate_callee (f := 10) rfl ?_); refine goesL_ (some 8) rfl rfl Tryd.func10 (by kernel_rfl) rfl #[.slice A0 l0.length c0] rfl (by (try simp only [List.map_toArray, List.map_cons, List.map_nil]); first | done | rfl | (simp only [List.length_drop, List.length_take]; rfl)) ?_; (with_reducible refine (kauditmake_New.calls _ _ l0 t318 t319 w _ ?side1 ?side2 ?side3 A2.out).mono ?_); (case side1 => repeat (first | (with_reducible first | exact HB.out | apply below_alloc | apply pw_below_drewN | apply below_drew1) | exact HB.out)); (case side2 => exact HR0.out); (case side3 => exact HC0.out); rintro e w56 ⟨g320, rfl, hi, hb, hb2⟩; refine ⟨_, rfl, ?_⟩; have n0_ := Aside0.mk (hb); have n1_ := Aside0.mk (hi); clear HB; have HB := n0_; have HI320 := n1_; clear n0_ n1_; (try clear hb); (try clear hb2); (try clear hk); (try clear hi)) | ((with_reducible refine gate_callee (f := 24) rfl ?_); refine goesL_ (some 10) rfl rfl Tryd.func24 (by kernel_rfl) rfl #[.pointer (some ⟨g320, 0, none⟩)] rfl (by (try simp only [List.map_toArray, List.map_cons, List.map_nil]); first | done | rfl | (simp only [List.length_drop, List.length_take]; rfl)) ?_; (with_reducible refine (kauditmake_Src_Path.calls k g320 t318 t319 t321 t322 w _ ?side1 ?side2 A3.out).mono ?_); (case side1 => repeat (first | (with_reducible first | exact HI320.out | apply IsS39.alloc | apply IsS39.drewN | apply IsS39.drew | apply IsS39.set_1) | exact HI320.out)); (case side2 => repeat (first | (with_reducible first | exact HB.out | apply below_alloc | apply pw_below_drewN | apply below_drew1 | refine below_set ?_ (IsS39.ge HI320.out)) | exact HB.out)); rintro e w57 ⟨rfl, hi, hb, hk⟩; refine ⟨_, rfl, ?_⟩; have n0_ := Aside0.mk (hb); have n1_ := Aside0.mk (hi); clear HB; clear HI320; have HB := n0_; have HI320 := n1_; clear n0_ n1_; (try clear hb); (try clear hb2); (try clear hk); (try clear hi)) | ((with_reducible refine gate_callee (f := 24) rfl ?_); refine goesL_ (some 12) rfl rfl Tryd.func24 (by kernel_rfl) rfl #[.pointer (some ⟨g320, 0, none⟩)] rfl (by (try simp only [List.map_toArray, List.map_cons, List.map_nil]); first | done | rfl | (simp only [List.length_drop, List.length_take]; rfl)) ?_; (with_reducible refine (kauditmake_Src_Path.calls k g320 t318 t322 t323 t324 w _ ?side1 ?side2 A4.out).mono ?_); (case side1 => repeat (first | (with_reducible first | exact HI320.out | apply IsS39.alloc | apply IsS39.drewN | apply IsS39.drew | apply IsS39.set_1) | exact HI320.out)); (case side2 => repeat (first | (with_reducible first | exact HB.out | apply below_alloc | apply pw_below_drewN | apply below_drew1 | refine below_set ?_ (IsS39.ge HI320.out)) | exact HB.out)); rintro e w58 ⟨rfl, hi, hb, hk⟩; refine ⟨_, rfl, ?_⟩; have n0_ := Aside0.mk (hb); have n1_ := Aside0.mk (hi); clear HB; clear HI320; have HB := n0_; have HI320 := n1_; clear n0_ n1_; (try clear hb); (try clear hb2); (try clear hk); (try clear hi)) | ((with_reducible refine gate_callee (f := 20) rfl ?_); refine goesL_ (some 14) rfl rfl Tryd.func20 (by kernel_rfl) rfl #[.pointer (some ⟨g320, 0, none⟩)] rfl (by (try simp only [List.map_toArray, List.map_cons, List.map_nil]); first | done | rfl | (simp only [List.length_drop, List.length_take]; rfl)) ?_; (with_reducible refine (kauditmake_Src_Name.calls g320 t318 t324 t325 t326 w _ ?side1 ?side2 A5.out).mono ?_); (case side1 => repeat (first | (with_reducible first | exact HI320.out | apply IsS39.alloc | apply IsS39.drewN | apply IsS39.drew | apply IsS39.set_1) | exact HI320.out)); (case side2 => repeat (first | (with_reducible first | exact HB.out | apply below_alloc | apply pw_below_drewN | apply below_drew1 | refine below_set ?_ (IsS39.ge HI320.out)) | exact HB.out)); rintro e w59 ⟨rfl, hi, hb, hk⟩; refine ⟨_, rfl, ?_⟩; have n0_ := Aside0.mk (hb); have n1_ := Aside0.mk (hi); clear HB; clear HI320; have HB := n0_; have HI320 := n1_; clear n0_ n1_; (try clear hb); (try clear hb2); (try clear hk); (try clear hi)) | ((with_reducible refine gate_callee (f := 18) rfl ?_); refine goesL_ (some 16) rfl rfl Tryd.func18 (by kernel_rfl) rfl #[.string t321] rfl (by (try simp only [List.map_toArray, List.map_cons, List.map_nil]); first | done | rfl | (simp only [List.length_drop, List.length_take]; rfl)) ?_; (with_reducible refine (kauditlaw04_agrees.calls k t321 true _ A6.out).mono ?_); rintro e w60 ⟨rfl, hb⟩; refine ⟨_, rfl, ?_⟩; have n0_ := Aside0.mk (IsS39.below (by repeat (first | (with_reducible first | exact HI320.out | apply IsS39.alloc | apply IsS39.drewN | apply IsS39.drew | apply IsS39.set_1) | exact HI320.out)) hb); have n1_ := Aside0.mk (below_step (by repeat (first | (with_reducible first | exact HB.out | apply below_alloc | apply pw_below_drewN | apply below_drew1 | refine below_set ?_ (IsS39.ge HI320.out)) | exact HB.out)) hb); clear HI320; clear HB; have HI320 := n0_; have HB := n1_; clear n0_ n1_; (try clear hb); (try clear hb2); (try clear hk); (try clear hi)) | (go_at_call 18; (with_reducible refine (kauditlaw04_agrees.calls k t323 true _ A8.out).mono ?_); rintro e w61 ⟨rfl, hb⟩; have n0_ := Aside0.mk (IsS39.below (by repeat (first | (with_reducible first | exact HI320.out | apply IsS39.alloc | apply IsS39.drewN | apply IsS39.drew | apply IsS39.set_1) | exact HI320.out)) hb); have n1_ := Aside0.mk (below_step (by repeat (first | (with_reducible first | exact HB.out | apply below_alloc | apply pw_below_drewN | apply below_drew1 | refine below_set ?_ (IsS39.ge HI320.out)) | exact HB.out)) hb); clear HI320; clear HB; have HI320 := n0_; have HB := n1_; clear n0_ n1_; (try clear hb); (try clear hb2); (try clear hk); (try clear hi)) | (go_at_call 18; (with_reducible refine (kauditlaw04_agrees.calls k t325 true _ A10.out).mono ?_); rintro e w62 ⟨rfl, hb⟩; have n0_ := Aside0.mk (IsS39.below (by repeat (first | (with_reducible first | exact HI320.out | apply IsS39.alloc | apply IsS39.drewN | apply IsS39.drew | apply IsS39.set_1) | exact HI320.out)) hb); have n1_ := Aside0.mk (below_step (by repeat (first | (with_reducible first | exact HB.out | apply below_alloc | apply pw_below_drewN | apply below_drew1 | refine below_set ?_ (IsS39.ge HI320.out)) | exact HB.out)) hb); clear HI320; clear HB; have HI320 := n0_; have HB := n1_; clear n0_ n1_; (try clear hb); (try clear hb2); (try clear hk); (try clear hi)) | (go_at_call 13; (with_reducible refine (path_Join.calls t321 t325 t330 _ A12.out).mono ?_); rintro e w' ⟨rfl, ⟨nd, rfl⟩⟩) | (go_at_call 22; (with_reducible refine (kauditref04_Join.calls t321 t325 t331 _ A13.out).mono ?_); rintro e w' ⟨rfl, ⟨nd, rfl⟩⟩))
          go_ret
          exact ⟨by first | rfl | (simp [errW_none, errW_some] <;> rfl) | (simp [*, errW_none, errW_some] <;> rfl), by repeat (first | (with_reducible first | exact HB.out | apply below_alloc | apply pw_below_drewN | apply below_drew1 | refine below_set ?_ (IsS39.ge HI320.out)) | exact HB.out)⟩
      · replace c11 := Bool.eq_false_iff.mpr c11
        subst c11
        have H1 : (some false) = some r := by rw [if_neg (show ¬ (false = true) by decide)] at H; exact H
        clear H
        have H := H1
        clear H1
        obtain rfl := Option.some.inj H
        go_enter Tryd.func9, Tryd.ntmps9
        go_wp2_with (first | ((with_reducible refine gate_callee (f := 10) rfl ?_); refine goesL_ (some 8) rfl rfl Tryd.func10 (by kernel_rfl) rfl #[.slice A0 l0.length c0] rfl (by (try simp only [List.map_toArray, List.map_cons, List.map_nil]); first | done | rfl | (simp only [List.length_drop, List.length_take]; rfl)) ?_; (with_reducible refine (kauditmake_New.calls _ _ l0 t318 t319 w _ ?side1 ?side2 ?side3 A2.out).mono ?_); (case side1 => repeat (first | (with_reducible first | exact HB.out | apply below_alloc | apply pw_below_drewN | apply below_drew1) | exact HB.out)); (case side2 => exact HR0.out); (case side3 => exact HC0.out); rintro e w63 ⟨g320, rfl, hi, hb, hb2⟩; refine ⟨_, rfl, ?_⟩; have n0_ := Aside0.mk (hb); have n1_ := Aside0.mk (hi); clear HB; have HB := n0_; have HI320 := n1_; clear n0_ n1_; (try clear hb); (try clear hb2); (try clear hk); (try clear hi)) | ((with_reducible refine gate_callee (f := 24) rfl ?_); refine goesL_ (some 10) rfl rfl Tryd.func24 (by kernel_rfl) rfl #[.pointer (some ⟨g320, 0, none⟩)] rfl (by (try simp only [List.map_toArray, List.map_cons, List.map_nil]); first | done | rfl | (simp only [List.length_drop, List.length_take]; rfl)) ?_; (with_reducible refine (kauditmake_Src_Path.calls k g320 t318 t319 t321 t322 w _ ?side1 ?side2 A3.out).mono ?_); (case side1 => repeat (first | (with_reducible first | exact HI320.out | apply IsS39.alloc | apply IsS39.drewN | apply IsS39.drew | apply IsS39.set_1) | exact HI320.out)); (case side2 => repeat (first | (with_reducible first | exact HB.out | apply below_alloc | apply pw_below_drewN | apply below_drew1 | refine below_set ?_ (IsS39.ge HI320.out)) | exact HB.out)); rintro e w64 ⟨rfl, hi, hb, hk⟩; refine ⟨_, rfl, ?_⟩; have n0_ := Aside0.mk (hb); have n1_ := Aside0.mk (hi); clear HB; clear HI320; have HB := n0_; have HI320 := n1_; clear n0_ n1_; (try clear hb); (try clear hb2); (try clear hk); (try clear hi)) | ((with_reducible refine gate_callee (f := 24) rfl ?_); refine goesL_ (some 12) rfl rfl Tryd.func24 (by kernel_rfl) rfl #[.pointer (some ⟨g320, 0, none⟩)] rfl (by (try simp only [List.map_toArray, List.map_cons, List.map_nil]); first | done | rfl | (simp only [List.length_drop, List.length_take]; rfl)) ?_; (with_reducible refine (kauditmake_Src_Path.calls k g320 t318 t322 t323 t324 w _ ?side1 ?side2 A4.out).mono ?_); (case side1 => repeat (first | (with_reducible first | exact HI320.out | apply IsS39.alloc | apply IsS39.drewN | apply IsS39.drew | apply IsS39.set_1) | exact HI320.out)); (case side2 => repeat (first | (with_reducible first | exact HB.out | apply below_alloc | apply pw_below_drewN | apply below_drew1 | refine below_set ?_ (IsS39.ge HI320.out)) | exact HB.out)); rintro e w65 ⟨rfl, hi, hb, hk⟩; refine ⟨_, rfl, ?_⟩; have n0_ := Aside0.mk (hb); have n1_ := Aside0.mk (hi); clear HB; clear HI320; have HB := n0_; have HI320 := n1_; clear n0_ n1_; (try clear hb); (try clear hb2); (try clear hk); (try clear hi)) | ((with_reducible refine gate_callee (f := 20) rfl ?_); refine goesL_ (some 14) rfl rfl Tryd.func20 (by kernel_rfl) rfl #[.pointer (some ⟨g320, 0, none⟩)] rfl (by (try simp only [List.map_toArray, List.map_cons, List.map_nil]); first | done | rfl | (simp only [List.length_drop, List.length_take]; rfl)) ?_; (with_reducible refine (kauditmake_Src_Name.calls g320 t318 t324 t325 t326 w _ ?side1 ?side2 A5.out).mono ?_); (case side1 => repeat (first | (with_reducible first | exact HI320.out | apply IsS39.alloc | apply IsS39.drewN | apply IsS39.drew | apply IsS39.set_1) | exact HI320.out)); (case side2 => repeat (first | (with_reducible first | exact HB.out | apply below_alloc | apply pw_below_drewN | apply below_drew1 | refine below_set ?_ (IsS39.ge HI320.out)) | exact HB.out)); rintro e w66 ⟨rfl, hi, hb, hk⟩; refine ⟨_, rfl, ?_⟩; have n0_ := Aside0.mk (hb); have n1_ := Aside0.mk (hi); clear HB; clear HI320; have HB := n0_; have HI320 := n1_; clear n0_ n1_; (try clear hb); (try clear hb2); (try clear hk); (try clear hi)) | ((with_reducible refine gate_callee (f := 18) rfl ?_); refine goesL_ (some 16) rfl rfl Tryd.func18 (by kernel_rfl) rfl #[.string t321] rfl (by (try simp only [List.map_toArray, List.map_cons, List.map_nil]); first | done | rfl | (simp only [List.length_drop, List.length_take]; rfl)) ?_; (with_reducible refine (kauditlaw04_agrees.calls k t321 true _ A6.out).mono ?_); rintro e w67 ⟨rfl, hb⟩; refine ⟨_, rfl, ?_⟩; have n0_ := Aside0.mk (IsS39.below (by repeat (first | (with_reducible first | exact HI320.out | apply IsS39.alloc | apply IsS39.drewN | apply IsS39.drew | apply IsS39.set_1) | exact HI320.out)) hb); have n1_ := Aside0.mk (below_step (by repeat (first | (with_reducible first | exact HB.out | apply below_alloc | apply pw_below_drewN | apply below_drew1 | refine below_set ?_ (IsS39.ge HI320.out)) | exact HB.out)) hb); clear HI320; clear HB; have HI320 := n0_; have HB := n1_; clear n0_ n1_; (try clear hb); (try clear hb2); (try clear hk); (try clear hi)) | (go_at_call 18; (with_reducible refine (kauditlaw04_agrees.calls k t323 true _ A8.out).mono ?_); rintro e w68 ⟨rfl, hb⟩; have n0_ := Aside0.mk (IsS39.below (by repeat (first | (with_reducible first | exact HI320.out | apply IsS39.alloc | apply IsS39.drewN | apply IsS39.drew | apply IsS39.set_1) | exact HI320.out)) hb); have n1_ := Aside0.mk (below_step (by repeat (first | (with_reducible first | exact HB.out | apply below_alloc | apply pw_below_drewN | apply below_drew1 | refine below_set ?_ (IsS39.ge HI320.out)) | exact HB.out)) hb); clear HI320; clear HB; have HI320 := n0_; have HB := n1_; clear n0_ n1_; (try clear hb); (try clear hb2); (try clear hk); (try clear hi)) | (go_at_call 18; (with_reducible refine (kauditlaw04_agrees.calls k t325 false _ A10.out).mono ?_); rintro e w69 ⟨rfl, hb⟩; have n0_ := Aside0.mk (IsS39.below (by repeat (first | (with_reducible first | exact HI320.out | apply IsS39.alloc | apply IsS39.drewN | apply IsS39.drew | apply IsS39.set_1) | exact HI320.out)) hb); have n1_ := Aside0.mk (below_step (by repeat (first | (with_reducible first | exact HB.out | apply below_alloc | apply pw_below_drewN | apply below_drew1 | refine below_set ?_ (IsS39.ge HI320.out)) | exact HB.out)) hb); clear HI320; clear HB; have HI320 := n0_; have HB := n1_; clear n0_ n1_; (try clear hb); (try clear hb2); (try clear hk); (try clear hi)))
        go_ret
        exact ⟨by first | rfl | (simp [errW_none, errW_some] <;> rfl) | (simp [*, errW_none, errW_some] <;> rfl), by repeat (first | (with_reducible first | exact HB.out | apply below_alloc | apply pw_below_drewN | apply below_drew1 | refine below_set ?_ (IsS39.ge HI320.out)) | exact HB.out)⟩
    · replace c9 := Bool.eq_false_iff.mpr c9
      subst c9
      have H1 : (some false) = some r := by rw [if_neg (show ¬ (false = true) by decide)] at H; exact H
      clear H
      have H := H1
      clear H1
      obtain rfl := Option.some.inj H
      go_enter Tryd.func9, Tryd.ntmps9
      go_wp2_with (first | ((with_reducible refine gate_callee (f := 10) rfl ?_); refine goesL_ (some 8) rfl rfl Tryd.func10 (by kernel_rfl) rfl #[.slice A0 l0.length c0] rfl (by (try simp only [List.map_toArray, List.map_cons, List.map_nil]); first | done | rfl | (simp only [List.length_drop, List.length_take]; rfl)) ?_; (with_reducible refine (kauditmake_New.calls _ _ l0 t318 t319 w _ ?side1 ?side2 ?side3 A2.out).mono ?_); (case side1 => repeat (first | (with_reducible first | exact HB.out | apply below_alloc | apply pw_below_drewN | apply below_drew1) | exact HB.out)); (case side2 => exact HR0.out); (case side3 => exact HC0.out); rintro e w70 ⟨g320, rfl, hi, hb, hb2⟩; refine ⟨_, rfl, ?_⟩; have n0_ := Aside0.mk (hb); have n1_ := Aside0.mk (hi); clear HB; have HB := n0_; have HI320 := n1_; clear n0_ n1_; (try clear hb); (try clear hb2); (try clear hk); (try clear hi)) | ((with_reducible refine gate_callee (f := 24) rfl ?_); refine goesL_ (some 10) rfl rfl Tryd.func24 (by kernel_rfl) rfl #[.pointer (some ⟨g320, 0, none⟩)] rfl (by (try simp only [List.map_toArray, List.map_cons, List.map_nil]); first | done | rfl | (simp only [List.length_drop, List.length_take]; rfl)) ?_; (with_reducible refine (kauditmake_Src_Path.calls k g320 t318 t319 t321 t322 w _ ?side1 ?side2 A3.out).mono ?_); (case side1 => repeat (first | (with_reducible first | exact HI320.out | apply IsS39.alloc | apply IsS39.drewN | apply IsS39.drew | apply IsS39.set_1) | exact HI320.out)); (case side2 => repeat (first | (with_reducible first | exact HB.out | apply below_alloc | apply pw_below_drewN | apply below_drew1 | refine below_set ?_ (IsS39.ge HI320.out)) | exact HB.out)); rintro e w71 ⟨rfl, hi, hb, hk⟩; refine ⟨_, rfl, ?_⟩; have n0_ := Aside0.mk (hb); have n1_ := Aside0.mk (hi); clear HB; clear HI320; have HB := n0_; have HI320 := n1_; clear n0_ n1_; (try clear hb); (try clear hb2); (try clear hk); (try clear hi)) | ((with_reducible refine gate_callee (f := 24) rfl ?_); refine goesL_ (some 12) rfl rfl Tryd.func24 (by kernel_rfl) rfl #[.pointer (some ⟨g320, 0, none⟩)] rfl (by (try simp only [List.map_toArray, List.map_cons, List.map_nil]); first | done | rfl | (simp only [List.length_drop, List.length_take]; rfl)) ?_; (with_reducible refine (kauditmake_Src_Path.calls k g320 t318 t322 t323 t324 w _ ?side1 ?side2 A4.out).mono ?_); (case side1 => repeat (first | (with_reducible first | exact HI320.out | apply IsS39.alloc | apply IsS39.drewN | apply IsS39.drew | apply IsS39.set_1) | exact HI320.out)); (case side2 => repeat (first | (with_reducible first | exact HB.out | apply below_alloc | apply pw_below_drewN | apply below_drew1 | refine below_set ?_ (IsS39.ge HI320.out)) | exact HB.out)); rintro e w72 ⟨rfl, hi, hb, hk⟩; refine ⟨_, rfl, ?_⟩; have n0_ := Aside0.mk (hb); have n1_ := Aside0.mk (hi); clear HB; clear HI320; have HB := n0_; have HI320 := n1_; clear n0_ n1_; (try clear hb); (try clear hb2); (try clear hk); (try clear hi)) | ((with_reducible refine gate_callee (f := 20) rfl ?_); refine goesL_ (some 14) rfl rfl Tryd.func20 (by kernel_rfl) rfl #[.pointer (some ⟨g320, 0, none⟩)] rfl (by (try simp only [List.map_toArray, List.map_cons, List.map_nil]); first | done | rfl | (simp only [List.length_drop, List.length_take]; rfl)) ?_; (with_reducible refine (kauditmake_Src_Name.calls g320 t318 t324 t325 t326 w _ ?side1 ?side2 A5.out).mono ?_); (case side1 => repeat (first | (with_reducible first | exact HI320.out | apply IsS39.alloc | apply IsS39.drewN | apply IsS39.drew | apply IsS39.set_1) | exact HI320.out)); (case side2 => repeat (first | (with_reducible first | exact HB.out | apply below_alloc | apply pw_below_drewN | apply below_drew1 | refine below_set ?_ (IsS39.ge HI320.out)) | exact HB.out)); rintro e w73 ⟨rfl, hi, hb, hk⟩; refine ⟨_, rfl, ?_⟩; have n0_ := Aside0.mk (hb); have n1_ := Aside0.mk (hi); clear HB; clear HI320; have HB := n0_; have HI320 := n1_; clear n0_ n1_; (try clear hb); (try clear hb2); (try clear hk); (try clear hi)) | ((with_reducible refine gate_callee (f := 18) rfl ?_); refine goesL_ (some 16) rfl rfl Tryd.func18 (by kernel_rfl) rfl #[.string t321] rfl (by (try simp only [List.map_toArray, List.map_cons, List.map_nil]); first | done | rfl | (simp only [List.length_drop, List.length_take]; rfl)) ?_; (with_reducible refine (kauditlaw04_agrees.calls k t321 true _ A6.out).mono ?_); rintro e w74 ⟨rfl, hb⟩; refine ⟨_, rfl, ?_⟩; have n0_ := Aside0.mk (IsS39.below (by repeat (first | (with_reducible first | exact HI320.out | apply IsS39.alloc | apply IsS39.drewN | apply IsS39.drew | apply IsS39.set_1) | exact HI320.out)) hb); have n1_ := Aside0.mk (below_step (by repeat (first | (with_reducible first | exact HB.out | apply below_alloc | apply pw_below_drewN | apply below_drew1 | refine below_set ?_ (IsS39.ge HI320.out)) | exact HB.out)) hb); clear HI320; clear HB; have HI320 := n0_; have HB := n1_; clear n0_ n1_; (try clear hb); (try clear hb2); (try clear hk); (try clear hi)) | (go_at_call 18; (with_reducible refine (kauditlaw04_agrees.calls k t323 false _ A8.out).mono ?_); rintro e w75 ⟨rfl, hb⟩; have n0_ := Aside0.mk (IsS39.below (by repeat (first | (with_reducible first | exact HI320.out | apply IsS39.alloc | apply IsS39.drewN | apply IsS39.drew | apply IsS39.set_1) | exact HI320.out)) hb); have n1_ := Aside0.mk (below_step (by repeat (first | (with_reducible first | exact HB.out | apply below_alloc | apply pw_below_drewN | apply below_drew1 | refine below_set ?_ (IsS39.ge HI320.out)) | exact HB.out)) hb); clear HI320; clear HB; have HI320 := n0_; have HB := n1_; clear n0_ n1_; (try clear hb); (try clear hb2); (try clear hk); (try clear hi)))
      go_ret
      exact ⟨by first | rfl | (simp [errW_none, errW_some] <;> rfl) | (simp [*, errW_none, errW_some] <;> rfl), by repeat (first | (with_reducible first | exact HB.out | apply below_alloc | apply pw_below_drewN | apply below_drew1 | refine below_set ?_ (IsS39.ge HI320.out)) | exact HB.out)⟩
  · replace c7 := Bool.eq_false_iff.mpr c7
    subst c7
    have H1 : (some false) = some r := by rw [if_neg (show ¬ (false = true) by decide)] at H; exact H
    clear H
    have H := H1
    clear H1
    obtain rfl := Option.some.inj H
    go_enter Tryd.func9, Tryd.ntmps9
    go_wp2_with (first | ((with_reducible refine gate_callee (f := 10) rfl ?_); refine goesL_ (some 8) rfl rfl Tryd.func10 (by kernel_rfl) rfl #[.slice A0 l0.length c0] rfl (by (try simp only [List.map_toArray, List.map_cons, List.map_nil]); first | done | rfl | (simp only [List.length_drop, List.length_take]; rfl)) ?_; (with_reducible refine (kauditmake_New.calls _ _ l0 t318 t319 w _ ?side1 ?side2 ?side3 A2.out).mono ?_); (case side1 => repeat (first | (with_reducible first | exact HB.out | apply below_alloc | apply pw_below_drewN | apply below_drew1) | exact HB.out)); (case side2 => exact HR0.out); (case side3 => exact HC0.out); rintro e w76 ⟨g320, rfl, hi, hb, hb2⟩; refine ⟨_, rfl, ?_⟩; have n0_ := Aside0.mk (hb); have n1_ := Aside0.mk (hi); clear HB; have HB := n0_; have HI320 := n1_; clear n0_ n1_; (try clear hb); (try clear hb2); (try clear hk); (try clear hi)) | ((with_reducible refine gate_callee (f := 24) rfl ?_); refine goesL_ (some 10) rfl rfl Tryd.func24 (by kernel_rfl) rfl #[.pointer (some ⟨g320, 0, none⟩)] rfl (by (try simp only [List.map_toArray, List.map_cons, List.map_nil]); first | done | rfl | (simp only [List.length_drop, List.length_take]; rfl)) ?_; (with_reducible refine (kauditmake_Src_Path.calls k g320 t318 t319 t321 t322 w _ ?side1 ?side2 A3.out).mono ?_); (case side1 => repeat (first | (with_reducible first | exact HI320.out | apply IsS39.alloc | apply IsS39.drewN | apply IsS39.drew | apply IsS39.set_1) | exact HI320.out)); (case side2 => repeat (first | (with_reducible first | exact HB.out | apply below_alloc | apply pw_below_drewN | apply below_drew1 | refine below_set ?_ (IsS39.ge HI320.out)) | exact HB.out)); rintro e w77 ⟨rfl, hi, hb, hk⟩; refine ⟨_, rfl, ?_⟩; have n0_ := Aside0.mk (hb); have n1_ := Aside0.mk (hi); clear HB; clear HI320; have HB := n0_; have HI320 := n1_; clear n0_ n1_; (try clear hb); (try clear hb2); (try clear hk); (try clear hi)) | ((with_reducible refine gate_callee (f := 24) rfl ?_); refine goesL_ (some 12) rfl rfl Tryd.func24 (by kernel_rfl) rfl #[.pointer (some ⟨g320, 0, none⟩)] rfl (by (try simp only [List.map_toArray, List.map_cons, List.map_nil]); first | done | rfl | (simp only [List.length_drop, List.length_take]; rfl)) ?_; (with_reducible refine (kauditmake_Src_Path.calls k g320 t318 t322 t323 t324 w _ ?side1 ?side2 A4.out).mono ?_); (case side1 => repeat (first | (with_reducible first | exact HI320.out | apply IsS39.alloc | apply IsS39.drewN | apply IsS39.drew | apply IsS39.set_1) | exact HI320.out)); (case side2 => repeat (first | (with_reducible first | exact HB.out | apply below_alloc | apply pw_below_drewN | apply below_drew1 | refine below_set ?_ (IsS39.ge HI320.out)) | exact HB.out)); rintro e w78 ⟨rfl, hi, hb, hk⟩; refine ⟨_, rfl, ?_⟩; have n0_ := Aside0.mk (hb); have n1_ := Aside0.mk (hi); clear HB; clear HI320; have HB := n0_; have HI320 := n1_; clear n0_ n1_; (try clear hb); (try clear hb2); (try clear hk); (try clear hi)) | ((with_reducible refine gate_callee (f := 20) rfl ?_); refine goesL_ (some 14) rfl rfl Tryd.func20 (by kernel_rfl) rfl #[.pointer (some ⟨g320, 0, none⟩)] rfl (by (try simp only [List.map_toArray, List.map_cons, List.map_nil]); first | done | rfl | (simp only [List.length_drop, List.length_take]; rfl)) ?_; (with_reducible refine (kauditmake_Src_Name.calls g320 t318 t324 t325 t326 w _ ?side1 ?side2 A5.out).mono ?_); (case side1 => repeat (first | (with_reducible first | exact HI320.out | apply IsS39.alloc | apply IsS39.drewN | apply IsS39.drew | apply IsS39.set_1) | exact HI320.out)); (case side2 => repeat (first | (with_reducible first | exact HB.out | apply below_alloc | apply pw_below_drewN | apply below_drew1 | refine below_set ?_ (IsS39.ge HI320.out)) | exact HB.out)); rintro e w79 ⟨rfl, hi, hb, hk⟩; refine ⟨_, rfl, ?_⟩; have n0_ := Aside0.mk (hb); have n1_ := Aside0.mk (hi); clear HB; clear HI320; have HB := n0_; have HI320 := n1_; clear n0_ n1_; (try clear hb); (try clear hb2); (try clear hk); (try clear hi)) | ((with_reducible refine gate_callee (f := 18) rfl ?_); refine goesL_ (some 16) rfl rfl Tryd.func18 (by kernel_rfl) rfl #[.string t321] rfl (by (try simp only [List.map_toArray, List.map_cons, List.map_nil]); first | done | rfl | (simp only [List.length_drop, List.length_take]; rfl)) ?_; (with_reducible refine (kauditlaw04_agrees.calls k t321 false _ A6.out).mono ?_); rintro e w80 ⟨rfl, hb⟩; refine ⟨_, rfl, ?_⟩; have n0_ := Aside0.mk (IsS39.below (by repeat (first | (with_reducible first | exact HI320.out | apply IsS39.alloc | apply IsS39.drewN | apply IsS39.drew | apply IsS39.set_1) | exact HI320.out)) hb); have n1_ := Aside0.mk (below_step (by repeat (first | (with_reducible first | exact HB.out | apply below_alloc | apply pw_below_drewN | apply below_drew1 | refine below_set ?_ (IsS39.ge HI320.out)) | exact HB.out)) hb); clear HI320; clear HB; have HI320 := n0_; have HB := n1_; clear n0_ n1_; (try clear hb); (try clear hb2); (try clear hk); (try clear hi)))
    go_ret
    exact ⟨by first | rfl | (simp [errW_none, errW_some] <;> rfl) | (simp [*, errW_none, errW_some] <;> rfl), by repeat (first | (with_reducible first | exact HB.out | apply below_alloc | apply pw_below_drewN | apply below_drew1 | refine below_set ?_ (IsS39.ge HI320.out)) | exact HB.out)⟩

/-- THE ONE PURE STATEMENT of kauditlaw04_PathBuilt: yours. -/
def kauditlaw04_PathBuilt.Pure : Prop := ∀ (l0 : List Int), l0.length ≤ maxLen → l0.length * 8 ≤ 140737488351232 → (∀ x ∈ l0, (Lit.int .i64 x).wf = true) → ∃ k, kauditlaw04_PathBuilt.f k l0 = some true
theorem kauditlaw04_PathBuilt.walk (P : kauditlaw04_PathBuilt.Pure) (a0 : Option Addr) (len0 cap0 : Nat) (z0 : List Int) (w : World) (w0 : (a0 = none ∧ len0 = 0 ∧ cap0 = 0 ∧ z0 = []) ∨ ∃ x, a0 = some x ∧ len0 ≤ cap0 ∧ cap0 ≤ maxLen ∧ z0.length = cap0 ∧ (∀ i, i < z0.length → w.cell? (x.add i) = some (.int .i64 (z0.getD i 0))) ∧ ∀ n ∈ z0, (Lit.int .i64 n).wf = true) (y0 : len0 * 8 ≤ 140737488351232) :
    Calls Tryd.prog 9 #[.slice a0 len0 cap0] w fun e w' => e = .returned (.bool true) ∧ Below w.heap.size w w' := by
  obtain ⟨l0, rfl, hr0, hm0, hw0, hc0⟩ := ReadsInt.ofRowC w0
  obtain ⟨k, h⟩ := P l0 hm0 y0 hw0
  refine (kauditlaw04_PathBuilt.calls k _ _ l0 true w (Kd.C_of_reads (d := (0 : Int)) (h1 := fun _ => rfl) hr0) hc0 h).mono ?_
  rintro e w' ⟨rfl, hd⟩
  exact ⟨rfl, hd⟩

end Go.Proofs.YtnjabpgbpgocnaaDoor.PAll

-- PureA
/- Plain facts on lists of bytes: pieces between slashes, names, clean paths. No program in sight. -/
namespace Go.Proofs.YtnjabpgbpgocnaaDoor.PAll

/-- No slash among the bytes. -/
def Free (p : List UInt8) : Prop := ∀ b ∈ p, b ≠ 47

/-- A slash ahead of each piece. -/
def joinP (ps : List (List UInt8)) : List UInt8 := ps.flatMap fun p => 47 :: p

theorem joinP_nil : joinP [] = [] := rfl
theorem joinP_cons (p : List UInt8) (ps : List (List UInt8)) : joinP (p :: ps) = 47 :: (p ++ joinP ps) := by simp [joinP]
theorem joinP_append (ps qs : List (List UInt8)) : joinP (ps ++ qs) = joinP ps ++ joinP qs := by simp [joinP]
theorem joinP_single (p : List UInt8) : joinP [p] = 47 :: p := by simp [joinP]

theorem split_slash (l : List UInt8) : splitL [] (47 :: l) = [] :: splitL [] l := by simp [splitL]

theorem split_join : ∀ (ps : List (List UInt8)) (t : List UInt8), (∀ p ∈ ps, Free p) → splitL [] (joinP ps ++ 47 :: t) = [] :: (ps ++ splitL [] t)
  | [], t, _ => by rw [joinP_nil, List.nil_append, split_slash, List.nil_append]
  | p :: ps, t, h => by
    have ih := split_join ps t (fun q hq => h q (by simp [hq]))
    obtain ⟨r, hr⟩ : ∃ r, joinP ps ++ 47 :: t = 47 :: r := by
      cases ps with
      | nil => exact ⟨t, rfl⟩
      | cons q qs => exact ⟨_, by rw [joinP_cons]; rfl⟩
    rw [joinP_cons, List.cons_append, split_slash, List.append_assoc, hr, splitL_cut p r [] (h p (by simp)), List.nil_append]
    rw [hr, split_slash] at ih
    rw [(List.cons.inj ih).2]
    rfl

theorem split_join0 : ∀ (ps : List (List UInt8)), (∀ p ∈ ps, Free p) → splitL [] (joinP ps) = [] :: ps
  | [], _ => rfl
  | p :: ps, h => by
    have ih := split_join0 ps (fun q hq => h q (by simp [hq]))
    rw [joinP_cons, split_slash]
    cases ps with
    | nil => rw [joinP_nil, List.append_nil, splitL_free p [] (h p (by simp)), List.nil_append]
    | cons q qs =>
      rw [joinP_cons, split_slash] at ih
      rw [joinP_cons, splitL_cut p _ [] (h p (by simp)), List.nil_append, (List.cons.inj ih).2]

theorem join_split : ∀ (l cur : List UInt8), joinP (splitL cur l) = 47 :: (cur ++ l)
  | [], cur => by simp [splitL, joinP]
  | b :: l, cur => by
    by_cases hb : b = 47
    · rw [splitL, if_pos hb, joinP_cons, join_split l [], hb]
      simp
    · rw [splitL, if_neg hb, join_split l (cur ++ [b])]
      simp

theorem split_ne : ∀ (l cur : List UInt8), splitL cur l ≠ []
  | [], cur => by simp [splitL]
  | b :: l, cur => by
    by_cases hb : b = 47
    · simp [splitL, hb]
    · rw [splitL, if_neg hb]; exact split_ne l _

theorem split_free : ∀ (l cur : List UInt8), Free cur → ∀ p ∈ splitL cur l, Free p
  | [], cur, hc, p, hp => by
    simp only [splitL, List.mem_singleton] at hp
    rw [hp]; exact hc
  | b :: l, cur, hc, p, hp => by
    by_cases hb : b = 47
    · rw [splitL, if_pos hb] at hp
      rcases List.mem_cons.1 hp with rfl | hp
      · exact hc
      · exact split_free l [] (fun _ h => by cases h) p hp
    · rw [splitL, if_neg hb] at hp
      refine split_free l (cur ++ [b]) (fun x hx => ?_) p hp
      rcases List.mem_append.1 hx with hx | hx
      · exact hc x hx
      · rw [List.mem_singleton.1 hx]; exact hb

theorem free_nil : Free [] := fun _ h => by cases h

theorem joinP_inj {ps qs : List (List UInt8)} (hp : ∀ p ∈ ps, Free p) (hq : ∀ p ∈ qs, Free p) (h : joinP ps = joinP qs) : ps = qs := by
  have h1 := split_join0 ps hp
  rw [h, split_join0 qs hq] at h1
  exact (List.cons.inj h1).2.symm

/-- The pieces that are not empty. -/
theorem pieces_filter (l : List UInt8) : piecesL [] l = (splitL [] l).filter fun p => decide (p ≠ []) := piecesL_eq l []

theorem pieces_free (l : List UInt8) : ∀ p ∈ piecesL [] l, Free p := fun p hp => by
  rw [pieces_filter] at hp
  exact split_free l [] free_nil p (List.mem_filter.1 hp).1
theorem pieces_ne (l : List UInt8) : ∀ p ∈ piecesL [] l, p ≠ [] := fun p hp => by
  rw [pieces_filter] at hp
  simpa using (List.mem_filter.1 hp).2

theorem pieces_join {ps : List (List UInt8)} (hf : ∀ p ∈ ps, Free p) (hn : ∀ p ∈ ps, p ≠ []) : piecesL [] (joinP ps) = ps := by
  rw [pieces_filter, split_join0 ps hf, List.filter_cons_of_neg (by simp)]
  exact List.filter_eq_self.2 fun p hp => by simpa using hn p hp

theorem pieces_slash : piecesL [] [47] = [] := rfl

/-- A name: 1 to 12 bytes, not '.' nor '..', no slash and no zero byte. -/
def nameL (p : List UInt8) : Bool := decide (p ≠ [] ∧ p.length ≤ 12 ∧ p ≠ [46] ∧ p ≠ [46, 46]) && !(p.any badByte)

theorem nameL_ne {p : List UInt8} (h : nameL p = true) : p ≠ [] := by
  rw [nameL, Bool.and_eq_true, decide_eq_true_eq] at h
  exact h.1.1
theorem nameL_len {p : List UInt8} (h : nameL p = true) : p.length ≤ 12 := by
  rw [nameL, Bool.and_eq_true, decide_eq_true_eq] at h
  exact h.1.2.1
theorem nameL_free {p : List UInt8} (h : nameL p = true) : Free p := by
  rw [nameL, Bool.and_eq_true, Bool.not_eq_true'] at h
  intro b hb e
  have := List.any_eq_false.1 h.2 b hb
  rw [e] at this
  exact this (by decide)
theorem nameL_nil : nameL [] = false := by decide

/-- A clean path: a slash, or names with a slash ahead of each. -/
def cleanL (l : List UInt8) : Bool := l == [47] || (l.head? == some 47 && (splitL [] l.tail).all nameL)

theorem clean_join {ps : List (List UInt8)} (h0 : ps ≠ []) (h : ∀ p ∈ ps, nameL p = true) : cleanL (joinP ps) = true := by
  have hs := split_join0 ps (fun p hp => nameL_free (h p hp))
  cases ps with
  | nil => exact absurd rfl h0
  | cons p ps =>
    rw [joinP_cons] at hs ⊢
    rw [split_slash] at hs
    rw [cleanL, List.head?_cons, List.tail_cons, (List.cons.inj hs).2]
    simp only [beq_self_eq_true, Bool.true_and, Bool.or_eq_true]
    exact .inr (List.all_eq_true.2 h)

theorem clean_iff (l : List UInt8) : cleanL l = true ↔ l = [47] ∨ ∃ ps, ps ≠ [] ∧ (∀ p ∈ ps, nameL p = true) ∧ l = joinP ps := by
  constructor
  · intro h
    rw [cleanL, Bool.or_eq_true, Bool.and_eq_true, beq_iff_eq, beq_iff_eq] at h
    rcases h with h | ⟨h1, h2⟩
    · exact .inl h
    · refine .inr ⟨splitL [] l.tail, split_ne _ _, List.all_eq_true.1 h2, ?_⟩
      cases l with
      | nil => cases h1
      | cons b l =>
        rw [List.head?_cons] at h1
        rw [Option.some.inj h1, List.tail_cons, join_split]
        rfl
  · rintro (rfl | ⟨ps, h0, h, rfl⟩)
    · rfl
    · exact clean_join h0 h

/-- What the reference asks: the pieces are names, and the text is made of them. -/
theorem clean_pieces (l : List UInt8) : cleanL l = ((piecesL [] l).all nameL && (l == [47] || (decide (piecesL [] l ≠ []) && l == joinP (piecesL [] l)))) := by
  rw [Bool.eq_iff_iff]
  constructor
  · intro h
    rcases (clean_iff l).1 h with rfl | ⟨ps, h0, hn, rfl⟩
    · rfl
    · have hp := pieces_join (fun p hp => nameL_free (hn p hp)) (fun p hp => nameL_ne (hn p hp))
      rw [hp]
      simp only [Bool.and_eq_true, Bool.or_eq_true, beq_self_eq_true, decide_eq_true_eq, and_true]
      exact ⟨List.all_eq_true.2 hn, .inr h0⟩
  · intro h
    rw [Bool.and_eq_true, Bool.or_eq_true, Bool.and_eq_true, decide_eq_true_eq, beq_iff_eq, beq_iff_eq] at h
    obtain ⟨h1, h2 | ⟨h2, h3⟩⟩ := h
    · rw [h2]; rfl
    · rw [h3]
      exact clean_join h2 (List.all_eq_true.1 h1)

/-- The names of a clean path. -/
theorem clean_names {l : List UInt8} (h : cleanL l = true) : ∀ p ∈ piecesL [] l, nameL p = true := by
  rw [clean_pieces, Bool.and_eq_true] at h
  exact List.all_eq_true.1 h.1

theorem clean_is {l : List UInt8} (h : cleanL l = true) (hne : l ≠ [47]) : piecesL [] l ≠ [] ∧ l = joinP (piecesL [] l) := by
  rw [clean_pieces, Bool.and_eq_true, Bool.or_eq_true, Bool.and_eq_true, decide_eq_true_eq, beq_iff_eq, beq_iff_eq] at h
  rcases h.2 with h | h
  · exact absurd h hne
  · exact h

theorem joinP_last {ps : List (List UInt8)} {n : List UInt8} (hn : Free n) (h0 : n ≠ []) : (joinP (ps ++ [n])).getLast? ≠ some 47 := by
  rw [joinP_append, joinP_single]
  intro h
  have : (joinP ps ++ 47 :: n).getLast? = n.getLast? := by
    rcases List.eq_nil_or_concat n with rfl | ⟨m, b, rfl⟩
    · exact absurd rfl h0
    · rw [List.concat_eq_append, ← List.cons_append, ← List.append_assoc, List.getLast?_concat, List.getLast?_concat]
  rw [this] at h
  exact hn 47 (List.mem_of_getLast? h) rfl

end Go.Proofs.YtnjabpgbpgocnaaDoor.PAll

-- PureB
/- What the program's path functions compute, in plain words on lists of bytes. Condition: texts shorter than 2^32 bytes. -/
namespace Go.Proofs.YtnjabpgbpgocnaaDoor.PAll
open Go Go.RowKit Go.Proofs.YtnjabpgbpgocnaaDoorW.PrintWords Go.Proofs.YtnjabpgbpgocnaaDoorW.PrintLast Go.Proofs.YtnjabpgbpgocnaaDoorW.PrintMore
set_option linter.unusedVariables false
set_option linter.unusedSimpArgs false

theorem size_len (s : ByteArray) : s.size = s.data.toList.length := by rw [Array.length_toList]; rfl
theorem ba_ext {a b : ByteArray} (h : a.data.toList = b.data.toList) : a = b := by rw [← ofL_data a, ← ofL_data b, h]
theorem ofL_list (l : List UInt8) : (ofL l).data.toList = l := by simp [ofL]
theorem ofL_size (l : List UInt8) : (ofL l).size = l.length := by rw [size_len, ofL_list]
theorem app_list (a b : ByteArray) : (a ++ b).data.toList = a.data.toList ++ b.data.toList := by simp
theorem nil_list : (⟨#[]⟩ : ByteArray).data.toList = [] := rfl
theorem slash_list : (⟨#[47]⟩ : ByteArray).data.toList = [47] := rfl
theorem extract0_list (s : ByteArray) (n : Nat) : (s.extract 0 n).data.toList = s.data.toList.take n := by rw [Lib.extract_data]; simp
theorem extract1_list (s : ByteArray) (n : Nat) : (s.extract n s.size).data.toList = s.data.toList.drop n := Lib.extract_to_end s n

theorem bt_get (s : ByteArray) (i : Nat) (h : i < s.data.toList.length) : bt s (i : Int) = ((s.data.toList[i]'h).toNat : Int) := by
  have h' : i < s.size := by rw [size_len]; exact h
  unfold bt
  rw [dif_pos (by simpa using h')]
  rfl

theorem name_eq (s : ByteArray) : path_Name.f s = some (nameL s.data.toList) := by
  have hz := size_len s
  unfold path_Name.f
  rw [Lib.toList_data]
  by_cases h0 : s.data.toList = []
  · rw [if_pos h0, h0, nameL_nil]
  rw [if_neg h0]
  by_cases h12 : s.data.toList.length ≤ 12
  · rw [if_pos (by omega)]
    by_cases h1 : s.data.toList = [46]
    · rw [if_pos h1, h1]; rfl
    rw [if_neg h1]
    by_cases h2 : s.data.toList = [46, 46]
    · rw [if_pos h2, h2]; rfl
    rw [if_neg h2, strings_ContainsAny.f, if_pos ⟨rfl, by omega⟩, Option.bind_some, nameL, decide_eq_true ⟨h0, h12, h1, h2⟩, Bool.true_and]
  · rw [if_neg (by omega), nameL, decide_eq_false (fun h => h12 h.2.1), Bool.false_and]

theorem cut_none (s : ByteArray) (h : Lib.indexByte s.data.toList 47 = -1) : strings_Cut.f s ⟨#[47]⟩ = some (s, ⟨#[]⟩, false) := by
  unfold strings_Cut.f stringslite_Cut.f stringslite_Index.f
  rw [if_pos rfl, h]
  rfl

theorem cut_some (s : ByteArray) (o : Nat) (hs : s.size < 4294967296) (h : Lib.indexByte s.data.toList 47 = o) (ho : o < s.size) :
    strings_Cut.f s ⟨#[47]⟩ = some (s.extract 0 o, s.extract (o + 1) s.size, true) := by
  unfold strings_Cut.f stringslite_Cut.f stringslite_Index.f
  have e : wrap64 ((o : Int) + (((⟨#[47]⟩ : ByteArray).size : Nat) : Int)) = ((o + 1 : Nat) : Int) := by
    have : (⟨#[47]⟩ : ByteArray).size = 1 := rfl
    rw [this]; unfold wrap64; omega
  rw [if_pos rfl, h, Option.bind_some, if_pos (by omega), if_pos (by omega), if_pos (by omega), e, if_pos (by omega), if_pos (by omega)]
  rfl

theorem index_lt {s : ByteArray} {o : Nat} (h : Lib.indexByte s.data.toList 47 = o) : o < s.size := by
  have h1 := (Lib.indexByte_some h).1
  by_cases hlt : o < s.data.toList.length
  · rw [size_len]; exact hlt
  · rw [List.getElem?_eq_none (by omega)] at h1; cases h1

theorem clean_loop : ∀ (n : Nat) (r : ByteArray) (k : Nat), r.size ≤ n → r.size < 4294967296 → 3 * n + 3 ≤ k → path_Clean.l0 k r true = some ((splitL [] r.data.toList).all nameL) := by
  intro n
  induction n using Nat.strongRecOn with
  | ind n ih =>
    intro r k hn hs hk
    obtain ⟨k, rfl⟩ : ∃ j, k = j + 3 := ⟨k - 3, by omega⟩
    rw [path_Clean.l0, if_pos rfl, path_Clean.j1, Lib.toList_data]
    by_cases h0 : r.data.toList = []
    · rw [h0]; rfl
    have hb : (r.data.toList != []) = true := by simpa using h0
    rw [hb, if_pos rfl]
    have hge := Lib.indexByte_ge r.data.toList 47
    by_cases hi : Lib.indexByte r.data.toList 47 = -1
    · rw [cut_none r hi, Option.bind_some, name_eq, Option.bind_some, splitL_index_none hi]
      cases hname : nameL r.data.toList
      · simp [path_Clean.j2, hname]
      · simp [path_Clean.j2, hname]
    · obtain ⟨o, ho⟩ : ∃ o : Nat, Lib.indexByte r.data.toList 47 = o := ⟨(Lib.indexByte r.data.toList 47).toNat, by omega⟩
      have hlt := index_lt ho
      have hsz : (r.extract (o + 1) r.size).size < r.size := by
        rw [size_len, extract1_list, List.length_drop, ← size_len]; omega
      rw [cut_some r o hs ho hlt, Option.bind_some, name_eq, Option.bind_some, splitL_index_some ho, extract0_list]
      cases hname : nameL (r.data.toList.take o)
      · simp [path_Clean.j2, hname]
      · rw [if_pos rfl, if_pos rfl, Lib.toList_data, extract1_list, path_Clean.j2, List.all_cons, hname, Bool.true_and]
        by_cases ha : r.data.toList.drop (o + 1) = []
        · rw [ha]; rfl
        · have hb2 : (r.data.toList.drop (o + 1) == []) = false := by simpa using ha
          rw [hb2, if_neg (by simp), if_pos rfl, ih (n - 1) (by omega) (r.extract (o + 1) r.size) k (by omega) (by omega) (by omega), extract1_list]

theorem cutPrefix_yes (s : ByteArray) (h : s.data.toList.head? = some 47) : strings_CutPrefix.f s ⟨#[47]⟩ = some (s.extract 1 s.size, true) := by
  have h1 : 1 ≤ s.size := by
    rw [size_len]
    cases hl : s.data.toList with
    | nil => rw [hl] at h; cases h
    | cons a l => simp
  have e1 : (⟨#[47]⟩ : ByteArray).size = 1 := rfl
  have e2 : ((s.extract 0 1).toList == (⟨#[47]⟩ : ByteArray).toList) = true := by
    have := first_of s h1
    rw [Lib.toList_data (⟨#[47]⟩ : ByteArray), slash_list, this, decide_eq_true h]
  unfold strings_CutPrefix.f stringslite_CutPrefix.f stringslite_HasPrefix.f
  rw [e1, if_pos (by omega), if_pos (by omega), if_pos (by omega)]
  simp only [Option.bind_some]
  rw [show ((1 : Nat) : Int).toNat = 1 from rfl, e2, if_pos rfl, if_pos (by omega), if_pos (by omega)]
  rfl

theorem cutPrefix_no (s : ByteArray) (h : s.data.toList.head? ≠ some 47) : strings_CutPrefix.f s ⟨#[47]⟩ = some (s, false) := by
  have e1 : (⟨#[47]⟩ : ByteArray).size = 1 := rfl
  unfold strings_CutPrefix.f stringslite_CutPrefix.f stringslite_HasPrefix.f
  rw [e1]
  by_cases h1 : 1 ≤ s.size
  · have e2 : ((s.extract 0 1).toList == (⟨#[47]⟩ : ByteArray).toList) = false := by
      have := first_of s h1
      rw [Lib.toList_data (⟨#[47]⟩ : ByteArray), slash_list, this, decide_eq_false h]
    rw [if_pos (by omega), if_pos (by omega), if_pos (by omega)]
    simp only [Option.bind_some]
    rw [show ((1 : Nat) : Int).toNat = 1 from rfl, e2]
    rfl
  · rw [if_neg (by omega)]
    rfl

theorem pathClean_eq (s : ByteArray) (k : Nat) (hs : s.size < 4294967296) (hk : 3 * s.size + 3 ≤ k) : path_Clean.f k s = some (cleanL s.data.toList) := by
  unfold path_Clean.f
  rw [Lib.toList_data]
  by_cases h1 : s.data.toList = [47]
  · rw [if_pos h1, h1]; rfl
  rw [if_neg h1]
  have hb : (s.data.toList == [47]) = false := by simpa using h1
  by_cases h2 : s.data.toList.head? = some 47
  · have hz : (s.extract 1 s.size).size ≤ s.size := by rw [size_len, extract1_list, List.length_drop, ← size_len]; omega
    rw [cutPrefix_yes s h2, Option.bind_some, clean_loop s.size _ k hz (by omega) hk, cleanL, hb, Bool.false_or, h2, extract1_list, List.drop_one]
    simp
  · obtain ⟨k, rfl⟩ : ∃ j, k = j + 2 := ⟨k - 2, by omega⟩
    have h3 : (s.data.toList.head? == some 47) = false := by simpa using h2
    rw [cutPrefix_no s h2, Option.bind_some, path_Clean.l0, if_neg (by simp), path_Clean.j1, if_neg (by simp), cleanL, hb, h3]
    rfl

/-- A slash is put between only where the first does not end with one. -/
def joinL (a b : List UInt8) : List UInt8 := if a.getLast? = some 47 then a ++ b else a ++ 47 :: b

theorem hasSuffix_eq (s : ByteArray) (hs : s.size < 4294967296) : strings_HasSuffix.f s ⟨#[47]⟩ = some (decide (s.data.toList.getLast? = some 47)) := by
  have e1 : (⟨#[47]⟩ : ByteArray).size = 1 := rfl
  unfold strings_HasSuffix.f stringslite_HasSuffix.f
  rw [e1]
  by_cases h1 : 1 ≤ s.size
  · have e : wrap64 ((s.size : Int) - ((1 : Nat) : Int)) = ((s.size - 1 : Nat) : Int) := by unfold wrap64; omega
    rw [if_pos (by omega), e, if_pos (by omega), if_pos (by omega), Option.bind_some, Int.toNat_natCast, Lib.toList_data (⟨#[47]⟩ : ByteArray), slash_list, last_of]
  · have hl : s.data.toList = [] := List.length_eq_zero_iff.1 (by rw [← size_len]; omega)
    rw [if_neg (by omega), hl]
    rfl

theorem pathJoin_eq (a b : ByteArray) (ha : a.size < 4294967296) (hb : b.size < 4294967296) : path_Join.f a b = some (ofL (joinL a.data.toList b.data.toList)) := by
  have e1 : (⟨#[47]⟩ : ByteArray).size = 1 := rfl
  unfold path_Join.f
  rw [hasSuffix_eq a ha, Option.bind_some, joinL]
  by_cases h : a.data.toList.getLast? = some 47
  · rw [if_pos (decide_eq_true h), if_pos (by omega), if_pos h]
    exact congrArg some (ba_ext (by rw [app_list, ofL_list]))
  · rw [if_neg (by simpa using h), if_pos (by omega), if_pos (by rw [ByteArray.size_append, e1]; omega), if_neg h]
    exact congrArg some (ba_ext (by rw [app_list, app_list, ofL_list, slash_list]; simp))

end Go.Proofs.YtnjabpgbpgocnaaDoor.PAll

-- PureC
/- path.Parent, path.Under and path.Split in plain words on lists of bytes. Condition: texts shorter than 2^32 bytes. -/
namespace Go.Proofs.YtnjabpgbpgocnaaDoor.PAll
open Go Go.RowKit Go.Proofs.YtnjabpgbpgocnaaDoorW.PrintWords Go.Proofs.YtnjabpgbpgocnaaDoorW.PrintLast Go.Proofs.YtnjabpgbpgocnaaDoorW.PrintMore
set_option linter.unusedVariables false
set_option linter.unusedSimpArgs false

theorem split_eq (s : ByteArray) (hs : s.size < 4294967296) : path_Split.f s = some (piecesOf s, firstSlash s, lastSlash s) := by
  unfold path_Split.f
  rw [if_pos hs]

theorem last_loop (s : ByteArray) (a n : List UInt8) (hl : s.data.toList = a ++ 47 :: n) (hf : Free n) (hs : s.size < 4294967296) :
    ∀ (d k : Nat), a.length + d < s.size → d + 1 ≤ k → bytealg_LastIndexByteString.l0 k s 47 ((a.length + d : Nat) : Int) = some ((a.length : Nat) : Int) := by
  intro d
  induction d with
  | zero =>
    intro k hi hk
    obtain ⟨k, rfl⟩ : ∃ j, k = j + 1 := ⟨k - 1, by omega⟩
    have hlt : a.length + 0 < s.data.toList.length := by rw [← size_len]; exact hi
    have hb : bt s ((a.length + 0 : Nat) : Int) = 47 := by
      rw [bt_get s _ hlt]
      have : s.data.toList[a.length + 0]'hlt = 47 := by
        simp only [hl, Nat.add_zero]
        rw [List.getElem_append_right (Nat.le_refl _)]
        simp
      rw [this]; rfl
    rw [bytealg_LastIndexByteString.l0, if_pos (by omega), if_pos (by omega), if_pos (by omega), if_pos hb]
    rfl
  | succ d ih =>
    intro k hi hk
    obtain ⟨k, rfl⟩ : ∃ j, k = j + 1 := ⟨k - 1, by omega⟩
    have hlt : a.length + (d + 1) < s.data.toList.length := by rw [← size_len]; exact hi
    have hb : bt s ((a.length + (d + 1) : Nat) : Int) ≠ 47 := by
      rw [bt_get s _ hlt]
      have hd : d < n.length := by rw [hl] at hlt; simp at hlt; omega
      have : s.data.toList[a.length + (d + 1)]'hlt = n[d]'hd := by
        simp only [hl]
        rw [List.getElem_append_right (by omega)]
        simp
      rw [this]
      intro e
      refine hf _ (List.getElem_mem hd) ?_
      rw [← UInt8.toNat_inj]
      exact Int.ofNat.inj e
    have e : wrap64 (((a.length + (d + 1) : Nat) : Int) - 1) = ((a.length + d : Nat) : Int) := by unfold wrap64; omega
    rw [bytealg_LastIndexByteString.l0, if_pos (by omega), if_pos (by omega), if_pos (by omega), if_neg hb, e, ih k (by omega) (by omega)]

theorem lastIndex_eq (s : ByteArray) (a n : List UInt8) (hl : s.data.toList = a ++ 47 :: n) (hf : Free n) (hs : s.size < 4294967296) (k : Nat) (hk : s.size ≤ k) :
    strings_LastIndex.f k s ⟨#[47]⟩ = some ((a.length : Nat) : Int) := by
  have e1 : (⟨#[47]⟩ : ByteArray).size = 1 := rfl
  have hz : s.size = a.length + n.length + 1 := by rw [size_len, hl]; simp; omega
  have e2 : bt ⟨#[47]⟩ 0 = 47 := rfl
  have e : wrap64 ((s.size : Int) - 1) = ((a.length + n.length : Nat) : Int) := by unfold wrap64; omega
  unfold strings_LastIndex.f bytealg_LastIndexByteString.f
  rw [e1, if_neg (by omega), if_pos (by omega), if_pos (by omega), e2, e, last_loop s a n hl hf hs n.length k (by omega) (by omega)]
  rfl

/-- The directory and the last name of a clean path that is not the root. -/
def parentL (l : List UInt8) : List UInt8 × List UInt8 × Bool :=
  if cleanL l = true ∧ l ≠ [47] then (if (piecesL [] l).dropLast = [] then [47] else joinP (piecesL [] l).dropLast, (piecesL [] l).getLast?.getD [], true) else ([], [], false)

theorem parentL_no {l : List UInt8} (h : ¬ (cleanL l = true ∧ l ≠ [47])) : parentL l = ([], [], false) := by rw [parentL, if_neg h]
theorem parentL_join {qs : List (List UInt8)} {n : List UInt8} (h : ∀ p ∈ qs ++ [n], nameL p = true) :
    parentL (joinP (qs ++ [n])) = (if qs = [] then [47] else joinP qs, n, true) := by
  have hc := clean_join (ps := qs ++ [n]) (by simp) h
  have hp := pieces_join (ps := qs ++ [n]) (fun p hp => nameL_free (h p hp)) (fun p hp => nameL_ne (h p hp))
  have hne : joinP (qs ++ [n]) ≠ [47] := by
    intro e
    have := pieces_slash
    rw [← e, hp] at this
    simp at this
  rw [parentL, if_pos ⟨hc, hne⟩, hp, List.dropLast_concat, List.getLast?_concat]
  rfl

/-- A clean path that is not the root: the names ahead of the last, and the last. -/
theorem clean_snoc {l : List UInt8} (h : cleanL l = true) (hne : l ≠ [47]) : ∃ qs n, (∀ p ∈ qs ++ [n], nameL p = true) ∧ l = joinP (qs ++ [n]) := by
  obtain ⟨h1, h2⟩ := clean_is h hne
  have h3 := clean_names h
  rcases List.eq_nil_or_concat (piecesL [] l) with e | ⟨qs, n, e⟩
  · exact absurd e h1
  · rw [List.concat_eq_append] at e
    rw [e] at h2 h3
    exact ⟨qs, n, h3, h2⟩

theorem pathParent_eq (s : ByteArray) (k : Nat) (hs : s.size < 4294967296) (hk : 3 * s.size + 3 ≤ k) :
    path_Parent.f k s = some (ofL (parentL s.data.toList).1, ofL (parentL s.data.toList).2.1, (parentL s.data.toList).2.2) := by
  unfold path_Parent.f
  rw [Lib.toList_data]
  by_cases h1 : s.data.toList = [47]
  · rw [if_pos h1, parentL_no (fun h => h.2 h1)]; rfl
  rw [if_neg h1, pathClean_eq s k hs hk, Option.bind_some]
  by_cases hc : cleanL s.data.toList = true
  · obtain ⟨qs, n, hn, hl⟩ := clean_snoc hc h1
    have hl' : s.data.toList = joinP qs ++ 47 :: n := by rw [hl, joinP_append, joinP_single]
    have hfn : Free n := nameL_free (hn n (by simp))
    have hz : s.size = (joinP qs).length + n.length + 1 := by rw [size_len, hl']; simp; omega
    rw [if_pos hc, lastIndex_eq s _ n hl' hfn hs k (by omega), Option.bind_some]
    have e2 : wrap64 (((joinP qs).length : Int) + 1) = (((joinP qs).length + 1 : Nat) : Int) := by unfold wrap64; omega
    have e3 : mx ((joinP qs).length : Int) 1 = ((if qs = [] then 1 else (joinP qs).length : Nat) : Int) := by
      unfold mx
      cases qs with
      | nil => rfl
      | cons q qs =>
        have hq : 1 ≤ (joinP (q :: qs)).length := by rw [joinP_cons]; simp
        rw [if_neg (by omega), if_neg (by simp)]
    have hle : (if qs = [] then 1 else (joinP qs).length : Nat) ≤ s.size := by split <;> omega
    have hpar : parentL s.data.toList = (if qs = [] then [47] else joinP qs, n, true) := by rw [hl]; exact parentL_join hn
    rw [e3, e2, if_pos (by omega), if_pos (by omega), if_pos (by omega), if_pos (by omega), hpar]
    refine congrArg some (Prod.ext ?_ (Prod.ext ?_ rfl))
    · refine ba_ext ?_
      rw [ofL_list, Int.toNat_natCast, extract0_list, hl']
      show List.take _ _ = if qs = [] then [47] else joinP qs
      cases qs with
      | nil => rfl
      | cons q qs => rw [if_neg (by simp), if_neg (by simp), List.take_left]
    · refine ba_ext ?_
      rw [ofL_list, Int.toNat_natCast, extract1_list, hl']
      show List.drop _ _ = n
      rw [show joinP qs ++ 47 :: n = (joinP qs ++ [47]) ++ n by simp]
      exact List.drop_left' (by simp)
  · rw [if_neg hc, parentL_no (fun h => hc h.1)]; rfl

/-- The names of the second begin with those of the first. -/
def underL (a b : List UInt8) : Bool := cleanL a && cleanL b && (piecesL [] a).isPrefixOf (piecesL [] b)

theorem hasPrefix_eq (s t : ByteArray) : strings_HasPrefix.f s t = some (t.data.toList.isPrefixOf s.data.toList) := by
  unfold strings_HasPrefix.f stringslite_HasPrefix.f
  have hs := size_len s
  have ht := size_len t
  have key : ((s.extract 0 t.size).toList == t.toList) = true ↔ t.data.toList <+: s.data.toList := by
    rw [beq_iff_eq, Lib.toList_data, Lib.toList_data, extract0_list, ht, List.prefix_iff_eq_take]
    exact eq_comm
  by_cases h : t.size ≤ s.size
  · rw [if_pos (by omega), if_pos (by omega), if_pos (by omega), Int.toNat_natCast]
    refine congrArg some ?_
    rw [Bool.eq_iff_iff, key, List.isPrefixOf_iff_prefix]
  · rw [if_neg (by omega)]
    refine congrArg some ?_
    symm
    rw [Bool.eq_false_iff, ne_eq, List.isPrefixOf_iff_prefix]
    intro hp
    have := hp.length_le
    omega

theorem joinP_ne_slash {ps : List (List UInt8)} (hn : ∀ p ∈ ps, nameL p = true) (h0 : ps ≠ []) : joinP ps ≠ [47] := by
  intro e
  have hp := pieces_join (fun p hp => nameL_free (hn p hp)) (fun p hp => nameL_ne (hn p hp))
  rw [e, pieces_slash] at hp
  exact h0 hp.symm

theorem joinL_clean {ps : List (List UInt8)} (hn : ∀ p ∈ ps, nameL p = true) (h0 : ps ≠ []) (b : List UInt8) : joinL (joinP ps) b = joinP ps ++ 47 :: b := by
  rcases List.eq_nil_or_concat ps with e | ⟨qs, n, e⟩
  · exact absurd e h0
  · rw [List.concat_eq_append] at e
    have hnn := hn n (by rw [e]; simp)
    rw [joinL, if_neg (by rw [e]; exact joinP_last (nameL_free hnn) (nameL_ne hnn))]

theorem under_plain {a b : List UInt8} (ha : cleanL a = true) (hb : cleanL b = true) : (a = b ∨ joinL a [] <+: b) ↔ piecesL [] a <+: piecesL [] b := by
  rcases (clean_iff a).1 ha with rfl | ⟨ps, h0, hn, rfl⟩
  · rw [pieces_slash]
    refine ⟨fun _ => List.nil_prefix, fun _ => .inr ?_⟩
    have e : joinL [47] [] = [47] := rfl
    rw [e]
    rcases (clean_iff b).1 hb with rfl | ⟨qs, k0, kn, rfl⟩
    · exact List.prefix_refl _
    · cases qs with
      | nil => exact absurd rfl k0
      | cons q qs => rw [joinP_cons]; exact ⟨_, rfl⟩
  · have hf : ∀ p ∈ ps, Free p := fun p hp => nameL_free (hn p hp)
    have he : ∀ p ∈ ps, p ≠ [] := fun p hp => nameL_ne (hn p hp)
    rw [joinL_clean hn h0, pieces_join hf he]
    rcases (clean_iff b).1 hb with rfl | ⟨qs, k0, kn, rfl⟩
    · rw [pieces_slash]
      constructor
      · rintro (e | hp)
        · exact absurd e (joinP_ne_slash hn h0)
        · have := hp.length_le
          have h1 : 1 ≤ (joinP ps).length := by
            cases ps with
            | nil => exact absurd rfl h0
            | cons q qs => rw [joinP_cons]; simp
          simp only [List.length_append, List.length_singleton] at this
          omega
      · intro hp
        exact absurd (List.prefix_nil.1 hp) h0
    · have kf : ∀ p ∈ qs, Free p := fun p hp => nameL_free (kn p hp)
      have ke : ∀ p ∈ qs, p ≠ [] := fun p hp => nameL_ne (kn p hp)
      rw [pieces_join kf ke]
      constructor
      · rintro (e | ⟨t, ht⟩)
        · rw [joinP_inj hf kf e]
          exact List.prefix_refl _
        · have h1 := split_join0 qs kf
          rw [← ht, List.append_assoc, List.singleton_append, split_join ps t hf] at h1
          exact ⟨_, (List.cons.inj h1).2⟩
      · rintro ⟨r, rfl⟩
        cases r with
        | nil => rw [List.append_nil]; exact .inl rfl
        | cons q r => exact .inr ⟨q ++ joinP r, by rw [joinP_append, joinP_cons]; simp⟩

theorem pathUnder_eq (a b : ByteArray) (k : Nat) (ha : a.size < 4294967296) (hb : b.size < 4294967296) (hka : 3 * a.size + 3 ≤ k) (hkb : 3 * b.size + 3 ≤ k) :
    path_Under.f k a b = some (underL a.data.toList b.data.toList) := by
  unfold path_Under.f
  rw [pathClean_eq a k ha hka, Option.bind_some, underL]
  by_cases hca : cleanL a.data.toList = true
  · rw [if_pos hca, pathClean_eq b k hb hkb, Option.bind_some]
    by_cases hcb : cleanL b.data.toList = true
    · have key := under_plain hca hcb
      rw [if_pos hcb, hca, hcb, Lib.toList_data, Lib.toList_data, Bool.true_and, Bool.true_and]
      by_cases e : a.data.toList = b.data.toList
      · rw [if_pos e]
        refine congrArg some ?_
        symm
        rw [List.isPrefixOf_iff_prefix]
        exact key.1 (.inl e)
      · rw [if_neg e, pathJoin_eq a ⟨#[]⟩ ha (by decide), Option.bind_some, hasPrefix_eq, Option.bind_some, ofL_list, nil_list]
        refine congrArg some ?_
        rw [Bool.eq_iff_iff, List.isPrefixOf_iff_prefix, List.isPrefixOf_iff_prefix]
        exact ⟨fun h => key.1 (.inr h), fun h => (key.2 h).resolve_left e⟩
    · rw [if_neg hcb, Bool.eq_false_iff.2 hcb, Bool.and_false, Bool.false_and]
  · rw [if_neg hca, Bool.eq_false_iff.2 hca, Bool.false_and, Bool.false_and]

end Go.Proofs.YtnjabpgbpgocnaaDoor.PAll

-- PureE
/- What the reference's functions compute, in plain words on lists of bytes: the same as the program's. Condition: texts of at most 100000 bytes. -/
namespace Go.Proofs.YtnjabpgbpgocnaaDoor.PAll
open Go Go.RowKit Go.Proofs.YtnjabpgbpgocnaaDoorW.PrintWords Go.Proofs.YtnjabpgbpgocnaaDoorW.PrintLast Go.Proofs.YtnjabpgbpgocnaaDoorW.PrintMore
set_option linter.unusedVariables false
set_option linter.unusedSimpArgs false

theorem rdOf_map (ps : List (List UInt8)) (i : Nat) (h : i < ps.length) : rdOf ByteArray.empty (ps.map ofL) (i : Int) = ofL (ps[i]'h) := by
  rw [rdOf, Int.toNat_natCast, List.getD_eq_getElem?_getD, List.getElem?_map, List.getElem?_eq_getElem h]
  rfl

/-! ### Name -/
theorem refName_loop (s : ByteArray) (hs : s.size ≤ 1000) : ∀ (d i k : Nat), i + d = s.size → d + 1 ≤ k → kauditref04_Name.l0 k s (i : Int) = some (!((s.data.toList.drop i).any badByte)) := by
  intro d
  induction d with
  | zero =>
    intro i k hi hk
    obtain ⟨k, rfl⟩ : ∃ j, k = j + 1 := ⟨k - 1, by omega⟩
    rw [kauditref04_Name.l0, if_neg (by omega), List.drop_eq_nil_of_le (by rw [← size_len]; omega)]
    rfl
  | succ d ih =>
    intro i k hi hk
    obtain ⟨k, rfl⟩ : ∃ j, k = j + 1 := ⟨k - 1, by omega⟩
    have hlt : i < s.data.toList.length := by rw [← size_len]; omega
    have e2 : wrap64 ((i : Int) + 1) = ((i + 1 : Nat) : Int) := by unfold wrap64; omega
    have hb := bt_get s i hlt
    have heq : ∀ n : UInt8, (bt s (i : Int) = (n.toNat : Int)) ↔ s.data.toList[i]'hlt = n := fun n => by
      rw [hb, ← UInt8.toNat_inj]
      exact ⟨fun h => Int.ofNat.inj h, fun h => by rw [h]⟩
    have h0 := heq 0
    have h47 := heq 47
    rw [show (((0 : UInt8).toNat : Nat) : Int) = 0 from rfl] at h0
    rw [show (((47 : UInt8).toNat : Nat) : Int) = 47 from rfl] at h47
    rw [kauditref04_Name.l0, if_pos (by omega), if_pos (by omega), List.drop_eq_getElem_cons hlt, List.any_cons]
    by_cases c0 : bt s (i : Int) = 0
    · rw [if_pos c0, h0.1 c0]; rfl
    · rw [if_neg c0]
      by_cases c47 : bt s (i : Int) = 47
      · rw [if_pos c47, h47.1 c47]; rfl
      · have hbad : badByte (s.data.toList[i]'hlt) = false := by
          rw [badByte, Bool.or_eq_false_iff, beq_eq_false_iff_ne, beq_eq_false_iff_ne]
          exact ⟨fun h => c47 (h47.2 h), fun h => c0 (h0.2 h)⟩
        rw [if_neg c47, e2, ih (i + 1) k (by omega) (by omega), hbad, Bool.false_or]

theorem refName_eq (s : ByteArray) (k : Nat) (hk : 15 ≤ k) : kauditref04_Name.f k s = some (nameL s.data.toList) := by
  obtain ⟨k, rfl⟩ : ∃ j, k = j + 1 := ⟨k - 1, by omega⟩
  have hz := size_len s
  unfold kauditref04_Name.f
  rw [Lib.toList_data]
  by_cases h0 : s.data.toList = []
  · rw [if_pos (by rw [hz, h0]; decide), kauditref04_Name.j0, if_pos rfl, h0, nameL_nil]
  · have h1 : 1 ≤ s.data.toList.length := List.length_pos_iff.2 h0
    rw [if_neg (by omega)]
    by_cases h12 : s.data.toList.length ≤ 12
    · rw [if_neg (by omega)]
      by_cases h1 : s.data.toList = [46]
      · rw [if_pos h1, kauditref04_Name.j0, if_pos rfl, h1]; rfl
      · rw [if_neg h1, kauditref04_Name.j0]
        by_cases h2 : s.data.toList = [46, 46]
        · rw [h2]; rfl
        · rw [show (s.data.toList == [46, 46]) = false by simpa using h2, if_neg (by simp)]
          have hl := refName_loop s (by omega) s.size 0 k (by omega) (by omega)
          rw [show ((0 : Nat) : Int) = 0 from rfl] at hl
          rw [hl, List.drop_zero, nameL, decide_eq_true ⟨h0, h12, h1, h2⟩, Bool.true_and]
    · rw [if_pos (by omega), kauditref04_Name.j0, if_pos rfl, nameL, decide_eq_false (fun h => h12 h.2.1), Bool.false_and]

/-! ### Split -/
theorem piecesL_free : ∀ (l cur : List UInt8), Free l → piecesL cur l = if cur ++ l = [] then [] else [cur ++ l]
  | [], cur, _ => by rw [piecesL, List.append_nil]
  | b :: l, cur, h => by
    have hb : b ≠ 47 := h b (by simp)
    rw [piecesL, if_neg hb, piecesL_free l _ (fun x hx => h x (by simp [hx])), List.append_assoc, List.singleton_append]

theorem first_bt (s : ByteArray) (h0 : 0 < s.size) : (bt s 0 == 47) = firstSlash s := by
  have hl : 0 < s.data.toList.length := by rw [← size_len]; exact h0
  have hb := bt_get s 0 hl
  rw [show ((0 : Nat) : Int) = 0 from rfl] at hb
  rw [hb, firstSlash, List.head?_eq_getElem?, List.getElem?_eq_getElem hl, Bool.eq_iff_iff, decide_eq_true_eq, beq_iff_eq]
  constructor
  · intro h; congr 1; rw [← UInt8.toNat_inj]; exact Int.ofNat.inj h
  · intro h; rw [Option.some.inj h]; rfl
theorem last_bt (s : ByteArray) (h0 : 0 < s.size) : (bt s ((s.size - 1 : Nat) : Int) == 47) = lastSlash s := by
  have hlt : s.size - 1 < s.data.toList.length := by rw [← size_len]; omega
  rw [bt_get s _ hlt, lastSlash, List.getLast?_eq_getElem?, ← size_len, List.getElem?_eq_getElem hlt, Bool.eq_iff_iff, decide_eq_true_eq, beq_iff_eq]
  constructor
  · intro h; congr 1; rw [← UInt8.toNat_inj]; exact Int.ofNat.inj h
  · intro h; rw [Option.some.inj h]; rfl

theorem refSplit_end (s : ByteArray) (out : List ByteArray) (u : Int) (k : Nat) (hs : s.size ≤ 100000) (hk : 1 ≤ k) :
    kauditref04_Split.l0 k s out u ((s.size + 1 : Nat) : Int) = some (out, firstSlash s, lastSlash s) := by
  obtain ⟨k, rfl⟩ : ∃ j, k = j + 1 := ⟨k - 1, by omega⟩
  rw [kauditref04_Split.l0, if_neg (by omega)]
  by_cases h0 : 0 < s.size
  · have e : wrap64 ((s.size : Int) - 1) = ((s.size - 1 : Nat) : Int) := by unfold wrap64; omega
    rw [if_pos (by omega), if_pos (by omega), e, if_pos (by omega), if_pos (by omega), first_bt s h0, last_bt s h0]
  · have hl : s.data.toList = [] := List.length_eq_zero_iff.1 (by rw [← size_len]; omega)
    have hfirst : firstSlash s = false := by unfold firstSlash; rw [hl]; rfl
    have hlast : lastSlash s = false := by unfold lastSlash; rw [hl]; rfl
    rw [if_neg (by omega), hfirst, hlast]

theorem refSplit_loop (s : ByteArray) (hs : s.size ≤ 100000) : ∀ (d i from_ k : Nat) (out : List ByteArray), i + d = s.size → from_ ≤ i → out.length ≤ i → Free ((s.data.toList.drop from_).take (i - from_)) → 2 * d + 4 ≤ k →
    kauditref04_Split.l0 k s out (from_ : Int) (i : Int) = some (out ++ (piecesL ((s.data.toList.drop from_).take (i - from_)) (s.data.toList.drop i)).map ofL, firstSlash s, lastSlash s) := by
  intro d
  induction d with
  | zero =>
    intro i from_ k out hi hf ho hfree hk
    obtain rfl : i = s.size := by omega
    obtain ⟨k, rfl⟩ : ∃ j, k = j + 2 := ⟨k - 2, by omega⟩
    have e2 : wrap64 ((s.size : Int) + 1) = ((s.size + 1 : Nat) : Int) := by unfold wrap64; omega
    have hd : s.data.toList.drop s.size = [] := List.drop_eq_nil_of_le (by rw [← size_len]; omega)
    have hx : (s.extract from_ s.size).data.toList = (s.data.toList.drop from_).take (s.size - from_) := Lib.extract_data s from_ s.size
    rw [kauditref04_Split.l0, if_pos (by omega), if_pos rfl, kauditref04_Split.j1, if_pos rfl, hd]
    by_cases h : from_ < s.size
    · have hne : (s.data.toList.drop from_).take (s.size - from_) ≠ [] := by
        intro e
        have := congrArg List.length e
        rw [List.length_take, List.length_drop, ← size_len] at this
        simp at this
        omega
      rw [if_pos (by omega), if_pos (by omega), if_pos (by omega), if_pos (by omega), if_pos (by omega), e2, refSplit_end s _ _ k hs (by omega), piecesL, if_neg hne, Int.toNat_natCast, Int.toNat_natCast, List.map_singleton, ← hx, ofL_data]
    · obtain rfl : from_ = s.size := by omega
      rw [if_neg (by omega), e2, refSplit_end s _ _ k hs (by omega), Nat.sub_self, List.take_zero, piecesL, if_pos rfl, List.map_nil, List.append_nil]
  | succ d ih =>
    intro i from_ k out hi hf ho hfree hk
    obtain ⟨k, rfl⟩ : ∃ j, k = j + 2 := ⟨k - 2, by omega⟩
    have hlt : i < s.data.toList.length := by rw [← size_len]; omega
    have e2 : wrap64 ((i : Int) + 1) = ((i + 1 : Nat) : Int) := by unfold wrap64; omega
    have hb := bt_get s i hlt
    have h47 : (bt s (i : Int) = 47) ↔ s.data.toList[i]'hlt = 47 := by
      rw [hb, ← UInt8.toNat_inj]
      exact ⟨fun h => Int.ofNat.inj h, fun h => by rw [h]; rfl⟩
    have hx : (s.extract from_ i).data.toList = (s.data.toList.drop from_).take (i - from_) := Lib.extract_data s from_ i
    have hstep : (s.data.toList.drop from_).take (i + 1 - from_) = (s.data.toList.drop from_).take (i - from_) ++ [s.data.toList[i]'hlt] := by
      rw [show i + 1 - from_ = (i - from_) + 1 by omega, List.take_succ_eq_append_getElem (by rw [List.length_drop]; omega), List.getElem_drop]
      congr 3
      omega
    rw [kauditref04_Split.l0, if_pos (by omega), if_neg (by omega), if_pos (by omega), if_pos (by omega), kauditref04_Split.j1, List.drop_eq_getElem_cons hlt]
    by_cases c : bt s (i : Int) = 47
    · rw [if_pos (by simpa using c), h47.1 c, piecesL, if_pos rfl]
      have hnext : (s.data.toList.drop (i + 1)).take (i + 1 - (i + 1)) = [] := by simp
      have ih' := fun o ho' => ih (i + 1) (i + 1) k o (by omega) (Nat.le_refl _) ho' (by rw [hnext]; exact free_nil) (by omega)
      rw [hnext] at ih'
      by_cases h : from_ < i
      · have hne : (s.data.toList.drop from_).take (i - from_) ≠ [] := by
          intro e
          have := congrArg List.length e
          rw [List.length_take, List.length_drop] at this
          simp at this
          omega
        rw [if_pos (by omega), if_pos (by omega), if_pos (by omega), if_pos (by omega), if_pos (by omega), e2, ih' _ (by simp; omega), if_neg hne, Int.toNat_natCast, Int.toNat_natCast, List.map_cons, ← hx, ofL_data, List.append_assoc]
        rfl
      · obtain rfl : from_ = i := by omega
        rw [if_neg (by omega), e2, ih' _ (by omega), Nat.sub_self, List.take_zero, if_pos rfl]
    · have hne : s.data.toList[i]'hlt ≠ 47 := fun h => c (h47.2 h)
      rw [if_neg (by simpa using c), e2, ih (i + 1) from_ k out (by omega) (by omega) (by omega) ?_ (by omega), piecesL, if_neg hne, hstep]
      rw [hstep]
      intro x hx'
      rcases List.mem_append.1 hx' with hx' | hx'
      · exact hfree x hx'
      · rw [List.mem_singleton.1 hx']; exact hne

theorem refSplit_eq (s : ByteArray) (k : Nat) (hs : s.size ≤ 100000) (hk : 2 * s.size + 4 ≤ k) : kauditref04_Split.f k s = some (piecesOf s, firstSlash s, lastSlash s) := by
  have h := refSplit_loop s hs s.size 0 0 k [] (by omega) (Nat.le_refl _) (by simp) (by simp; exact free_nil) hk
  unfold kauditref04_Split.f
  rw [show ((0 : Nat) : Int) = 0 from rfl] at h
  rw [h]
  simp only [Nat.sub_self, List.take_zero, List.drop_zero, List.nil_append]
  rfl

end Go.Proofs.YtnjabpgbpgocnaaDoor.PAll

-- PAllx5
namespace Go.Proofs.YtnjabpgbpgocnaaDoor.PAll
open Go.RowKit Go.Proofs.YtnjabpgbpgocnaaDoorW.PrintWords Go.Proofs.YtnjabpgbpgocnaaDoorW.PrintLast Go.Proofs.YtnjabpgbpgocnaaDoorW.PrintMore
attribute [local go_sem] max2_int min2_int max_two min_two max_three min_three max_four min_four   -- for this text's walks alone
set_option linter.unusedVariables false
set_option linter.unusedSimpArgs false

/-! ### kauditmake_Src_Clean: function 11 -/
def kauditmake_Src_Clean.l0 : Nat → ByteArray → Int → List Int → Int → Option (ByteArray × Int)
  | 0, _, _, _, _ => none
  | k + 1, x3, x4, x1000, x1001 => if x4 > 0 then ((kauditmake_Src_Word.f x1000 x1001 (([(⟨#[97]⟩ : ByteArray), (⟨#[98]⟩ : ByteArray), (⟨#[99]⟩ : ByteArray), (⟨#[108]⟩ : ByteArray), (⟨#[109]⟩ : ByteArray)] : List ByteArray))).bind fun bt117 => (if 1 + bt117.1.size ≤ 9223372036854775807 then (if x3.size + ((⟨#[47]⟩ : ByteArray) ++ bt117.1).size ≤ 9223372036854775807 then (kauditmake_Src_Clean.l0 k (x3 ++ ((⟨#[47]⟩ : ByteArray) ++ bt117.1)) (wrap64 (x4 - 1)) x1000 bt117.2) else (none)) else (none))) else (some (x3, x1001))
def kauditmake_Src_Clean.f (k : Nat) (s0_0 : List Int) (s0_1 : Int) : Option (ByteArray × Int) := (kauditmake_Src_Pick.f s0_0 s0_1 (([1, 1, 2, 2, 3] : List Int))).bind fun bt112 => (kauditmake_Src_Clean.l0 k (⟨#[]⟩ : ByteArray) bt112.1 s0_0 bt112.2)
theorem kauditmake_Src_Clean.mono_l : ∀ k, (∀ y0 y1 y2 y3, LeO (kauditmake_Src_Clean.l0 k y0 y1 y2 y3) (kauditmake_Src_Clean.l0 (k + 1) y0 y1 y2 y3))
  | 0 => fun _ _ _ _ r h => by simp [kauditmake_Src_Clean.l0] at h
  | k + 1 => by
    have ih0 := kauditmake_Src_Clean.mono_l k
    · intro y0 y1 y2 y3
      unfold kauditmake_Src_Clean.l0
      repeat' first
      | (with_reducible exact ih0 _ _ _ _)
      | (with_reducible exact LeO.refl _)
      | (with_reducible exact LeO.none _)
      | (with_reducible refine LeO.ite ?_ ?_)
      | (with_reducible refine LeO.bind ?_ (fun _ => ?_))
      | exact ih0 _ _ _ _
      | exact LeO.none _
      | refine LeO.ite ?_ ?_
      | refine LeO.bind ?_ (fun _ => ?_)
theorem kauditmake_Src_Clean.mono : ∀ a0 a1 k, LeO (kauditmake_Src_Clean.f k a0 a1) (kauditmake_Src_Clean.f (k + 1) a0 a1) := by
  intro a0 a1 k
  have ih0 := kauditmake_Src_Clean.mono_l k
  unfold kauditmake_Src_Clean.f
  repeat' first
      | (with_reducible exact ih0 _ _ _ _)
      | (with_reducible exact LeO.refl _)
      | (with_reducible exact LeO.none _)
      | (with_reducible refine LeO.ite ?_ ?_)
      | (with_reducible refine LeO.bind ?_ (fun _ => ?_))
      | exact ih0 _ _ _ _
      | exact LeO.none _
      | refine LeO.ite ?_ ?_
      | refine LeO.bind ?_ (fun _ => ?_)
set_option maxHeartbeats 8000000 in
set_option maxRecDepth 100000 in
theorem kauditmake_Src_Clean.calls (k : Nat) (g : Nat) (s0_0 : List Int) (s0_1 : Int) (r1 : ByteArray) (r2 : Int) (w0 w : World) (hI : IsS39 w0 w g s0_0 s0_1) (hB : Below w0.heap.size w0 w) (h : kauditmake_Src_Clean.f k s0_0 s0_1 = some (r1, r2)) :
    Calls Tryd.prog 11 #[.pointer (some ⟨g, 0, none⟩)] w fun e w' => e = .returned (.string r1) ∧ IsS39 w0 w' g s0_0 r2 ∧ Below w0.heap.size w0 w' ∧ KeepBut w w' g none := by
  have HI0 := Aside0.mk hI
  have HK := Aside0.mk (KeepBut.refl w g none)
  have HL := Aside0.mk hB.size
  clear hI
  have HW0 := Aside0.mk hB.size
  have HB := Aside0.mk hB
  clear hB
  have H : ((kauditmake_Src_Pick.f s0_0 s0_1 (([1, 1, 2, 2, 3] : List Int))).bind fun bt112 => (kauditmake_Src_Clean.l0 k (⟨#[]⟩ : ByteArray) bt112.1 s0_0 bt112.2)) = some (r1, r2) := h
  clear h
  obtain ⟨y109, hy109⟩ : ∃ y_ : List Int, y_ = (([1, 1, 2, 2, 3] : List Int)) := ⟨_, rfl⟩
  replace H : ((kauditmake_Src_Pick.f s0_0 s0_1 y109).bind fun bt112 => (kauditmake_Src_Clean.l0 k (⟨#[]⟩ : ByteArray) bt112.1 s0_0 bt112.2)) = some (r1, r2) := by first | (rw [hy109]; with_reducible exact H) | (have H2_ := (Option.bind_some _ _).symm.trans H; rw [hy109]; with_reducible exact H2_) | (have H2_ := (Option.bind_some _ _).symm.trans H; with_reducible exact H2_) | with_reducible exact H | (rw [hy109]; exact H) | exact H
  have Ny109 := Aside0.mk hy109
  clear hy109
  replace H := Option.bind_eq_some_iff.mp H
  obtain ⟨⟨t112, t113⟩, A20, H⟩ := H
  replace H : (kauditmake_Src_Clean.l0 k (⟨#[]⟩ : ByteArray) t112 s0_0 t113) = some (r1, r2) := H
  have A2 := Aside0.mk A20
  clear A20
  have H' := Aside0.mk H
  clear H
  go_enter Tryd.func11, Tryd.ntmps11
  go_wp2_with (first | ((with_reducible refine gate_dst (N := 6) rfl ?_); refine Kd.R_lit (Kd.int .i64) _ 3 ?hg (N := 6) ?hd (xs := ([1, 1, 2, 2, 3] : List Int)) (inner := [.int .i64 1, .int .i64 1, .int .i64 2, .int .i64 2, .int .i64 3]) (ok := fun _ => True) (okp := fun _ => True) ?hr ?hp (fun _ hk => hk) trivial (Below.refl _ _) (Nat.le_refl _) (by simp) ?_; (case hd => rfl); (case hg => rfl); (case hr => first | (go_simp; done) | (go_simp; rfl)); (case hp => exact (Reps.one (show Kd.M (Kd.int .i64) _ _ _ 1 [.int .i64 1] from rfl) (Reps.one (show Kd.M (Kd.int .i64) _ _ _ 1 [.int .i64 1] from rfl) (Reps.one (show Kd.M (Kd.int .i64) _ _ _ 2 [.int .i64 2] from rfl) (Reps.one (show Kd.M (Kd.int .i64) _ _ _ 2 [.int .i64 2] from rfl) (Reps.one (show Kd.M (Kd.int .i64) _ _ _ 3 [.int .i64 3] from rfl) (Reps.none _ _))))))); intro v110 w3 ho4 hb hg_ hnew_; clear hg_ hnew_; (first | rw [← Ny109.out] at ho4 | (simp only [Int.reduceToNat] at ho4; rw [← Ny109.out] at ho4)); have n0_ := Aside0.mk (Kd.R_lower ho4 (keep_size (w := w) (g := g) (row := none) (by repeat (first | (with_reducible first | exact HK.out | apply KeepBut.set_ | apply keep_drewN | apply keep_drew | apply keep_alloc) | exact HK.out)))); have n1_ := Aside0.mk (IsS39.below (by repeat (first | (with_reducible first | exact HI0.out | apply IsS39.alloc | apply IsS39.drewN | apply IsS39.drew | apply IsS39.set_1) | exact HI0.out)) hb); have n2_ := Aside0.mk (KeepBut.trans (by repeat (first | (with_reducible first | exact HK.out | apply KeepBut.set_ | apply keep_drewN | apply keep_drew | apply keep_alloc) | exact HK.out)) (KeepBut.of_below hb g none) (.inl rfl)); have n3_ := Aside0.mk (below_step (by repeat (first | (with_reducible first | exact HB.out | apply below_alloc | apply pw_below_drewN | apply below_drew1 | refine below_set ?_ (IsS39.ge HI0.out)) | exact HB.out)) hb); clear HI0; clear HK; clear HB; have HO111 := n0_; have HI0 := n1_; have HK := n2_; have HB := n3_; clear n0_ n1_ n2_ n3_; clear hb ho4; obtain ⟨Ao5, co5, eo5⟩ := Kd.R_slice HO111.out; subst eo5) | ((with_reducible refine gate_callee (f := 25) rfl ?_); refine goesL_ (some 7) rfl rfl Tryd.func25 (by kernel_rfl) rfl #[.pointer (some ⟨g, 0, none⟩), .slice Ao5 y109.length co5] rfl (by (try simp only [List.map_toArray, List.map_cons, List.map_nil]); first | done | rfl | (simp only [List.length_drop, List.length_take]; rfl)) ?_; (with_reducible refine (kauditmake_Src_Pick.calls g s0_0 s0_1 _ _ y109 t112 t113 w0 _ ?side1 ?side2 ?side3 ?side4 ?side5 A2.out).mono ?_); (case side1 => repeat (first | (with_reducible first | exact HI0.out | apply IsS39.alloc | apply IsS39.drewN | apply IsS39.drew | apply IsS39.set_1) | exact HI0.out)); (case side2 => repeat (first | (with_reducible first | exact HB.out | apply below_alloc | apply pw_below_drewN | apply below_drew1 | refine below_set ?_ (IsS39.ge HI0.out)) | exact HB.out)); (case side3 => repeat (first | exact (Kd.R_reads' HO111.out).2.2 | (with_reducible refine Kd.C_alloc ?_ _) | (with_reducible refine Kd.C_drewN ?_ _) | (with_reducible refine Kd.C_drew ?_))); (case side4 => exact (Kd.R_reads' HO111.out).2.1); (case side5 => exact far_slice (IsS39.own_ne HI0.out HO111.out (by decide))); rintro e w6 ⟨rfl, hi, hb, hk⟩; refine ⟨_, rfl, ?_⟩; have n0_ := Aside0.mk (Kd.R_mono (Kd.R_keep (IsS39.apart (show IsS39 w0 _ g s0_0 s0_1 from by repeat (first | (with_reducible first | exact HI0.out | apply IsS39.alloc | apply IsS39.drewN | apply IsS39.drew | apply IsS39.set_1) | exact HI0.out)) (by (with_reducible repeat (first | apply Kd.R_alloc | apply Kd.R_drewN | apply Kd.R_drew)); exact HO111.out) (by decide)) hk (fun _ h => h.2)) (fun _ h => h.1)); have n1_ := Aside0.mk (KeepBut.trans (by repeat (first | (with_reducible first | exact HK.out | apply KeepBut.set_ | apply keep_drewN | apply keep_drew | apply keep_alloc) | exact HK.out)) hk (.inl rfl)); have n2_ := Aside0.mk (hb); have n3_ := Aside0.mk (hi); clear HO111; clear HK; clear HB; clear HI0; have HO111 := n0_; have HK := n1_; have HB := n2_; have HI0 := n3_; clear n0_ n1_ n2_ n3_; (try clear hb); (try clear hb2); (try clear hk); (try clear hi)))
  (first | go_loopg [3, 4] k (fun kq v3 v4 w' => ∃ (x3_1 : ByteArray) (x4_1 : Int) (x1001_1 : Int), v3 = .string x3_1 ∧ v4 = .int .i64 x4_1 ∧ Aside0 (kauditmake_Src_Clean.l0 kq x3_1 x4_1 s0_0 x1001_1 = some (r1, r2)) ∧ Aside0 (kq ≤ k) ∧ Aside0 (IsS39 w0 w' g s0_0 x1001_1) ∧ Aside0 (KeepBut w w' g none) ∧ Aside0 (Below w0.heap.size w0 w')) | (go_simp; go_loopg [3, 4] k (fun kq v3 v4 w' => ∃ (x3_1 : ByteArray) (x4_1 : Int) (x1001_1 : Int), v3 = .string x3_1 ∧ v4 = .int .i64 x4_1 ∧ Aside0 (kauditmake_Src_Clean.l0 kq x3_1 x4_1 s0_0 x1001_1 = some (r1, r2)) ∧ Aside0 (kq ≤ k) ∧ Aside0 (IsS39 w0 w' g s0_0 x1001_1) ∧ Aside0 (KeepBut w w' g none) ∧ Aside0 (Below w0.heap.size w0 w'))))
  case atStart => exact ⟨((⟨#[]⟩ : ByteArray)), (t112), (t113), (by first | rfl | (simp; done) | (simp [*]; done)), (by first | rfl | (simp; done) | (simp [*]; done)), H', ⟨Nat.le_refl _⟩, ⟨by repeat (first | (with_reducible first | exact HI0.out | apply IsS39.alloc | apply IsS39.drewN | apply IsS39.drew | apply IsS39.set_1) | exact HI0.out)⟩, ⟨by repeat (first | (with_reducible first | exact HK.out | apply KeepBut.set_ | apply keep_drewN | apply keep_drew | apply keep_alloc) | exact HK.out)⟩, ⟨by repeat (first | (with_reducible first | exact HB.out | apply below_alloc | apply pw_below_drewN | apply below_drew1 | refine below_set ?_ (IsS39.ge HI0.out)) | exact HB.out)⟩⟩
  case round =>
    clear H'
    try clear c1
    try clear c2
    try clear p2
    obtain ⟨x3_1, x4_1, x1001_1, rfl, rfl, HA, HK1, HI0, HK, HB⟩ := hrel
    cases gk with
    | zero => exact absurd HA.out (by simp [kauditmake_Src_Clean.l0])
    | succ k1 =>
      have H := HA.out
      clear HA
      simp only [kauditmake_Src_Clean.l0] at H
      by_cases c7 : x4_1 > 0
      · rw [if_pos c7] at H
        have c7b0 : decide (0 < x4_1) = true := decide_eq_true c7
        clear c7
        obtain ⟨y114, hy114⟩ : ∃ y_ : List ByteArray, y_ = (([(⟨#[97]⟩ : ByteArray), (⟨#[98]⟩ : ByteArray), (⟨#[99]⟩ : ByteArray), (⟨#[108]⟩ : ByteArray), (⟨#[109]⟩ : ByteArray)] : List ByteArray)) := ⟨_, rfl⟩
        replace H : ((kauditmake_Src_Word.f s0_0 x1001_1 y114).bind fun bt117 => (if 1 + bt117.1.size ≤ 9223372036854775807 then (if x3_1.size + ((⟨#[47]⟩ : ByteArray) ++ bt117.1).size ≤ 9223372036854775807 then (kauditmake_Src_Clean.l0 k1 (x3_1 ++ ((⟨#[47]⟩ : ByteArray) ++ bt117.1)) (wrap64 (x4_1 - 1)) s0_0 bt117.2) else (none)) else (none))) = some (r1, r2) := by first | (rw [hy114]; with_reducible exact H) | (have H2_ := (Option.bind_some _ _).symm.trans H; rw [hy114]; with_reducible exact H2_) | (have H2_ := (Option.bind_some _ _).symm.trans H; with_reducible exact H2_) | with_reducible exact H | (rw [hy114]; exact H) | exact H
        have Ny114 := Aside0.mk hy114
        clear hy114
        replace H := Option.bind_eq_some_iff.mp H
        obtain ⟨⟨t117, t118⟩, A80, H⟩ := H
        replace H : (if 1 + t117.size ≤ 9223372036854775807 then (if x3_1.size + ((⟨#[47]⟩ : ByteArray) ++ t117).size ≤ 9223372036854775807 then (kauditmake_Src_Clean.l0 k1 (x3_1 ++ ((⟨#[47]⟩ : ByteArray) ++ t117)) (wrap64 (x4_1 - 1)) s0_0 t118) else (none)) else (none)) = some (r1, r2) := H
        have A8 := Aside0.mk A80
        clear A80
        by_cases c9 : 1 + t117.size ≤ 9223372036854775807
        · rw [if_pos c9] at H
          have c9b0 := eq_true c9
          have c9b1 : decide (1 + t117.size ≤ 9223372036854775807) = true := decide_eq_true c9
          try have c9b2 : (9223372036854775807 < 1 + t117.size) = False := eq_false (Nat.not_lt.2 c9)
          by_cases c10 : x3_1.size + ((⟨#[47]⟩ : ByteArray) ++ t117).size ≤ 9223372036854775807
          · rw [if_pos c10] at H
            have c10b0 := eq_true c10
            have c10b1 : decide (x3_1.size + ((⟨#[47]⟩ : ByteArray) ++ t117).size ≤ 9223372036854775807) = true := decide_eq_true c10
            try have c10b2 : (9223372036854775807 < x3_1.size + ((⟨#[47]⟩ : ByteArray) ++ t117).size) = False := eq_false (Nat.not_lt.2 c10)
            have H' := Aside0.mk H
            clear H
            go_wp2_with (first | ((with_reducible refine gate_dst (N := 14) rfl ?_); refine Kd.R_lit Kd.string _ 9 ?hg (N := 14) ?hd (xs := ([(⟨#[97]⟩ : ByteArray), (⟨#[98]⟩ : ByteArray), (⟨#[99]⟩ : ByteArray), (⟨#[108]⟩ : ByteArray), (⟨#[109]⟩ : ByteArray)] : List ByteArray)) (inner := [.string (⟨#[97]⟩ : ByteArray), .string (⟨#[98]⟩ : ByteArray), .string (⟨#[99]⟩ : ByteArray), .string (⟨#[108]⟩ : ByteArray), .string (⟨#[109]⟩ : ByteArray)]) (ok := fun _ => True) (okp := fun _ => True) ?hr ?hp (fun _ hk => hk) trivial (Below.refl _ _) (Nat.le_refl _) (by simp) ?_; (case hd => rfl); (case hg => rfl); (case hr => first | (go_simp; done) | (go_simp; rfl)); (case hp => exact (Reps.one (show Kd.M Kd.string _ _ _ (⟨#[97]⟩ : ByteArray) [.string (⟨#[97]⟩ : ByteArray)] from rfl) (Reps.one (show Kd.M Kd.string _ _ _ (⟨#[98]⟩ : ByteArray) [.string (⟨#[98]⟩ : ByteArray)] from rfl) (Reps.one (show Kd.M Kd.string _ _ _ (⟨#[99]⟩ : ByteArray) [.string (⟨#[99]⟩ : ByteArray)] from rfl) (Reps.one (show Kd.M Kd.string _ _ _ (⟨#[108]⟩ : ByteArray) [.string (⟨#[108]⟩ : ByteArray)] from rfl) (Reps.one (show Kd.M Kd.string _ _ _ (⟨#[109]⟩ : ByteArray) [.string (⟨#[109]⟩ : ByteArray)] from rfl) (Reps.none _ _))))))); intro v115 w11 ho12 hb hg_ hnew_; clear hg_ hnew_; (first | rw [← Ny114.out] at ho12 | (simp only [Int.reduceToNat] at ho12; rw [← Ny114.out] at ho12)); have n0_ := Aside0.mk (Kd.R_lower ho12 (keep_size (w := w) (g := g) (row := none) (by repeat (first | (with_reducible first | exact HK.out | apply KeepBut.set_ | apply keep_drewN | apply keep_drew | apply keep_alloc) | exact HK.out)))); have n1_ := Aside0.mk (IsS39.below (by repeat (first | (with_reducible first | exact HI0.out | apply IsS39.alloc | apply IsS39.drewN | apply IsS39.drew | apply IsS39.set_1) | exact HI0.out)) hb); have n2_ := Aside0.mk (KeepBut.trans (by repeat (first | (with_reducible first | exact HK.out | apply KeepBut.set_ | apply keep_drewN | apply keep_drew | apply keep_alloc) | exact HK.out)) (KeepBut.of_below hb g none) (.inl rfl)); have n3_ := Aside0.mk (below_step (by repeat (first | (with_reducible first | exact HB.out | apply below_alloc | apply pw_below_drewN | apply below_drew1 | refine below_set ?_ (IsS39.ge HI0.out)) | exact HB.out)) hb); clear HI0; clear HK; clear HB; have HO116 := n0_; have HI0 := n1_; have HK := n2_; have HB := n3_; clear n0_ n1_ n2_ n3_; clear hb ho12; obtain ⟨Ao13, co13, eo13⟩ := Kd.R_slice HO116.out; subst eo13) | ((with_reducible refine gate_callee (f := 26) rfl ?_); refine goesL_ (some 15) rfl rfl Tryd.func26 (by kernel_rfl) rfl #[.pointer (some ⟨g, 0, none⟩), .slice Ao13 y114.length co13] rfl (by (try simp only [List.map_toArray, List.map_cons, List.map_nil]); first | done | rfl | (simp only [List.length_drop, List.length_take]; rfl)) ?_; (with_reducible refine (kauditmake_Src_Word.calls g s0_0 x1001_1 _ _ y114 t117 t118 w0 _ ?side1 ?side2 ?side3 ?side4 ?side5 A8.out).mono ?_); (case side1 => repeat (first | (with_reducible first | exact HI0.out | apply IsS39.alloc | apply IsS39.drewN | apply IsS39.drew | apply IsS39.set_1) | exact HI0.out)); (case side2 => repeat (first | (with_reducible first | exact HB.out | apply below_alloc | apply pw_below_drewN | apply below_drew1 | refine below_set ?_ (IsS39.ge HI0.out)) | exact HB.out)); (case side3 => repeat (first | exact (Kd.R_reads' HO116.out).2.2 | (with_reducible refine Kd.C_alloc ?_ _) | (with_reducible refine Kd.C_drewN ?_ _) | (with_reducible refine Kd.C_drew ?_))); (case side4 => exact (Kd.R_reads' HO116.out).2.1); (case side5 => exact far_slice (IsS39.own_ne HI0.out HO116.out (by decide))); rintro e w14 ⟨rfl, hi, hb, hk⟩; refine ⟨_, rfl, ?_⟩; have n0_ := Aside0.mk (Kd.R_mono (Kd.R_keep (IsS39.apart (show IsS39 w0 _ g s0_0 x1001_1 from by repeat (first | (with_reducible first | exact HI0.out | apply IsS39.alloc | apply IsS39.drewN | apply IsS39.drew | apply IsS39.set_1) | exact HI0.out)) (by (with_reducible repeat (first | apply Kd.R_alloc | apply Kd.R_drewN | apply Kd.R_drew)); exact HO116.out) (by decide)) hk (fun _ h => h.2)) (fun _ h => h.1)); have n1_ := Aside0.mk (KeepBut.trans (by repeat (first | (with_reducible first | exact HK.out | apply KeepBut.set_ | apply keep_drewN | apply keep_drew | apply keep_alloc) | exact HK.out)) hk (.inl rfl)); have n2_ := Aside0.mk (hb); have n3_ := Aside0.mk (hi); clear HO116; clear HK; clear HB; clear HI0; have HO116 := n0_; have HK := n1_; have HB := n2_; have HI0 := n3_; clear n0_ n1_ n2_ n3_; (try clear hb); (try clear hb2); (try clear hk); (try clear hi)))
            go_roundg k1
            case measure => have := HK1.out; omega
            case rel => exact ⟨(x3_1 ++ ((⟨#[47]⟩ : ByteArray) ++ t117)), (wrap64 (x4_1 - 1)), (t118), (by first | rfl | (simp; done) | (simp [*]; done)), (by first | rfl | (simp; done) | (simp [*]; done)), H', ⟨by have := HK1.out; omega⟩, ⟨by repeat (first | (with_reducible first | exact HI0.out | apply IsS39.alloc | apply IsS39.drewN | apply IsS39.drew | apply IsS39.set_1) | exact HI0.out)⟩, ⟨by repeat (first | (with_reducible first | exact HK.out | apply KeepBut.set_ | apply keep_drewN | apply keep_drew | apply keep_alloc) | exact HK.out)⟩, ⟨by repeat (first | (with_reducible first | exact HB.out | apply below_alloc | apply pw_below_drewN | apply below_drew1 | refine below_set ?_ (IsS39.ge HI0.out)) | exact HB.out)⟩⟩
          · rw [if_neg c10] at H
            exact absurd H (by simp)
        · rw [if_neg c9] at H
          exact absurd H (by simp)
      · rw [if_neg c7] at H
        have c7b0 : decide (0 < x4_1) = false := decide_eq_false c7
        clear c7
        simp only [Option.some.injEq, Prod.mk.injEq] at H
        obtain ⟨rfl, rfl⟩ := H
        go_wp2
        go_ret
        exact ⟨by first | rfl | (simp [errW_none, errW_some] <;> rfl) | (simp [*, errW_none, errW_some] <;> rfl), by repeat (first | (with_reducible first | exact HI0.out | apply IsS39.alloc | apply IsS39.drewN | apply IsS39.drew | apply IsS39.set_1) | exact HI0.out), by repeat (first | (with_reducible first | exact HB.out | apply below_alloc | apply pw_below_drewN | apply below_drew1 | refine below_set ?_ (IsS39.ge HI0.out)) | exact HB.out), by repeat (first | (with_reducible first | exact HK.out | apply KeepBut.set_ | apply keep_drewN | apply keep_drew | apply keep_alloc) | exact HK.out)⟩

end Go.Proofs.YtnjabpgbpgocnaaDoor.PAll
