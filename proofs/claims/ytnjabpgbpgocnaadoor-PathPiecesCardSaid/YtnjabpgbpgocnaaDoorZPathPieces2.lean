/- For PathPieces: contracts of the functions that it reaches and plain facts, joined out of 3 texts by a program (merge_claim.py): PAllx5, PureD, PurePathPieces. Each text's own conditions stand at its head below. -/
import Derived.Test.YtnjabpgbpgocnaaDoorZPathPieces1

-- PAllx5
namespace Go.Proofs.YtnjabpgbpgocnaaDoor.PAll
open Go.RowKit Go.Proofs.YtnjabpgbpgocnaaDoorW.PrintWords Go.Proofs.YtnjabpgbpgocnaaDoorW.PrintLast Go.Proofs.YtnjabpgbpgocnaaDoorW.PrintMore
attribute [local go_sem] max2_int min2_int max_two min_two max_three min_three max_four min_four   -- for this text's walks alone
set_option linter.unusedVariables false
set_option linter.unusedSimpArgs false

/-! ### kauditmake_Src_Clean: function 11 -/
def kauditmake_Src_Clean.l0 : Nat → ByteArray → Int → List Int → Int → Option (ByteArray × Int)
  | 0, _, _, _, _ => none
  | k + 1, x3, x4, x1000, x1001 => if x4 > 0 then ((kauditmake_Src_Word.f x1000 x1001 (([(⟨#[97]⟩ : ByteArray), (⟨#[98]⟩ : ByteArray), (⟨#[99]⟩ : ByteArray), (⟨#[108]⟩ : ByteArray), (⟨#[109]⟩ : ByteArray)] : List ByteArray))).bind fun bt117 => (if 1 + bt117.1.size ≤ 9223372036854775807 then (if x3.size + ((⟨#[47]⟩ : ByteArray) ++ bt117.1).size ≤ 9223372036854775807 then (kauditmake_Src_Clean.l0 k (x3 ++ ((⟨#[47]⟩ : ByteArray) ++ bt117.1)) (wrap64 (x4 - 1)) x1000 bt117.2) else (none)) else (none))) else (some (x3, x1001))
def kauditmake_Src_Clean.f (k : Nat) (s0_0 : List Int) (s0_1 : Int) : Option (ByteArray × Int) := (kauditmake_Src_Pick.f s0_0 s0_1 (([1, 1, 2, 2, 3] : List Int))).bind fun bt112 => (kauditmake_Src_Clean.l0 k (⟨#[]⟩ : ByteArray) bt112.1 s0_0 bt112.2)
theorem kauditmake_Src_Clean.mono_l : ∀ k, (∀ y0 y1 y2 y3, LeO (kauditmake_Src_Clean.l0 k y0 y1 y2 y3) (kauditmake_Src_Clean.l0 (k + 1) y0 y1 y2 y3))
  | 0 => fun _ _ _ _ r h => by simp [kauditmake_Src_Clean.l0] at h
  | k + 1 => by
    have ih0 := kauditmake_Src_Clean.mono_l k
    · intro y0 y1 y2 y3
      unfold kauditmake_Src_Clean.l0
      repeat' first
      | (with_reducible exact ih0 _ _ _ _)
      | (with_reducible exact LeO.refl _)
      | (with_reducible exact LeO.none _)
      | (with_reducible refine LeO.ite ?_ ?_)
      | (with_reducible refine LeO.bind ?_ (fun _ => ?_))
      | exact ih0 _ _ _ _
      | exact LeO.none _
      | refine LeO.ite ?_ ?_
      | refine LeO.bind ?_ (fun _ => ?_)
theorem kauditmake_Src_Clean.mono : ∀ a0 a1 k, LeO (kauditmake_Src_Clean.f k a0 a1) (kauditmake_Src_Clean.f (k + 1) a0 a1) := by
  intro a0 a1 k
  have ih0 := kauditmake_Src_Clean.mono_l k
  unfold kauditmake_Src_Clean.f
  repeat' first
      | (with_reducible exact ih0 _ _ _ _)
      | (with_reducible exact LeO.refl _)
      | (with_reducible exact LeO.none _)
      | (with_reducible refine LeO.ite ?_ ?_)
      | (with_reducible refine LeO.bind ?_ (fun _ => ?_))
      | exact ih0 _ _ _ _
      | exact LeO.none _
      | refine LeO.ite ?_ ?_
      | refine LeO.bind ?_ (fun _ => ?_)
set_option maxHeartbeats 8000000 in
set_option maxRecDepth 100000 in
theorem kauditmake_Src_Clean.calls (k : Nat) (g : Nat) (s0_0 : List Int) (s0_1 : Int) (r1 : ByteArray) (r2 : Int) (w0 w : World) (hI : IsS39 w0 w g s0_0 s0_1) (hB : Below w0.heap.size w0 w) (h : kauditmake_Src_Clean.f k s0_0 s0_1 = some (r1, r2)) :
    Calls Tryd.prog 11 #[.pointer (some ⟨g, 0, none⟩)] w fun e w' => e = .returned (.string r1) ∧ IsS39 w0 w' g s0_0 r2 ∧ Below w0.heap.size w0 w' ∧ KeepBut w w' g none := by
  have HI0 := Aside0.mk hI
  have HK := Aside0.mk (KeepBut.refl w g none)
  have HL := Aside0.mk hB.size
  clear hI
  have HW0 := Aside0.mk hB.size
  have HB := Aside0.mk hB
  clear hB
  have H : ((kauditmake_Src_Pick.f s0_0 s0_1 (([1, 1, 2, 2, 3] : List Int))).bind fun bt112 => (kauditmake_Src_Clean.l0 k (⟨#[]⟩ : ByteArray) bt112.1 s0_0 bt112.2)) = some (r1, r2) := h
  clear h
  obtain ⟨y109, hy109⟩ : ∃ y_ : List Int, y_ = (([1, 1, 2, 2, 3] : List Int)) := ⟨_, rfl⟩
  replace H : ((kauditmake_Src_Pick.f s0_0 s0_1 y109).bind fun bt112 => (kauditmake_Src_Clean.l0 k (⟨#[]⟩ : ByteArray) bt112.1 s0_0 bt112.2)) = some (r1, r2) := by first | (rw [hy109]; with_reducible exact H) | (have H2_ := (Option.bind_some _ _).symm.trans H; rw [hy109]; with_reducible exact H2_) | (have H2_ := (Option.bind_some _ _).symm.trans H; with_reducible exact H2_) | with_reducible exact H | (rw [hy109]; exact H) | exact H
  have Ny109 := Aside0.mk hy109
  clear hy109
  replace H := Option.bind_eq_some_iff.mp H
  obtain ⟨⟨t112, t113⟩, A20, H⟩ := H
  replace H : (kauditmake_Src_Clean.l0 k (⟨#[]⟩ : ByteArray) t112 s0_0 t113) = some (r1, r2) := H
  have A2 := Aside0.mk A20
  clear A20
  have H' := Aside0.mk H
  clear H
  go_enter Tryd.func11, Tryd.ntmps11
  go_wp2_with (first | ((with_reducible refine gate_dst (N := 6) rfl ?_); refine Kd.R_lit (Kd.int .i64) _ 3 ?hg (N := 6) ?hd (xs := ([1, 1, 2, 2, 3] : List Int)) (inner := [.int .i64 1, .int .i64 1, .int .i64 2, .int .i64 2, .int .i64 3]) (ok := fun _ => True) (okp := fun _ => True) ?hr ?hp (fun _ hk => hk) trivial (Below.refl _ _) (Nat.le_refl _) (by simp) ?_; (case hd => rfl); (case hg => rfl); (case hr => first | (go_simp; done) | (go_simp; rfl)); (case hp => exact (Reps.one (show Kd.M (Kd.int .i64) _ _ _ 1 [.int .i64 1] from rfl) (Reps.one (show Kd.M (Kd.int .i64) _ _ _ 1 [.int .i64 1] from rfl) (Reps.one (show Kd.M (Kd.int .i64) _ _ _ 2 [.int .i64 2] from rfl) (Reps.one (show Kd.M (Kd.int .i64) _ _ _ 2 [.int .i64 2] from rfl) (Reps.one (show Kd.M (Kd.int .i64) _ _ _ 3 [.int .i64 3] from rfl) (Reps.none _ _))))))); intro v110 w3 ho4 hb hg_ hnew_; clear hg_ hnew_; (first | rw [← Ny109.out] at ho4 | (simp only [Int.reduceToNat] at ho4; rw [← Ny109.out] at ho4)); have n0_ := Aside0.mk (Kd.R_lower ho4 (keep_size (w := w) (g := g) (row := none) (by repeat (first | (with_reducible first | exact HK.out | apply KeepBut.set_ | apply keep_drewN | apply keep_drew | apply keep_alloc) | exact HK.out)))); have n1_ := Aside0.mk (IsS39.below (by repeat (first | (with_reducible first | exact HI0.out | apply IsS39.alloc | apply IsS39.drewN | apply IsS39.drew | apply IsS39.set_1) | exact HI0.out)) hb); have n2_ := Aside0.mk (KeepBut.trans (by repeat (first | (with_reducible first | exact HK.out | apply KeepBut.set_ | apply keep_drewN | apply keep_drew | apply keep_alloc) | exact HK.out)) (KeepBut.of_below hb g none) (.inl rfl)); have n3_ := Aside0.mk (below_step (by repeat (first | (with_reducible first | exact HB.out | apply below_alloc | apply pw_below_drewN | apply below_drew1 | refine below_set ?_ (IsS39.ge HI0.out)) | exact HB.out)) hb); clear HI0; clear HK; clear HB; have HO111 := n0_; have HI0 := n1_; have HK := n2_; have HB := n3_; clear n0_ n1_ n2_ n3_; clear hb ho4; obtain ⟨Ao5, co5, eo5⟩ := Kd.R_slice HO111.out; subst eo5) | ((with_reducible refine gate_callee (f := 25) rfl ?_); refine goesL_ (some 7) rfl rfl Tryd.func25 (by kernel_rfl) rfl #[.pointer (some ⟨g, 0, none⟩), .slice Ao5 y109.length co5] rfl (by (try simp only [List.map_toArray, List.map_cons, List.map_nil]); first | done | rfl | (simp only [List.length_drop, List.length_take]; rfl)) ?_; (with_reducible refine (kauditmake_Src_Pick.calls g s0_0 s0_1 _ _ y109 t112 t113 w0 _ ?side1 ?side2 ?side3 ?side4 ?side5 A2.out).mono ?_); (case side1 => repeat (first | (with_reducible first | exact HI0.out | apply IsS39.alloc | apply IsS39.drewN | apply IsS39.drew | apply IsS39.set_1) | exact HI0.out)); (case side2 => repeat (first | (with_reducible first | exact HB.out | apply below_alloc | apply pw_below_drewN | apply below_drew1 | refine below_set ?_ (IsS39.ge HI0.out)) | exact HB.out)); (case side3 => repeat (first | exact (Kd.R_reads' HO111.out).2.2 | (with_reducible refine Kd.C_alloc ?_ _) | (with_reducible refine Kd.C_drewN ?_ _) | (with_reducible refine Kd.C_drew ?_))); (case side4 => exact (Kd.R_reads' HO111.out).2.1); (case side5 => exact far_slice (IsS39.own_ne HI0.out HO111.out (by decide))); rintro e w6 ⟨rfl, hi, hb, hk⟩; refine ⟨_, rfl, ?_⟩; have n0_ := Aside0.mk (Kd.R_mono (Kd.R_keep (IsS39.apart (show IsS39 w0 _ g s0_0 s0_1 from by repeat (first | (with_reducible first | exact HI0.out | apply IsS39.alloc | apply IsS39.drewN | apply IsS39.drew | apply IsS39.set_1) | exact HI0.out)) (by (with_reducible repeat (first | apply Kd.R_alloc | apply Kd.R_drewN | apply Kd.R_drew)); exact HO111.out) (by decide)) hk (fun _ h => h.2)) (fun _ h => h.1)); have n1_ := Aside0.mk (KeepBut.trans (by repeat (first | (with_reducible first | exact HK.out | apply KeepBut.set_ | apply keep_drewN | apply keep_drew | apply keep_alloc) | exact HK.out)) hk (.inl rfl)); have n2_ := Aside0.mk (hb); have n3_ := Aside0.mk (hi); clear HO111; clear HK; clear HB; clear HI0; have HO111 := n0_; have HK := n1_; have HB := n2_; have HI0 := n3_; clear n0_ n1_ n2_ n3_; (try clear hb); (try clear hb2); (try clear hk); (try clear hi)))
  (first | go_loopg [3, 4] k (fun kq v3 v4 w' => ∃ (x3_1 : ByteArray) (x4_1 : Int) (x1001_1 : Int), v3 = .string x3_1 ∧ v4 = .int .i64 x4_1 ∧ Aside0 (kauditmake_Src_Clean.l0 kq x3_1 x4_1 s0_0 x1001_1 = some (r1, r2)) ∧ Aside0 (kq ≤ k) ∧ Aside0 (IsS39 w0 w' g s0_0 x1001_1) ∧ Aside0 (KeepBut w w' g none) ∧ Aside0 (Below w0.heap.size w0 w')) | (go_simp; go_loopg [3, 4] k (fun kq v3 v4 w' => ∃ (x3_1 : ByteArray) (x4_1 : Int) (x1001_1 : Int), v3 = .string x3_1 ∧ v4 = .int .i64 x4_1 ∧ Aside0 (kauditmake_Src_Clean.l0 kq x3_1 x4_1 s0_0 x1001_1 = some (r1, r2)) ∧ Aside0 (kq ≤ k) ∧ Aside0 (IsS39 w0 w' g s0_0 x1001_1) ∧ Aside0 (KeepBut w w' g none) ∧ Aside0 (Below w0.heap.size w0 w'))))
  case atStart => exact ⟨((⟨#[]⟩ : ByteArray)), (t112), (t113), (by first | rfl | (simp; done) | (simp [*]; done)), (by first | rfl | (simp; done) | (simp [*]; done)), H', ⟨Nat.le_refl _⟩, ⟨by repeat (first | (with_reducible first | exact HI0.out | apply IsS39.alloc | apply IsS39.drewN | apply IsS39.drew | apply IsS39.set_1) | exact HI0.out)⟩, ⟨by repeat (first | (with_reducible first | exact HK.out | apply KeepBut.set_ | apply keep_drewN | apply keep_drew | apply keep_alloc) | exact HK.out)⟩, ⟨by repeat (first | (with_reducible first | exact HB.out | apply below_alloc | apply pw_below_drewN | apply below_drew1 | refine below_set ?_ (IsS39.ge HI0.out)) | exact HB.out)⟩⟩
  case round =>
    clear H'
    try clear c1
    try clear c2
    try clear p2
    obtain ⟨x3_1, x4_1, x1001_1, rfl, rfl, HA, HK1, HI0, HK, HB⟩ := hrel
    cases gk with
    | zero => exact absurd HA.out (by simp [kauditmake_Src_Clean.l0])
    | succ k1 =>
      have H := HA.out
      clear HA
      simp only [kauditmake_Src_Clean.l0] at H
      by_cases c7 : x4_1 > 0
      · rw [if_pos c7] at H
        have c7b0 : decide (0 < x4_1) = true := decide_eq_true c7
        clear c7
        obtain ⟨y114, hy114⟩ : ∃ y_ : List ByteArray, y_ = (([(⟨#[97]⟩ : ByteArray), (⟨#[98]⟩ : ByteArray), (⟨#[99]⟩ : ByteArray), (⟨#[108]⟩ : ByteArray), (⟨#[109]⟩ : ByteArray)] : List ByteArray)) := ⟨_, rfl⟩
        replace H : ((kauditmake_Src_Word.f s0_0 x1001_1 y114).bind fun bt117 => (if 1 + bt117.1.size ≤ 9223372036854775807 then (if x3_1.size + ((⟨#[47]⟩ : ByteArray) ++ bt117.1).size ≤ 9223372036854775807 then (kauditmake_Src_Clean.l0 k1 (x3_1 ++ ((⟨#[47]⟩ : ByteArray) ++ bt117.1)) (wrap64 (x4_1 - 1)) s0_0 bt117.2) else (none)) else (none))) = some (r1, r2) := by first | (rw [hy114]; with_reducible exact H) | (have H2_ := (Option.bind_some _ _).symm.trans H; rw [hy114]; with_reducible exact H2_) | (have H2_ := (Option.bind_some _ _).symm.trans H; with_reducible exact H2_) | with_reducible exact H | (rw [hy114]; exact H) | exact H
        have Ny114 := Aside0.mk hy114
        clear hy114
        replace H := Option.bind_eq_some_iff.mp H
        obtain ⟨⟨t117, t118⟩, A80, H⟩ := H
        replace H : (if 1 + t117.size ≤ 9223372036854775807 then (if x3_1.size + ((⟨#[47]⟩ : ByteArray) ++ t117).size ≤ 9223372036854775807 then (kauditmake_Src_Clean.l0 k1 (x3_1 ++ ((⟨#[47]⟩ : ByteArray) ++ t117)) (wrap64 (x4_1 - 1)) s0_0 t118) else (none)) else (none)) = some (r1, r2) := H
        have A8 := Aside0.mk A80
        clear A80
        by_cases c9 : 1 + t117.size ≤ 9223372036854775807
        · rw [if_pos c9] at H
          have c9b0 := eq_true c9
          have c9b1 : decide (1 + t117.size ≤ 9223372036854775807) = true := decide_eq_true c9
          try have c9b2 : (9223372036854775807 < 1 + t117.size) = False := eq_false (Nat.not_lt.2 c9)
          by_cases c10 : x3_1.size + ((⟨#[47]⟩ : ByteArray) ++ t117).size ≤ 9223372036854775807
          · rw [if_pos c10] at H
            have c10b0 := eq_true c10
            have c10b1 : decide (x3_1.size + ((⟨#[47]⟩ : ByteArray) ++ t117).size ≤ 9223372036854775807) = true := decide_eq_true c10
            try have c10b2 : (9223372036854775807 < x3_1.size + ((⟨#[47]⟩ : ByteArray) ++ t117).size) = False := eq_false (Nat.not_lt.2 c10)
            have H' := Aside0.mk H
            clear H
            go_wp2_with (first | ((with_reducible refine gate_dst (N := 14) rfl ?_); refine Kd.R_lit Kd.string _ 9 ?hg (N := 14) ?hd (xs := ([(⟨#[97]⟩ : ByteArray), (⟨#[98]⟩ : ByteArray), (⟨#[99]⟩ : ByteArray), (⟨#[108]⟩ : ByteArray), (⟨#[109]⟩ : ByteArray)] : List ByteArray)) (inner := [.string (⟨#[97]⟩ : ByteArray), .string (⟨#[98]⟩ : ByteArray), .string (⟨#[99]⟩ : ByteArray), .string (⟨#[108]⟩ : ByteArray), .string (⟨#[109]⟩ : ByteArray)]) (ok := fun _ => True) (okp := fun _ => True) ?hr ?hp (fun _ hk => hk) trivial (Below.refl _ _) (Nat.le_refl _) (by simp) ?_; (case hd => rfl); (case hg => rfl); (case hr => first | (go_simp; done) | (go_simp; rfl)); (case hp => exact (Reps.one (show Kd.M Kd.string _ _ _ (⟨#[97]⟩ : ByteArray) [.string (⟨#[97]⟩ : ByteArray)] from rfl) (Reps.one (show Kd.M Kd.string _ _ _ (⟨#[98]⟩ : ByteArray) [.string (⟨#[98]⟩ : ByteArray)] from rfl) (Reps.one (show Kd.M Kd.string _ _ _ (⟨#[99]⟩ : ByteArray) [.string (⟨#[99]⟩ : ByteArray)] from rfl) (Reps.one (show Kd.M Kd.string _ _ _ (⟨#[108]⟩ : ByteArray) [.string (⟨#[108]⟩ : ByteArray)] from rfl) (Reps.one (show Kd.M Kd.string _ _ _ (⟨#[109]⟩ : ByteArray) [.string (⟨#[109]⟩ : ByteArray)] from rfl) (Reps.none _ _))))))); intro v115 w11 ho12 hb hg_ hnew_; clear hg_ hnew_; (first | rw [← Ny114.out] at ho12 | (simp only [Int.reduceToNat] at ho12; rw [← Ny114.out] at ho12)); have n0_ := Aside0.mk (Kd.R_lower ho12 (keep_size (w := w) (g := g) (row := none) (by repeat (first | (with_reducible first | exact HK.out | apply KeepBut.set_ | apply keep_drewN | apply keep_drew | apply keep_alloc) | exact HK.out)))); have n1_ := Aside0.mk (IsS39.below (by repeat (first | (with_reducible first | exact HI0.out | apply IsS39.alloc | apply IsS39.drewN | apply IsS39.drew | apply IsS39.set_1) | exact HI0.out)) hb); have n2_ := Aside0.mk (KeepBut.trans (by repeat (first | (with_reducible first | exact HK.out | apply KeepBut.set_ | apply keep_drewN | apply keep_drew | apply keep_alloc) | exact HK.out)) (KeepBut.of_below hb g none) (.inl rfl)); have n3_ := Aside0.mk (below_step (by repeat (first | (with_reducible first | exact HB.out | apply below_alloc | apply pw_below_drewN | apply below_drew1 | refine below_set ?_ (IsS39.ge HI0.out)) | exact HB.out)) hb); clear HI0; clear HK; clear HB; have HO116 := n0_; have HI0 := n1_; have HK := n2_; have HB := n3_; clear n0_ n1_ n2_ n3_; clear hb ho12; obtain ⟨Ao13, co13, eo13⟩ := Kd.R_slice HO116.out; subst eo13) | ((with_reducible refine gate_callee (f := 26) rfl ?_); refine goesL_ (some 15) rfl rfl Tryd.func26 (by kernel_rfl) rfl #[.pointer (some ⟨g, 0, none⟩), .slice Ao13 y114.length co13] rfl (by (try simp only [List.map_toArray, List.map_cons, List.map_nil]); first | done | rfl | (simp only [List.length_drop, List.length_take]; rfl)) ?_; (with_reducible refine (kauditmake_Src_Word.calls g s0_0 x1001_1 _ _ y114 t117 t118 w0 _ ?side1 ?side2 ?side3 ?side4 ?side5 A8.out).mono ?_); (case side1 => repeat (first | (with_reducible first | exact HI0.out | apply IsS39.alloc | apply IsS39.drewN | apply IsS39.drew | apply IsS39.set_1) | exact HI0.out)); (case side2 => repeat (first | (with_reducible first | exact HB.out | apply below_alloc | apply pw_below_drewN | apply below_drew1 | refine below_set ?_ (IsS39.ge HI0.out)) | exact HB.out)); (case side3 => repeat (first | exact (Kd.R_reads' HO116.out).2.2 | (with_reducible refine Kd.C_alloc ?_ _) | (with_reducible refine Kd.C_drewN ?_ _) | (with_reducible refine Kd.C_drew ?_))); (case side4 => exact (Kd.R_reads' HO116.out).2.1); (case side5 => exact far_slice (IsS39.own_ne HI0.out HO116.out (by decide))); rintro e w14 ⟨rfl, hi, hb, hk⟩; refine ⟨_, rfl, ?_⟩; have n0_ := Aside0.mk (Kd.R_mono (Kd.R_keep (IsS39.apart (show IsS39 w0 _ g s0_0 x1001_1 from by repeat (first | (with_reducible first | exact HI0.out | apply IsS39.alloc | apply IsS39.drewN | apply IsS39.drew | apply IsS39.set_1) | exact HI0.out)) (by (with_reducible repeat (first | apply Kd.R_alloc | apply Kd.R_drewN | apply Kd.R_drew)); exact HO116.out) (by decide)) hk (fun _ h => h.2)) (fun _ h => h.1)); have n1_ := Aside0.mk (KeepBut.trans (by repeat (first | (with_reducible first | exact HK.out | apply KeepBut.set_ | apply keep_drewN | apply keep_drew | apply keep_alloc) | exact HK.out)) hk (.inl rfl)); have n2_ := Aside0.mk (hb); have n3_ := Aside0.mk (hi); clear HO116; clear HK; clear HB; clear HI0; have HO116 := n0_; have HK := n1_; have HB := n2_; have HI0 := n3_; clear n0_ n1_ n2_ n3_; (try clear hb); (try clear hb2); (try clear hk); (try clear hi)))
            go_roundg k1
            case measure => have := HK1.out; omega
            case rel => exact ⟨(x3_1 ++ ((⟨#[47]⟩ : ByteArray) ++ t117)), (wrap64 (x4_1 - 1)), (t118), (by first | rfl | (simp; done) | (simp [*]; done)), (by first | rfl | (simp; done) | (simp [*]; done)), H', ⟨by have := HK1.out; omega⟩, ⟨by repeat (first | (with_reducible first | exact HI0.out | apply IsS39.alloc | apply IsS39.drewN | apply IsS39.drew | apply IsS39.set_1) | exact HI0.out)⟩, ⟨by repeat (first | (with_reducible first | exact HK.out | apply KeepBut.set_ | apply keep_drewN | apply keep_drew | apply keep_alloc) | exact HK.out)⟩, ⟨by repeat (first | (with_reducible first | exact HB.out | apply below_alloc | apply pw_below_drewN | apply below_drew1 | refine below_set ?_ (IsS39.ge HI0.out)) | exact HB.out)⟩⟩
          · rw [if_neg c10] at H
            exact absurd H (by simp)
        · rw [if_neg c9] at H
          exact absurd H (by simp)
      · rw [if_neg c7] at H
        have c7b0 : decide (0 < x4_1) = false := decide_eq_false c7
        clear c7
        simp only [Option.some.injEq, Prod.mk.injEq] at H
        obtain ⟨rfl, rfl⟩ := H
        go_wp2
        go_ret
        exact ⟨by first | rfl | (simp [errW_none, errW_some] <;> rfl) | (simp [*, errW_none, errW_some] <;> rfl), by repeat (first | (with_reducible first | exact HI0.out | apply IsS39.alloc | apply IsS39.drewN | apply IsS39.drew | apply IsS39.set_1) | exact HI0.out), by repeat (first | (with_reducible first | exact HB.out | apply below_alloc | apply pw_below_drewN | apply below_drew1 | refine below_set ?_ (IsS39.ge HI0.out)) | exact HB.out), by repeat (first | (with_reducible first | exact HK.out | apply KeepBut.set_ | apply keep_drewN | apply keep_drew | apply keep_alloc) | exact HK.out)⟩

end Go.Proofs.YtnjabpgbpgocnaaDoor.PAll

-- PureD
/- The worked example of the statements, and the makers of inputs (N, Pick, Word, Clean), in plain words. Condition: the maker's place stays below 10^9. -/
namespace Go.Proofs.YtnjabpgbpgocnaaDoor.PAll
open Go Go.RowKit Go.Proofs.YtnjabpgbpgocnaaDoorW.PrintWords Go.Proofs.YtnjabpgbpgocnaaDoorW.PrintLast Go.Proofs.YtnjabpgbpgocnaaDoorW.PrintMore
set_option linter.unusedVariables false
set_option linter.unusedSimpArgs false

theorem awake0 : kauditlaw04_awake.f 40 = some true := by kernel_rfl
theorem awake_eq (k : Nat) (hk : 40 ≤ k) : kauditlaw04_awake.f k = some true := by
  obtain ⟨d, rfl⟩ : ∃ d, k = 40 + d := ⟨k - 40, by omega⟩
  induction d with
  | zero => exact awake0
  | succ d ih => exact kauditlaw04_awake.mono (40 + d) _ (ih (by omega))

theorem N_eq (s : List Int) (i n : Int) (hi : 0 ≤ i) (hi2 : i ≤ 1000000000) (hn : 1 ≤ n) (hn2 : n ≤ 1000) : ∃ v, kauditmake_Src_N.f s i n = some (v, i + 1) ∧ 0 ≤ v ∧ v < n := by
  have e1 : wrap64 (i + 1) = i + 1 := by unfold wrap64; omega
  have e2 : wrap64 (i + 1 - 1) = i := by unfold wrap64; omega
  have key : ∀ x : Int, ∃ v, (if Int.tmod x n < 0 then some (wrap64 (Int.tmod x n + n), i + 1) else some (Int.tmod x n, i + 1)) = some (v, i + 1) ∧ 0 ≤ v ∧ v < n := fun x => by
    have h1 := Int.tmod_lt_of_pos x (show 0 < n by omega)
    have h2 : -n < Int.tmod x n := by
      have := Int.tmod_lt_of_pos (-x) (show 0 < n by omega)
      rw [Int.neg_tmod] at this
      omega
    by_cases h : Int.tmod x n < 0
    · exact ⟨Int.tmod x n + n, by rw [if_pos h, show wrap64 (Int.tmod x n + n) = Int.tmod x n + n by unfold wrap64; omega], by omega, by omega⟩
    · exact ⟨Int.tmod x n, by rw [if_neg h], by omega, by omega⟩
  unfold kauditmake_Src_N.f
  rw [if_neg (by omega), e1, e2]
  by_cases h : i + 1 ≤ (s.length : Int)
  · rw [if_pos h, if_pos hi, if_pos (by omega), if_neg (by omega)]
    exact key _
  · rw [if_neg h, if_neg (by omega)]
    exact key _

theorem Word_eq (s : List Int) (i : Int) (l : List ByteArray) (hi : 0 ≤ i) (hi2 : i ≤ 1000000000) (hl : 1 ≤ l.length) (hl2 : l.length ≤ 1000) :
    ∃ w, w ∈ l ∧ kauditmake_Src_Word.f s i l = some (w, i + 1) := by
  obtain ⟨v, hv, h0, h1⟩ := N_eq s i (l.length : Int) hi hi2 (by omega) (by omega)
  have hlt : v.toNat < l.length := by omega
  refine ⟨l[v.toNat]'hlt, List.getElem_mem hlt, ?_⟩
  unfold kauditmake_Src_Word.f
  rw [hv, Option.bind_some, if_pos h0, if_pos h1]
  refine congrArg some (Prod.ext ?_ rfl)
  show rdOf ByteArray.empty l v = _
  rw [rdOf, List.getD_eq_getElem?_getD, List.getElem?_eq_getElem hlt]
  rfl

theorem Pick_eq (s : List Int) (i : Int) (l : List Int) (hi : 0 ≤ i) (hi2 : i ≤ 1000000000) (hl : 1 ≤ l.length) (hl2 : l.length ≤ 1000) :
    ∃ w, w ∈ l ∧ kauditmake_Src_Pick.f s i l = some (w, i + 1) := by
  obtain ⟨v, hv, h0, h1⟩ := N_eq s i (l.length : Int) hi hi2 (by omega) (by omega)
  have hlt : v.toNat < l.length := by omega
  refine ⟨l[v.toNat]'hlt, List.getElem_mem hlt, ?_⟩
  unfold kauditmake_Src_Pick.f
  rw [hv, Option.bind_some, if_pos h0, if_pos h1]
  refine congrArg some (Prod.ext ?_ rfl)
  show rd l v = _
  rw [rd, List.getD_eq_getElem?_getD, List.getElem?_eq_getElem hlt]
  rfl

theorem srcClean_loop (s : List Int) : ∀ (n : Nat) (x : ByteArray) (i : Int) (k : Nat), n ≤ 10 → x.size + 2 * n ≤ 1000 → 0 ≤ i → i + n ≤ 1000000000 → n + 1 ≤ k →
    ∃ ps, ps.length = n ∧ (∀ p ∈ ps, nameL p = true ∧ p.length = 1) ∧ kauditmake_Src_Clean.l0 k x (n : Int) s i = some (ofL (x.data.toList ++ joinP ps), i + n) := by
  intro n
  induction n with
  | zero =>
    intro x i k _ _ _ _ hk
    obtain ⟨k, rfl⟩ : ∃ j, k = j + 1 := ⟨k - 1, by omega⟩
    refine ⟨[], rfl, by simp, ?_⟩
    rw [kauditmake_Src_Clean.l0, if_neg (by omega), joinP_nil, List.append_nil, ofL_data]
    simp
  | succ n ih =>
    intro x i k hn hx hi hi2 hk
    obtain ⟨k, rfl⟩ : ∃ j, k = j + 1 := ⟨k - 1, by omega⟩
    obtain ⟨w, hw, he⟩ := Word_eq s i [⟨#[97]⟩, ⟨#[98]⟩, ⟨#[99]⟩, ⟨#[108]⟩, ⟨#[109]⟩] hi (by omega) (by simp) (by simp)
    have hw2 : w.size = 1 ∧ nameL w.data.toList = true := by
      simp only [List.mem_cons, List.not_mem_nil, or_false] at hw
      rcases hw with rfl | rfl | rfl | rfl | rfl <;> exact ⟨rfl, by decide⟩
    have e1 : (⟨#[47]⟩ : ByteArray).size = 1 := rfl
    have ez : ((⟨#[47]⟩ : ByteArray) ++ w).size = 2 := by rw [ByteArray.size_append, e1, hw2.1]
    have e2 : wrap64 (((n + 1 : Nat) : Int) - 1) = (n : Int) := by unfold wrap64; omega
    obtain ⟨ps, hlen, hps, hf⟩ := ih (x ++ ((⟨#[47]⟩ : ByteArray) ++ w)) (i + 1) k (by omega) (by rw [ByteArray.size_append, ez]; omega) (by omega) (by omega) (by omega)
    refine ⟨w.data.toList :: ps, by simp [hlen], ?_, ?_⟩
    · intro p hp
      rcases List.mem_cons.1 hp with rfl | hp
      · exact ⟨hw2.2, by rw [← size_len]; exact hw2.1⟩
      · exact hps p hp
    · rw [kauditmake_Src_Clean.l0, if_pos (by omega), he, Option.bind_some]
      dsimp only
      rw [if_pos (by omega), if_pos (by omega), e2, hf]
      refine congrArg some (Prod.ext ?_ ?_)
      · rw [app_list, app_list, slash_list, joinP_cons]
        simp
      · show i + 1 + (n : Int) = i + ((n + 1 : Nat) : Int)
        omega

/-- What Src.Clean makes: a clean path of one to three names of one byte. -/
theorem srcClean_eq (s : List Int) (i : Int) (k : Nat) (hi : 0 ≤ i) (hi2 : i ≤ 999999000) (hk : 4 ≤ k) :
    ∃ ps i', ps ≠ [] ∧ ps.length ≤ 3 ∧ (∀ p ∈ ps, nameL p = true ∧ p.length = 1) ∧ i ≤ i' ∧ i' ≤ i + 4 ∧ kauditmake_Src_Clean.f k s i = some (ofL (joinP ps), i') := by
  obtain ⟨w, hw, he⟩ := Pick_eq s i [1, 1, 2, 2, 3] hi (by omega) (by simp) (by simp)
  obtain ⟨n, rfl, hn1, hn3⟩ : ∃ n : Nat, w = (n : Int) ∧ 1 ≤ n ∧ n ≤ 3 := by
    simp only [List.mem_cons, List.not_mem_nil, or_false] at hw
    exact ⟨w.toNat, by omega, by omega, by omega⟩
  obtain ⟨ps, hlen, hps, hf⟩ := srcClean_loop s n ⟨#[]⟩ (i + 1) k (by omega) (by show 0 + 2 * n ≤ 1000; omega) (by omega) (by omega) (by omega)
  refine ⟨ps, i + 1 + n, by intro e; rw [e] at hlen; simp at hlen; omega, by omega, hps, by omega, by omega, ?_⟩
  unfold kauditmake_Src_Clean.f
  rw [he, Option.bind_some]
  dsimp only
  rw [hf]
  rfl

theorem joinP_length {ps : List (List UInt8)} {m : Nat} (h : ∀ p ∈ ps, p.length ≤ m) : (joinP ps).length ≤ ps.length * (m + 1) := by
  induction ps with
  | nil => simp [joinP]
  | cons p ps ih =>
    have h1 := ih (fun q hq => h q (by simp [hq]))
    have h2 := h p (by simp)
    rw [joinP_cons, List.length_cons, List.length_append, List.length_cons, Nat.succ_mul]
    omega

end Go.Proofs.YtnjabpgbpgocnaaDoor.PAll

-- PurePathPieces
/- PathPieces: the pieces are not empty, contain no slash, and a clean path is made of its pieces: plain law. No condition. -/
namespace Go.Proofs.YtnjabpgbpgocnaaDoor.Pure
open Go Go.RowKit Go.Proofs.YtnjabpgbpgocnaaDoor.PAll Go.Proofs.YtnjabpgbpgocnaaDoorW.PrintWords Go.Proofs.YtnjabpgbpgocnaaDoorW.PrintLast
set_option linter.unusedVariables false
set_option linter.unusedSimpArgs false

theorem rdOf_ofL (ps : List (List UInt8)) (i : Nat) (h : i < ps.length) : rdOf ByteArray.empty (ps.map ofL) (i : Int) = ofL (ps[i]'h) := by
  rw [rdOf, Int.toNat_natCast, List.getD_eq_getElem?_getD, List.getElem?_map, List.getElem?_eq_getElem h]
  rfl

theorem pieces_size : ∀ (l cur : List UInt8), (joinP (piecesL cur l)).length ≤ l.length + cur.length + 1
  | [], cur => by
    by_cases h : cur = []
    · rw [piecesL, if_pos h]; simp [joinP]
    · rw [piecesL, if_neg h]; simp [joinP]
  | b :: l, cur => by
    have h1 := pieces_size l []
    have h2 := pieces_size l (cur ++ [b])
    rw [List.length_append] at h2
    simp at h1 h2
    by_cases hb : b = 47
    · by_cases h : cur = []
      · rw [piecesL, if_pos hb, if_pos h]; simp; omega
      · rw [piecesL, if_pos hb, if_neg h, joinP_cons]; simp; omega
    · rw [piecesL, if_neg hb]; simp; omega

/-- The inner loop: no byte of the piece is a slash. -/
theorem pieces_inner (t : ByteArray) (xs : List ByteArray) (joined P : ByteArray) (i : Nat) (hi : i < xs.length) (hP : rdOf ByteArray.empty xs (i : Int) = P) (hf : Free P.data.toList) (hz : P.size ≤ 1000) (hj : joined.size ≤ 1000) (hi2 : i ≤ 1000) :
    ∀ (d j k : Nat), j + d = P.size → kauditlaw04_PathPieces.l1 (k + d + 1) t xs joined (i : Int) (j : Int) = kauditlaw04_PathPieces.l0 k t xs (joined ++ ((⟨#[47]⟩ : ByteArray) ++ P)) ((i + 1 : Nat) : Int) := by
  have e1 : (⟨#[47]⟩ : ByteArray).size = 1 := rfl
  intro d
  induction d with
  | zero =>
    intro j k hjd
    have e2 : wrap64 ((i : Int) + 1) = ((i + 1 : Nat) : Int) := by unfold wrap64; omega
    rw [Nat.add_zero, kauditlaw04_PathPieces.l1, hP, if_pos (by omega), if_pos (by omega), if_neg (by omega), if_pos (by omega), if_pos (by rw [ByteArray.size_append, e1]; omega), e2]
  | succ d ih =>
    intro j k hjd
    have hlt : j < P.data.toList.length := by rw [← size_len]; omega
    have hb : bt P (j : Int) ≠ 47 := by
      rw [bt_get _ j hlt]
      intro e
      refine hf (P.data.toList[j]'hlt) (List.getElem_mem hlt) ?_
      rw [← UInt8.toNat_inj]
      exact Int.ofNat.inj e
    have e2 : wrap64 ((j : Int) + 1) = ((j + 1 : Nat) : Int) := by unfold wrap64; omega
    have ih' := ih (j + 1) k (by omega)
    generalize hn : k + d + 1 = n at ih'
    rw [kauditlaw04_PathPieces.l1, hP, if_pos (by omega), if_pos (by omega), if_pos (by omega), if_pos (by omega), if_neg hb, e2]
    exact ih'

/-- The end of the outer loop. -/
theorem pieces_end (k : Nat) (t joined : ByteArray) (xs : List ByteArray) (ht : t.size ≤ 400) (hj : joined.data.toList = joinP (piecesL [] t.data.toList)) (hk : 2000 ≤ k) :
    kauditlaw04_PathPieces.l0 k t xs joined (xs.length : Int) = some true := by
  obtain ⟨k, rfl⟩ : ∃ j, k = j + 1 := ⟨k - 1, by omega⟩
  rw [kauditlaw04_PathPieces.l0, if_neg (by omega), pathClean_eq t k (by omega) (by omega), Option.bind_some, awake_eq k (by omega)]
  by_cases hc : cleanL t.data.toList = true
  · rw [if_pos hc, Lib.toList_data, Lib.toList_data]
    by_cases h1 : t.data.toList = [47]
    · rw [if_pos h1]; rfl
    · rw [if_neg h1, if_pos (by rw [hj]; exact (clean_is hc h1).2)]; rfl
  · rw [if_neg hc]; rfl

/-- The outer loop. -/
theorem pieces_outer (t : ByteArray) (ht : t.size ≤ 400) (ps : List (List UInt8)) (hps : ps = piecesL [] t.data.toList) :
    ∀ (d i k : Nat) (joined : ByteArray), i + d = ps.length → joined.data.toList = joinP (ps.take i) → 2000 + 1000 * d ≤ k → kauditlaw04_PathPieces.l0 k t (ps.map ofL) joined (i : Int) = some true := by
  have htot : (joinP ps).length ≤ 401 := by
    have := pieces_size t.data.toList []
    rw [← size_len] at this
    rw [hps]
    simp at this
    omega
  have hpl : ps.length ≤ 401 := by
    have : ∀ qs : List (List UInt8), qs.length ≤ (joinP qs).length := by
      intro qs
      induction qs with
      | nil => simp
      | cons q qs ih => rw [joinP_cons]; simp; omega
    have := this ps
    omega
  intro d
  induction d with
  | zero =>
    intro i k joined hid hj hk
    have e : (i : Int) = ((ps.map ofL).length : Int) := by rw [List.length_map]; omega
    rw [e]
    refine pieces_end k t joined _ ht ?_ (by omega)
    rw [hj, List.take_of_length_le (by omega), hps]
  | succ d ih =>
    intro i k joined hid hj hk
    have hi : i < ps.length := by omega
    have hmem := List.getElem_mem hi
    have hne : ps[i]'hi ≠ [] := pieces_ne t.data.toList _ (by rw [← hps]; exact hmem)
    have hfree : Free (ps[i]'hi) := pieces_free t.data.toList _ (by rw [← hps]; exact hmem)
    have hsplit : joinP ps = joinP (ps.take i) ++ (47 :: (ps[i]'hi) ++ joinP (ps.drop (i + 1))) := by
      have h1 := List.take_append_drop i ps
      rw [List.drop_eq_getElem_cons hi] at h1
      conv => lhs; rw [← h1]
      rw [joinP_append, joinP_cons]
      simp
    have hlen := congrArg List.length hsplit
    simp only [List.length_append, List.length_cons] at hlen
    have hjz : joined.size ≤ 1000 := by rw [size_len, hj]; omega
    have hrd := rdOf_ofL ps i hi
    have hPz : (ofL (ps[i]'hi)).size ≤ 401 := by rw [ofL_size]; omega
    obtain ⟨n, rfl⟩ : ∃ n, k = (n + (ofL (ps[i]'hi)).size + 1) + 1 := ⟨k - 2 - (ofL (ps[i]'hi)).size, by omega⟩
    have hin := pieces_inner t (ps.map ofL) joined (ofL (ps[i]'hi)) i (by rw [List.length_map]; exact hi) hrd (by rw [ofL_list]; exact hfree) (by omega) hjz (by omega) (ofL (ps[i]'hi)).size 0 n (by omega)
    generalize hm : n + (ofL (ps[i]'hi)).size + 1 = m at hin
    rw [kauditlaw04_PathPieces.l0, if_pos (by rw [List.length_map]; omega), if_pos (by omega), hrd, Lib.toList_data, ofL_list, if_neg hne]
    refine hin.trans (ih (i + 1) n _ (by omega) ?_ (by omega))
    rw [app_list, app_list, slash_list, ofL_list, hj, List.take_succ_eq_append_getElem hi, joinP_append, joinP_single]
    rfl

theorem pieces_j0 (t : ByteArray) (ht : t.size ≤ 400) (k : Nat) (hk : 500000 ≤ k) : kauditlaw04_PathPieces.j0 k t (piecesOf t) false = some true := by
  obtain ⟨k, rfl⟩ : ∃ j, k = j + 1 := ⟨k - 1, by omega⟩
  have hl : (piecesL [] t.data.toList).length ≤ 401 := by
    have := piecesOf_length t
    rw [piecesOf, List.length_map] at this
    omega
  rw [kauditlaw04_PathPieces.j0, if_neg (by simp)]
  exact pieces_outer t ht _ rfl _ 0 k ⟨#[]⟩ (Nat.zero_add _) rfl (by omega)

theorem PathPieces : kauditlaw04_PathPieces.Pure := by
  intro t _
  refine ⟨600000, ?_⟩
  unfold kauditlaw04_PathPieces.f
  by_cases ht : t.size ≤ 400
  · have hj := pieces_j0 t ht 600000 (by omega)
    rw [if_neg (by omega), split_eq t (by omega), Option.bind_some]
    dsimp only
    by_cases h0 : 0 < t.size
    · have hl : 0 < t.data.toList.length := by rw [← size_len]; exact h0
      have e : wrap64 ((t.size : Int) - 1) = ((t.size - 1 : Nat) : Int) := by unfold wrap64; omega
      have hfirst : firstSlash t = (bt t 0 == 47) := by
        have hb := bt_get t 0 hl
        rw [show ((0 : Nat) : Int) = 0 from rfl] at hb
        rw [hb, firstSlash, List.head?_eq_getElem?, List.getElem?_eq_getElem hl, Bool.eq_iff_iff, decide_eq_true_eq, beq_iff_eq]
        constructor
        · intro h; rw [Option.some.inj h]; rfl
        · intro h; congr 1; rw [← UInt8.toNat_inj]; exact Int.ofNat.inj h
      have hlt : t.size - 1 < t.data.toList.length := by rw [← size_len]; omega
      have hlast : lastSlash t = (bt t ((t.size - 1 : Nat) : Int) == 47) := by
        rw [bt_get t _ hlt, lastSlash, List.getLast?_eq_getElem?, ← size_len, List.getElem?_eq_getElem hlt, Bool.eq_iff_iff, decide_eq_true_eq, beq_iff_eq]
        constructor
        · intro h; rw [Option.some.inj h]; rfl
        · intro h; congr 1; rw [← UInt8.toNat_inj]; exact Int.ofNat.inj h
      rw [if_pos (by omega), if_pos (by omega), hfirst, if_neg (by simp), e, if_pos (by omega), if_pos (by omega), hlast]
      rw [show ((bt t ((t.size - 1 : Nat) : Int) == 47) != (bt t ((t.size - 1 : Nat) : Int) == 47)) = false by simp]
      exact hj
    · have hl : t.data.toList = [] := List.length_eq_zero_iff.1 (by rw [← size_len]; omega)
      have hfirst : firstSlash t = false := by unfold firstSlash; rw [hl]; rfl
      have hlast : lastSlash t = false := by unfold lastSlash; rw [hl]; rfl
      rw [if_neg (by omega), hfirst, hlast, if_neg (by simp)]
      exact hj
  · rw [if_pos (by omega), awake_eq _ (by omega)]
    rfl

end Go.Proofs.YtnjabpgbpgocnaaDoor.Pure
