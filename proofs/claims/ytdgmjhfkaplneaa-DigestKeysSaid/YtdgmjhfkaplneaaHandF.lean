/- The contracts of the two functions Fresh, by hand. Condition: the text is shorter than memory. -/
import Derived.Test.YtdgmjhfkaplneaaPAllx0
import Derived.Test.YtdgmjhfkaplneaaHand
namespace Go.Proofs.Ytdgmjhfkaplneaa.PAll
open Go.RowKit Go.Proofs.YtdgmjhfkaplneaaW.PrintWords Go.Proofs.YtdgmjhfkaplneaaW.PrintLast Go.Proofs.YtdgmjhfkaplneaaW.PrintMore
set_option linter.unusedVariables false
set_option linter.unusedSimpArgs false

def digest_Fresh.f (a0 : ByteArray) : Option (Int × Int) := if a0.size < 140737488355327 then some (sip 0 0 (bytesOf a0), sip 0 0 (bytesOf (a0 ++ ⟨#[0]⟩))) else none

theorem bytes_C (W : World) (s : ByteArray) (hs : s.size ≤ 9223372036854775807) : Kd.C (Kd.int .u8) (Lib.bytesWorld W 5 s) (some ⟨W.heap.size, 0, none⟩) (bytesOf s).length (bytesOf s) := by
  rw [bytesOf_length]
  exact Kd.C_of_reads (d := (0 : Int)) (h1 := fun _ => rfl) (bytes_reads W 5 s hs)

theorem sum_bytes (k0 k1 : Int) (s : ByteArray) (hs : s.size ≤ 9223372036854775807) (W : World) (b : Nat) (hb : b = W.heap.size) : Calls Try.prog 9 #[.agg #[.int .u64 k0, .int .u64 k1], .slice (some ⟨b, 0, none⟩) s.size (grownCap W s.size 0 5)] (Lib.bytesWorld W 5 s) fun e w' => e = .returned (.int .u64 (sip k0 k1 (bytesOf s))) ∧ Below (Lib.bytesWorld W 5 s).heap.size (Lib.bytesWorld W 5 s) w' := by
  subst hb
  have h := digest_Sum.calls k0 k1 (some ⟨W.heap.size, 0, none⟩) (grownCap W s.size 0 5) (bytesOf s) _ (Lib.bytesWorld W 5 s) (bytes_C W s hs) (by rw [bytesOf_length]; exact grownCap_ge _ _ _ _) rfl
  rw [bytesOf_length] at h
  exact h

theorem blk_bytes {W w1 : World} {g : Nat} {o : Obj} (s : ByteArray) (h : W.heap[g]? = some o) (hB : Below (Lib.bytesWorld W 5 s).heap.size (Lib.bytesWorld W 5 s) w1) : w1.heap[g]? = some o :=
  blk_below (blk_below h (bytes_below (Below.refl _ _) (Nat.le_refl _) 5 s)) hB

theorem below_bytes {w W w1 : World} (s : ByteArray) (h : Below w.heap.size w W) (hB : Below (Lib.bytesWorld W 5 s).heap.size (Lib.bytesWorld W 5 s) w1) : Below w.heap.size w w1 :=
  below_step (bytes_below h h.size 5 s) hB

set_option maxHeartbeats 800000 in
set_option maxRecDepth 100000 in
theorem digest_Fresh.calls (a0 : ByteArray) (r1 r2 : Int) (w : World) (h : digest_Fresh.f a0 = some (r1, r2)) :
    Calls Try.prog 17 #[.string a0] w fun e w' => e = .returned (.agg #[.int .u64 r1, .int .u64 r2]) ∧ Below w.heap.size w w' := by
  unfold digest_Fresh.f at h
  by_cases hs : a0.size < 140737488355327
  · rw [if_pos hs] at h
    have hu24 := Try.underlying24
    have hu9 := Try.underlying9
    have kb := fun (s : ByteArray) (W : World) => print_bytes (P := Try.prog) 9 25 5 Try.underlying9 Try.underlying25 Try.underlying5 s W
    obtain ⟨x, hx⟩ : ∃ x, x = sip 0 0 (bytesOf a0) := ⟨_, rfl⟩
    obtain ⟨y, hy⟩ : ∃ y, y = sip 0 0 (bytesOf (a0 ++ ⟨#[0]⟩)) := ⟨_, rfl⟩
    have hc1 : Aside0 (∀ (W : World) (b : Nat), b = W.heap.size → Calls Try.prog 9 #[.agg #[.int .u64 0, .int .u64 0], .slice (some ⟨b, 0, none⟩) a0.size (grownCap W a0.size 0 5)] (Lib.bytesWorld W 5 a0) fun e w' => e = .returned (.int .u64 x) ∧ Below (Lib.bytesWorld W 5 a0).heap.size (Lib.bytesWorld W 5 a0) w') := ⟨fun W b hb => by rw [hx]; exact sum_bytes 0 0 a0 (by omega) W b hb⟩
    have hsz : (a0 ++ ⟨#[0]⟩ : ByteArray).size = a0.size + 1 := by rw [ByteArray.size_append]; rfl
    have hc2 : Aside0 (∀ (W : World) (b : Nat), b = W.heap.size → Calls Try.prog 9 #[.agg #[.int .u64 0, .int .u64 0], .slice (some ⟨b, 0, none⟩) (a0.size + 1) (grownCap W (a0.size + 1) 0 5)] (Lib.bytesWorld W 5 (a0 ++ ⟨#[0]⟩)) fun e w' => e = .returned (.int .u64 y) ∧ Below (Lib.bytesWorld W 5 (a0 ++ ⟨#[0]⟩)).heap.size (Lib.bytesWorld W 5 (a0 ++ ⟨#[0]⟩)) w') := ⟨fun W b hb => by
      have h2 := sum_bytes 0 0 (a0 ++ ⟨#[0]⟩) (by omega) W b hb
      rw [hsz] at h2
      rw [hy]
      exact h2⟩
    clear hsz
    rw [← hx, ← hy] at h
    simp only [Option.some.injEq, Prod.mk.injEq] at h
    obtain ⟨rfl, rfl⟩ := h
    clear hx hy
    go_enter Try.func17, Try.ntmps17
    go_wp2_with (first | (go_at_call 9; with_reducible refine (hc1.out _ _ ?hb).mono ?_; (case hb => simp); rintro e w1 ⟨rfl, hB1⟩; have E1 := Aside0.mk (blk_bytes a0 (blk_new w _) hB1); have HB1 := Aside0.mk (below_bytes a0 (below_alloc (Below.refl _ _) _) hB1); clear hB1) | (go_at_call 9; with_reducible refine (hc2.out _ _ ?hb).mono ?_; (case hb => rfl); rintro e w2 ⟨rfl, hB2⟩; have E2 := Aside0.mk (blk_bytes (a0 ++ ⟨#[0]⟩) E1.out hB2); have HB2 := Aside0.mk (below_bytes (a0 ++ ⟨#[0]⟩) HB1.out hB2); clear hB2; have c0 := (blk_cell E2.out 0).trans rfl; have c1 := (blk_cell E2.out 1).trans rfl; have f0 := blk_frozen E2.out 0; have f1 := blk_frozen E2.out 1))
    refine bodyPost_ret (results_cell_row rfl _ _ w.heap.size 24 #[.int .u64 x, .int .u64 y] (0, 0) _ rfl (blk_put (blk_put E2.out 0 _ rfl) 1 _ rfl) Try.underlying24 rfl (by kernel_rfl)) rfl ?_
    exact ⟨rfl, below_set (below_set HB2.out (Nat.le_refl _)) (Nat.le_refl _)⟩
  · rw [if_neg hs] at h
    cases h

end Go.Proofs.Ytdgmjhfkaplneaa.PAll
