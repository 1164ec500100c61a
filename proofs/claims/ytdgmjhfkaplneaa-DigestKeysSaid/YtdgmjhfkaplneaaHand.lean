/- The contract of digest.Sum, by hand: it returns SipHash-2-4 as a plain function has it. Condition: the slice reads as a list of bytes. -/
import Derived.Test.YtdgmjhfkaplneaaPAllx2
import Derived.Test.YtdgmjhfkaplneaaPAllx5
import Derived.Test.YtdgmjhfkaplneaaHandA
namespace Go.Proofs.Ytdgmjhfkaplneaa.PAll
open Go.RowKit Go.Proofs.YtdgmjhfkaplneaaW.PrintWords Go.Proofs.YtdgmjhfkaplneaaW.PrintLast Go.Proofs.YtdgmjhfkaplneaaW.PrintMore
set_option linter.unusedVariables false
set_option linter.unusedSimpArgs false

/-- Bytes as a word, the least significant one first, from place i on. -/
def wordFrom (m : Int) (i : Nat) : List Int → Int
  | [] => m
  | c :: r => wordFrom (Go.bits .or .u64 m (shl .u64 (IntKind.u64.wrap c) (8 * i))) (i + 1) r

def wordOf (l : List Int) : Int := wordFrom 0 0 l

theorem rd_drop (l : List Int) (i : Nat) (h : i < l.length) : l.drop i = rd l i :: l.drop (i + 1) := by
  rw [List.drop_eq_getElem_cons h]
  unfold rd
  rw [Int.toNat_natCast, List.getD, List.getElem?_eq_getElem h]
  rfl

theorem word_loop (l : List Int) (hl : l.length ≤ 8) (d : Nat) : ∀ (k i : Nat) (m : Int), l.length - i = d → d < k → digest_word.l0 k m l (l.length : Int) (i : Int) = some (wordFrom m i (l.drop i)) := by
  induction d with
  | zero =>
    intro k i m hd hk
    obtain ⟨k, rfl⟩ : ∃ q, k = q + 1 := ⟨k - 1, by omega⟩
    rw [digest_word.l0, if_neg (by omega), List.drop_eq_nil_of_le (by omega)]
    rfl
  | succ d ih =>
    intro k i m hd hk
    obtain ⟨k, rfl⟩ : ∃ q, k = q + 1 := ⟨k - 1, by omega⟩
    have e1 : wrap64 (8 * (i : Int)) = 8 * (i : Int) := by unfold wrap64; omega
    have e2 : wrap64 ((i : Int) + 1) = ((i + 1 : Nat) : Int) := by unfold wrap64; omega
    rw [digest_word.l0, if_pos (by omega), if_pos (by omega), if_pos (by omega), e1, if_pos (by omega), e2, ih k (i + 1) _ (by omega) (by omega), rd_drop l i (by omega)]
    rfl

theorem word_eq (l : List Int) (hl : l.length ≤ 8) : digest_word.f 10 l = some (wordOf l) := by
  unfold digest_word.f wordOf
  exact word_loop l hl l.length 10 0 0 (by omega) (by omega)

/-- The words of the whole groups of eight. -/
def sipLoop : Nat → Int × Int × Int × Int → List Int → Int × Int × Int × Int
  | 0, s, _ => s
  | n + 1, s, l => sipLoop n (sipTake s (wordOf (l.take 8))) (l.drop 8)

def sipBegin (k0 k1 : Int) : Int × Int × Int × Int := (Go.bits .xor .u64 k0 8317987319222330741, Go.bits .xor .u64 k1 7237128888997146477, Go.bits .xor .u64 k0 7816392313619706465, Go.bits .xor .u64 k1 8387220255154660723)

def sipEnd (s : Int × Int × Int × Int) : Int :=
  match sipRounds 4 (s.1, s.2.1, Go.bits .xor .u64 s.2.2.1 255, s.2.2.2) with
  | (a, b, c, d) => Go.bits .xor .u64 (Go.bits .xor .u64 (Go.bits .xor .u64 a b) c) d

/-- SipHash-2-4. -/
def sip (k0 k1 : Int) (l : List Int) : Int :=
  sipEnd (sipTake (sipLoop (l.length / 8) (sipBegin k0 k1) l) (Go.bits .or .u64 (IntKind.u64.wrap (IntKind.u64.wrap (l.length : Int) * 72057594037927936)) (wordOf (l.drop (8 * (l.length / 8))))))

def digest_Sum.f (k0 k1 : Int) (l : List Int) : Option Int := some (sip k0 k1 l)

theorem word_any (A : Option Addr) (c : Nat) (l : List Int) (hl : l.length ≤ 8) (w : World) (hr : Kd.C (Kd.int .u8) w A l.length l) (hc : l.length ≤ c) :
    Calls Try.prog 30 #[.slice A l.length c] w fun e w' => e = .returned (.int .u64 (wordOf l)) ∧ Drawn0 w w' :=
  digest_word.calls 10 A c l _ w hr hc (word_eq l hl)

theorem begin_any (k0 k1 : Int) (w : World) : Calls Try.prog 28 #[.agg #[.int .u64 k0, .int .u64 k1]] w fun e w' => e = .returned (.agg #[.int .u64 (sipBegin k0 k1).1, .int .u64 (sipBegin k0 k1).2.1, .int .u64 (sipBegin k0 k1).2.2.1, .int .u64 (sipBegin k0 k1).2.2.2]) ∧ Below w.heap.size w w' :=
  digest_begin.calls k0 k1 _ _ _ _ w rfl

theorem C_at {w W : World} {A : Option Addr} {l : List Int} (h : Kd.C (Kd.int .u8) w A l.length l) (hB : Below w.heap.size w W) : Kd.C (Kd.int .u8) W A l.length l := Kd.C_below h hB

set_option maxHeartbeats 8000000 in
set_option maxRecDepth 100000 in
theorem digest_Sum.calls (a0_0 : Int) (a0_1 : Int) (A1 : Option Addr) (c1 : Nat) (l1 : List Int) (r : Int) (w : World) (hr1 : Kd.C (Kd.int .u8) w A1 l1.length l1) (hc1 : l1.length ≤ c1) (h : digest_Sum.f a0_0 a0_1 l1 = some r) :
    Calls Try.prog 9 #[.agg #[.int .u64 a0_0, .int .u64 a0_1], .slice A1 l1.length c1] w fun e w' => e = .returned (.int .u64 r) ∧ Below w.heap.size w w' := by
  obtain rfl := Option.some.inj h
  clear h
  have hu24 := Try.underlying24
  have HR1 := Aside0.mk hr1
  have HC1 := Aside0.mk hc1
  clear hr1 hc1
  obtain ⟨⟨b0, b1, b2, b3⟩, hb⟩ : ∃ s, s = sipBegin a0_0 a0_1 := ⟨_, rfl⟩
  have hbeg : Aside0 (∀ W : World, Calls Try.prog 28 #[.agg #[.int .u64 a0_0, .int .u64 a0_1]] W fun e w' => e = .returned (.agg #[.int .u64 b0, .int .u64 b1, .int .u64 b2, .int .u64 b3]) ∧ Below W.heap.size W w') := ⟨fun W => by have h := begin_any a0_0 a0_1 W; rw [← hb] at h; exact h⟩
  have HBG := Aside0.mk hb
  clear hb
  go_enter Try.func9, Try.ntmps9
  go_wp2_with (go_at_call 28; refine (hbeg.out _).mono ?_; rintro e w1 ⟨rfl, hB1⟩; have HB1 := Aside0.mk hB1; clear hB1)
  have hblk : Aside0 (Blk (w1.alloc (.cells #[.int .u64 b0, .int .u64 b1, .int .u64 b2, .int .u64 b3] 45)) w1.heap.size b0 b1 b2 b3) := ⟨blk_new _ _⟩
  have hge : Aside0 (w.heap.size ≤ w1.heap.size) := ⟨by have := HB1.out.size; simp at this; omega⟩
  have hBB : Aside0 (Below w.heap.size w (w1.alloc (.cells #[.int .u64 b0, .int .u64 b1, .int .u64 b2, .int .u64 b3] 45))) := ⟨by
    refine below_alloc (below_then (below_alloc (Below.refl _ _) (.cells #[.int .u64 a0_0, .int .u64 a0_1] 24)) ?_ HB1.out) _
    simp⟩
  go_loopw [1] (fun b wr => ∃ (A : Option Addr) (c q : Nat) (l : List Int) (s0 s1 s2 s3 : Int), b = .slice A l.length c ∧ Aside0 (l = l1.drop (8 * q)) ∧ Aside0 (8 * q ≤ l1.length) ∧ Aside0 (l.length ≤ c) ∧ Aside0 (Kd.C (Kd.int .u8) w A l.length l) ∧ Aside0 (sipLoop (l.length / 8) (s0, s1, s2, s3) l = sipLoop (l1.length / 8) (b0, b1, b2, b3) l1) ∧ Aside0 (Blk wr w1.heap.size s0 s1 s2 s3) ∧ Aside0 (Below w.heap.size w wr)) (fun b _ => match b with | .slice _ n _ => n | _ => 0)
  case atStart => exact ⟨A1, c1, 0, l1, b0, b1, b2, b3, rfl, ⟨rfl⟩, ⟨by omega⟩, HC1, HR1, ⟨rfl⟩, hblk, hBB⟩
  case round =>
    clear hblk hBB
    obtain ⟨A, c, q, l, s0, s1, s2, s3, rfl, hl, hq, hc, hr, hs, hb, hB⟩ := hrel
    have hrW : Aside0 (∀ W, Below w.heap.size w W → Kd.C (Kd.int .u8) W A l.length l) := ⟨fun W h => C_at hr.out h⟩
    obtain ⟨i0, hi0, _, hsz0, _⟩ := info_parts info5
    by_cases h8 : 8 ≤ l.length
    · have hlen : (l.take 8).length = 8 := by rw [List.length_take]; omega
      obtain ⟨hcut, hA, hC⟩ := print_take_of (P := Try.prog) (Value.int .u8) 0 25 5 .i64 Try.underlying25 hi0 hsz0 A c l 8 (by omega) (by omega) hc.out
      obtain ⟨A', hdrop, hA', hC'⟩ := print_drop_of (P := Try.prog) (Value.int .u8) 0 25 5 .i64 Try.underlying25 hi0 hsz0 A c l 8 (by omega) (by omega) hc.out
      simp only [show Int.toNat 8 = 8 from rfl] at hcut hA hC hdrop hA' hC'
      rw [hlen] at hcut hC
      obtain ⟨l', hl'⟩ : ∃ l', l' = l.drop 8 := ⟨_, rfl⟩
      rw [← hl'] at hdrop hA' hC'
      obtain ⟨m, hm⟩ : ∃ m, m = wordOf (l.take 8) := ⟨_, rfl⟩
      obtain ⟨⟨t0, t1, t2, t3⟩, ht⟩ : ∃ s, s = sipTake (s0, s1, s2, s3) m := ⟨_, rfl⟩
      have hword : Aside0 (∀ W, Below w.heap.size w W → Calls Try.prog 30 #[.slice A 8 c] W fun e w' => e = .returned (.int .u64 m) ∧ Drawn0 W w') := ⟨fun W h => by
        have h1 := word_any A c (l.take 8) (by omega) W (Kd.C_of_reads (d := (0 : Int)) (h1 := fun _ => rfl) (hA _ (Kd.reads_of_C (hrW.out W h)))) (by omega)
        rw [hlen, ← hm] at h1
        exact h1⟩
      have htake : Aside0 (∀ W, Blk W w1.heap.size s0 s1 s2 s3 → Calls Try.prog 29 #[.pointer (some ⟨w1.heap.size, 0, none⟩), .int .u64 m] W fun e w' => e = .returned (.tuple #[]) ∧ RPost w1.heap.size (t0, t1, t2, t3) W w') := ⟨fun W h => by rw [ht]; exact take_any _ _ _ _ _ _ W h⟩
      have HRn := Aside0.mk (Kd.C_of_reads (d := (0 : Int)) (h1 := fun _ => rfl) (hA' w (Kd.reads_of_C hr.out)))
      have HCn := Aside0.mk hC'
      have hsn : Aside0 (sipLoop (l'.length / 8) (t0, t1, t2, t3) l' = sipLoop (l1.length / 8) (b0, b1, b2, b3) l1) := ⟨by
        rw [← hs.out, ht, hm, hl']
        have e : l.length / 8 = (l.drop 8).length / 8 + 1 := by rw [List.length_drop]; omega
        rw [e]
        rfl⟩
      have hln : Aside0 (l' = l1.drop (8 * (q + 1))) := ⟨by rw [hl', hl.out, List.drop_drop]; rfl⟩
      have hlen1 : Aside0 (l.length = l1.length - 8 * q) := ⟨by have := hl.out; rw [this, List.length_drop]⟩
      have hlt : Aside0 (l'.length < l.length) := ⟨by rw [hl', List.length_drop]; omega⟩
      clear hA hA' hC hC' hlen hm ht hl' hi0 hsz0
      go_wp2_with (first | (go_at_call 30; refine (hword.out _ (by (repeat (first | apply below_drew1 | apply pw_below_drewN)); exact hB.out)).mono ?_; rintro e w' ⟨rfl, ⟨nd, rfl⟩⟩) | (go_at_call 29; refine (htake.out _ (by (with_reducible repeat (first | refine blk_drewN ?_ _ | refine blk_drew ?_)); exact hb.out)).mono ?_; rintro e w2 ⟨rfl, hr2, hB2⟩; have HBk2 := Aside0.mk hr2; have HB2 := Aside0.mk hB2; clear hr2 hB2))
      go_roundw
      case rel => exact ⟨A', c - 8, q + 1, l', t0, t1, t2, t3, rfl, hln, ⟨by have := hlen1.out; have := hq.out; omega⟩, HCn, HRn, hsn, HBk2, ⟨Below.trans (pw_below_drewN hB.out _) (HB2.out.mono hge.out)⟩⟩
      case measure => exact hlt.out
    · have hqq : q = l1.length / 8 := by have := hl.out; have h2 := hq.out; have h3 : l.length = l1.length - 8 * q := by rw [this, List.length_drop]
                                         omega
      have h0 : l.length / 8 = 0 := by omega
      have hs0 : (s0, s1, s2, s3) = sipLoop (l1.length / 8) (b0, b1, b2, b3) l1 := by rw [← hs.out, h0]; rfl
      obtain ⟨m, hm⟩ : ∃ m, m = wordOf l := ⟨_, rfl⟩
      obtain ⟨n, hn⟩ : ∃ n, n = IntKind.u64.wrap (IntKind.u64.wrap (l1.length : Int) * 72057594037927936) := ⟨_, rfl⟩
      obtain ⟨⟨t0, t1, t2, t3⟩, ht⟩ : ∃ s, s = sipTake (s0, s1, s2, s3) (Go.bits .or .u64 n m) := ⟨_, rfl⟩
      obtain ⟨⟨z0, z1, z2, z3⟩, hz⟩ : ∃ s, s = sipRounds 4 (t0, t1, Go.bits .xor .u64 t2 255, t3) := ⟨_, rfl⟩
      have hword : Aside0 (∀ W, Below w.heap.size w W → Calls Try.prog 30 #[.slice A l.length c] W fun e w' => e = .returned (.int .u64 m) ∧ Drawn0 W w') := ⟨fun W h => by rw [hm]; exact word_any A c l (by omega) W (hrW.out W h) hc.out⟩
      have htake : Aside0 (∀ W, Blk W w1.heap.size s0 s1 s2 s3 → Calls Try.prog 29 #[.pointer (some ⟨w1.heap.size, 0, none⟩), .int .u64 (Go.bits .or .u64 n m)] W fun e w' => e = .returned (.tuple #[]) ∧ RPost w1.heap.size (t0, t1, t2, t3) W w') := ⟨fun W h => by rw [ht]; exact take_any _ _ _ _ _ _ W h⟩
      have hround : Aside0 (∀ W, Blk W w1.heap.size t0 t1 (Go.bits .xor .u64 t2 255) t3 → Calls Try.prog 31 #[.pointer (some ⟨w1.heap.size, 0, none⟩), .int .i64 4] W fun e w' => e = .returned (.tuple #[]) ∧ RPost w1.heap.size (z0, z1, z2, z3) W w') := ⟨fun W h => by rw [hz]; exact rounds_any _ 4 (by omega) _ _ _ _ W h⟩
      have hfin : Aside0 (sip a0_0 a0_1 l1 = Go.bits .xor .u64 (Go.bits .xor .u64 (Go.bits .xor .u64 z0 z1) z2) z3) := ⟨by
        unfold sip sipEnd
        rw [← HBG.out, ← hs0, ← hn, ← hqq, ← hl.out, ← hm, ← ht]
        simp only
        rw [← hz]⟩
      have hn' := Aside0.mk hn
      clear hm ht hz hs0 hqq h0 hi0 hsz0
      rw [← hn]
      clear hn
      go_wp2_with (first | (go_at_call 30; refine (hword.out _ (by (repeat (first | apply below_drew1 | apply pw_below_drewN)); exact hB.out)).mono ?_; rintro e w' ⟨rfl, ⟨nd, rfl⟩⟩) | (go_at_call 29; refine (htake.out _ (by (with_reducible repeat (first | refine blk_drewN ?_ _ | refine blk_drew ?_)); exact hb.out)).mono ?_; rintro e w2 ⟨rfl, hr2, hB2⟩; have HBk2 := Aside0.mk hr2; have HB2 := Aside0.mk hB2; have e2 := (blk_cell hr2 2).trans rfl; have g2 := blk_frozen hr2 2; clear hr2 hB2) | (go_at_call 31; refine (hround.out _ (blk_put HBk2.out 2 _ rfl)).mono ?_; rintro e w3 ⟨rfl, hr3, hB3⟩; have HBk3 := Aside0.mk hr3; have HB3 := Aside0.mk hB3; have d0 := (blk_cell hr3 0).trans rfl; have d1 := (blk_cell hr3 1).trans rfl; have d2 := (blk_cell hr3 2).trans rfl; have d3 := (blk_cell hr3 3).trans rfl; clear hr3 hB3))
      go_ret
      refine ⟨by rw [hfin.out]; rfl, ?_⟩
      refine Below.trans ?_ (HB3.out.mono hge.out)
      refine Below.setCell ?_ hge.out _
      refine Below.trans ?_ (HB2.out.mono hge.out)
      exact pw_below_drewN hB.out _

end Go.Proofs.Ytdgmjhfkaplneaa.PAll
