/- For PathBack: contracts of the functions that it reaches and plain facts, joined out of 12 texts by a program (merge_claim.py): HandP0, HandP1, HandP2, HandP3, HandP4, HandP, PAllx40, PAllx52, PAllx53, PureA, PAllx31, PAllx32. Each text's own conditions stand at its head below. -/
import Derived.Test.YtnjabpgbpgocnaaDoorZPathBack0
import Derived.RangeFuncNested
import Derived.RangeFuncBound
import Derived.RangeFuncCalls
import Derived.RangeFuncLeaves
import Derived.Lib.IndexLaws
import Derived.Shelf.Abstract
import Derived.WalkKit
import Derived.OwnWalkIn
import Derived.TacticsInMore
import Derived.LoopNIn
import Derived.LoopIn
import Derived.Lib.Hide
import Derived.Maps.AppendAt
import Derived.Shelf.RegionOpen

-- HandP0
/- A range over a function whose rounds all go on: the statement out of its iterator's run, and one round out of its body's walk. Conditions: the statement stands outside every round. -/
namespace Go.Proofs.YtnjabpgbpgocnaaDoor.PAll
open Go Go.RowKit
set_option linter.unusedVariables false

variable {F : Fence} {n : Nat} {P : Program}

/-- The record of such a loop, by its state. -/
def recOf (fn : FuncId) (tmps : Array Value) (ps : Array Tmp) (assign body : Code) (d : Nat) (st : LoopState) : Loop :=
  { state := st, pending := none, fn, tmps, params := ps, assign, body, defers := d }

theorem loop_all {g : Operand} {ps : Array Tmp} {assign body : Code} {Q : Exit → Act → World → Prop} {a : Act} {w : World}
    (hro : F.round = none) (h1 : F.depth.isSome = true → 1 ≤ n) {gf : Nat} {lb : Array Value} (hg : a.eval g = .func (.func gf) #[] lb) (hFg : F.fn gf) (eg : ∀ args w, (callFunc gf args).run P w = .ok (.enter gf args) w)
    (h : ∀ fn, F.fn fn → ∀ rec : LoopState → Loop, rec = recOf fn a.tmps ps assign body w.heap.size → CallsIn F (n - 1) P gf (#[.func (.yield (w.heap.size + 1)) #[] #[]] ++ lb)
        ((w.alloc (.deferred (some []))).alloc (.loop (rec .ready))) fun e W' => (∃ v, e = .returned v) ∧
          W'.heap[w.heap.size + 1]? = some (.loop (rec .ready)) ∧
          Q .normal { a with defers := { target := .collected w.heap.size, args := #[] } :: a.defers } (W'.putObj (w.heap.size + 1) (.loop (rec .exhausted)))) :
    (Code.rangeFunc g ps assign body).wpIn F n P Q a w := by
  refine wpIn_rangeFunc ?_
  intro fn hfn
  rw [hro]
  obtain ⟨W1, hW1⟩ : ∃ W1, (w.alloc (.deferred (some []))).alloc (.loop (recOf fn a.tmps ps assign body w.heap.size .ready)) = W1 := ⟨_, rfl⟩
  have hc := h fn hfn _ rfl
  rw [hW1] at hc
  refine ⟨w.heap.size + 1, [{ target := .collected w.heap.size, args := #[] }], W1, { target := .fn (.func gf) lb, args := #[.func (.yield (w.heap.size + 1)) #[] #[]] }, W1, gf,
    #[.func (.yield (w.heap.size + 1)) #[] #[]] ++ lb, W1, ?_, ?_, ?_, ?_, h1, ?_⟩
  · rw [← hW1]; exact run_enterLoop_outer _ _ _ _ _
  · simp only [resolve, hg]
    simp [go_sem]
  · intro f' hf'; simp [Target.leads] at hf'; subst hf'; exact hFg
  · simp [invoke, go_sem, eg]
  · refine hc.mono ?_
    rintro e W2 ⟨⟨v, rfl⟩, hl, hq⟩
    exact ⟨none, _, run_endLoop (P := P) hl (by simp [recOf]), hq⟩

/-- How the body of a round is left: it goes on, the record as it was. -/
def roundOn (l : Nat) (rec : LoopState → Loop) (R : Ending → World → Prop) : Exit → Act → World → Prop
  | .normal, _, W' => W'.heap[l]? = some (.loop (rec .busy)) ∧ R (.returned (.bool true)) (W'.putObj l (.loop (rec .ready)))
  | _, _, _ => False

theorem round_on {l : Nat} {fn : FuncId} {tmps : Array Value} {ps : Array Tmp} {assign body : Code} {d : Nat} {m : Nat} {args : Array Value} {W : World} {R : Ending → World → Prop} {rec : LoopState → Loop}
    (hrec : rec = recOf fn tmps ps assign body d) (hfn : F.fn fn) (hl : W.heap[l]? = some (.loop (rec .ready))) (hs : args.size = ps.size) (a1 : Act)
    (hassign : ∀ K : Act → World → Prop, K a1 W → assign.wpIn (F.inRound l) m P (Exit.then K (fun _ _ _ => False)) { tmps := (ps.zip args).foldl (fun t (p, v) => t.setIfInBounds p v) tmps, defers := [] } W)
    (hbody : body.wpIn (F.inRound l) m P (roundOn l rec R) a1 (W.putObj l (.loop (rec .busy)))) :
    YieldAt F m P l args W R := by
  subst hrec
  have hy := run_yield (P := P) (args := args) hl (by simpa [recOf] using hs)
  refine ⟨fn, _, assign, body, hy, roundIn_of_wpIn hfn (hassign _ ⟨_, run_beginRound hl (by simp [recOf]), ?_⟩)⟩
  refine wpIn_mono hbody ?_
  rintro e a3 W3 hp
  cases e with
  | normal =>
    obtain ⟨hl3, hr⟩ := hp
    exact ⟨_, _, run_endRound (P := P) none hl3, hr⟩
  | ret => exact hp.elim
  | exit id => exact hp.elim
  | goto t => exact hp.elim
  | panic ch => exact hp.elim
  | outgrown => exact hp.elim

end Go.Proofs.YtnjabpgbpgocnaaDoor.PAll

-- HandP1
/- The plain cutting of a list of bytes at its slashes, and strings.Index, strings.splitSeq, strings.SplitSeq (the making of the iterator). No conditions. -/
namespace Go.Proofs.YtnjabpgbpgocnaaDoor.PAll
open Go.RowKit Go.Proofs.YtnjabpgbpgocnaaDoorW.PrintWords Go.Proofs.YtnjabpgbpgocnaaDoorW.PrintLast Go.Proofs.YtnjabpgbpgocnaaDoorW.PrintMore
set_option linter.unusedVariables false
set_option linter.unusedSimpArgs false

/-- All the pieces between slashes, the empty ones too: 'cur' is what has been read of the piece that is not at its end. -/
def splitL : List UInt8 → List UInt8 → List (List UInt8)
  | cur, [] => [cur]
  | cur, b :: l => if b = 47 then cur :: splitL [] l else splitL (cur ++ [b]) l

/-- The pieces of a list of bytes that are not empty. -/
def piecesL : List UInt8 → List UInt8 → List (List UInt8)
  | cur, [] => if cur = [] then [] else [cur]
  | cur, b :: l => if b = 47 then (if cur = [] then piecesL [] l else cur :: piecesL [] l) else piecesL (cur ++ [b]) l

theorem piecesL_eq : ∀ (l cur : List UInt8), piecesL cur l = (splitL cur l).filter fun p => decide (p ≠ [])
  | [], cur => by
    by_cases h : cur = [] <;> simp [piecesL, splitL, h]
  | b :: l, cur => by
    have h1 := piecesL_eq l []
    have h2 := piecesL_eq l (cur ++ [b])
    by_cases hb : b = 47
    · by_cases h : cur = [] <;> simp [piecesL, splitL, hb, h, h1]
    · simp [piecesL, splitL, hb, h2]

theorem splitL_free : ∀ (l cur : List UInt8), (∀ b ∈ l, b ≠ 47) → splitL cur l = [cur ++ l]
  | [], cur, _ => by simp [splitL]
  | b :: l, cur, h => by
    have hb : b ≠ 47 := h b (by simp)
    rw [splitL, if_neg hb, splitL_free l _ (fun x hx => h x (by simp [hx]))]
    simp

theorem splitL_cut : ∀ (p l cur : List UInt8), (∀ b ∈ p, b ≠ 47) → splitL cur (p ++ 47 :: l) = (cur ++ p) :: splitL [] l
  | [], l, cur, _ => by simp [splitL]
  | b :: p, l, cur, h => by
    have hb : b ≠ 47 := h b (by simp)
    rw [List.cons_append, splitL, if_neg hb, splitL_cut p l _ (fun x hx => h x (by simp [hx]))]
    simp

theorem splitL_index_none {l : List UInt8} (h : Lib.indexByte l 47 = -1) : splitL [] l = [l] := by
  rw [splitL_free l [] (fun b hb e => ?_)]
  · simp
  · obtain ⟨k, hk, hkb⟩ := List.getElem_of_mem hb
    exact Lib.indexByte_none h k (by rw [List.getElem?_eq_getElem hk, hkb, e])

theorem splitL_index_some {l : List UInt8} {o : Nat} (h : Lib.indexByte l 47 = o) : splitL [] l = l.take o :: splitL [] (l.drop (o + 1)) := by
  obtain ⟨h1, h2⟩ := Lib.indexByte_some h
  have ho : o < l.length := by
    by_cases hlt : o < l.length
    · exact hlt
    · rw [List.getElem?_eq_none (by omega)] at h1; cases h1
  have hsp : l = l.take o ++ 47 :: l.drop (o + 1) := by
    have := List.take_append_drop o l
    rw [List.drop_eq_getElem_cons ho] at this
    rw [List.getElem?_eq_getElem ho] at h1
    rw [Option.some.inj h1] at this
    exact this.symm
  have hc := splitL_cut (l.take o) (l.drop (o + 1)) [] (fun b hb e => by
    obtain ⟨k, hk, hkb⟩ := List.getElem_of_mem hb
    have hko : k < o := by rw [List.length_take] at hk; omega
    refine h2 k hko ?_
    rw [List.getElem?_eq_getElem (by omega)]
    rw [List.getElem_take] at hkb
    rw [hkb, e])
  rw [← hsp] at hc
  rw [hc]
  simp

theorem splitL_sum : ∀ (l cur : List UInt8), (splitL cur l).length ≤ l.length + 1
  | [], cur => by simp [splitL]
  | b :: l, cur => by
    have h1 := splitL_sum l []
    have h2 := splitL_sum l (cur ++ [b])
    by_cases hb : b = 47 <;> simp [splitL, hb] <;> omega

def ofL (p : List UInt8) : ByteArray := ⟨p.toArray⟩
/-- All the pieces of a text, the empty ones too. -/
def splitB (s : ByteArray) : List ByteArray := (splitL [] s.data.toList).map ofL
def piecesOf (s : ByteArray) : List ByteArray := (piecesL [] s.data.toList).map fun p => ⟨p.toArray⟩

theorem ofL_data (s : ByteArray) : ofL s.data.toList = s := by cases s; simp [ofL]

theorem splitB_none {s : ByteArray} (h : Lib.indexByte s.data.toList 47 = -1) : splitB s = [s] := by
  rw [splitB, splitL_index_none h, List.map_singleton, ofL_data]

theorem splitB_some {s : ByteArray} {o : Nat} (h : Lib.indexByte s.data.toList 47 = o) : splitB s = s.extract 0 o :: splitB (s.extract (o + 1) s.size) := by
  have h1 : (s.extract 0 o).data.toList = s.data.toList.take o := by
    rw [Lib.extract_data]; simp
  have h2 : (s.extract (o + 1) s.size).data.toList = s.data.toList.drop (o + 1) := by
    rw [Lib.extract_data]
    have : s.size = s.data.toList.length := by rw [Array.length_toList]; rfl
    rw [List.take_of_length_le]
    rw [List.length_drop]; omega
  rw [splitB, splitL_index_some h, List.map_cons, splitB, h2, ← h1, ofL_data]

theorem piecesOf_eq (s : ByteArray) : piecesOf s = (splitB s).filter fun x => decide (x.toList ≠ []) := by
  rw [piecesOf, piecesL_eq, splitB, List.filter_map]
  congr 1
  refine List.filter_congr fun p hp => ?_
  rw [Function.comp, Lib.toList_data]
  rfl

theorem piecesOf_length (s : ByteArray) : (piecesOf s).length ≤ s.size + 1 := by
  rw [piecesOf_eq]
  refine Nat.le_trans (List.length_filter_le _ _) ?_
  rw [splitB, List.length_map]
  exact splitL_sum _ _

set_option maxHeartbeats 1000000 in
set_option maxRecDepth 100000 in
theorem strIndex_one (s : ByteArray) (c : UInt8) (w : World) :
    Calls Tryd.prog 63 #[.string s, .string ⟨#[c]⟩] w fun e w' => e = .returned (.int .i64 (Lib.indexByte s.data.toList c)) ∧ w' = w := by
  go_enter Tryd.func63, Tryd.ntmps63
  go_wp2_with (go_at_call 52; refine (index_one _ _ _).mono ?_; rintro e w' ⟨rfl, rfl⟩)
  go_ret
  exact ⟨rfl, rfl⟩

/-- The world behind the making of SplitSeq's iterator. -/
def splitWorld (w : World) (s t : ByteArray) : World := ((w.alloc (.cells #[.string s] 9)).alloc (.cells #[.string t] 9)).alloc (.cells #[.int .i64 0] 3)

set_option maxHeartbeats 1000000 in
set_option maxRecDepth 100000 in
theorem splitSeq_any (s t : ByteArray) (w : World) :
    Calls Tryd.prog 53 #[.string s, .string t, .int .i64 0] w fun e w' =>
      e = .returned (.func (.func 61) #[] #[.pointer (some ⟨w.heap.size + 1, 0, none⟩), .pointer (some ⟨w.heap.size, 0, none⟩), .pointer (some ⟨w.heap.size + 1 + 1, 0, none⟩)]) ∧ splitWorld w s t = w' := by
  go_enter Tryd.func53, Tryd.ntmps53
  go_wp2
  go_ret
  exact ⟨rfl, rfl⟩

set_option maxHeartbeats 1000000 in
set_option maxRecDepth 100000 in
theorem SplitSeq_any (s t : ByteArray) (w : World) :
    Calls Tryd.prog 45 #[.string s, .string t] w fun e w' =>
      e = .returned (.func (.func 61) #[] #[.pointer (some ⟨w.heap.size + 1, 0, none⟩), .pointer (some ⟨w.heap.size, 0, none⟩), .pointer (some ⟨w.heap.size + 1 + 1, 0, none⟩)]) ∧ splitWorld w s t = w' := by
  go_enter Tryd.func45, Tryd.ntmps45
  go_wp2_with (go_at_call 53; refine (splitSeq_any _ _ _).mono ?_; rintro e w' ⟨rfl, rfl⟩)
  go_ret
  exact ⟨rfl, rfl⟩

set_option maxHeartbeats 1000000 in
set_option maxRecDepth 100000 in
theorem parts_any (s : ByteArray) (w : World) :
    Calls Tryd.prog 37 #[.string s] w fun e w' =>
      e = .returned (.func (.func 44) #[] #[.pointer (some ⟨w.heap.size, 0, none⟩)]) ∧ w.alloc (.cells #[.string s] 9) = w' := by
  go_enter Tryd.func37, Tryd.ntmps37
  go_wp2
  go_ret
  exact ⟨rfl, rfl⟩

end Go.Proofs.YtnjabpgbpgocnaaDoor.PAll

-- HandP2
/- The run of strings.SplitSeq's iterator over a text cut at slashes, for every loop whose rounds go on. Conditions: the text is shorter than 2^62 bytes; the loop's invariant bears a store to the iterator's own variable. -/
namespace Go.Proofs.YtnjabpgbpgocnaaDoor.PAll
open Go Go.RowKit Go.Shelf
set_option linter.unusedVariables false
set_option linter.unusedSimpArgs false
attribute [local go_sem] Oper.semAt_some

theorem wide_depth {p : Prop} (h : Fence.wide.depth.isSome = true) : p := by cases h

/-- The three boxes of the iterator: the text that is left, the separator, what of it is saved. -/
def SplitBoxes (W : World) (b : Nat) (cur : ByteArray) : Prop :=
  Boxed W b 9 (.string cur) ∧ Boxed W (b + 1) 9 (.string ⟨#[47]⟩) ∧ Boxed W (b + 1 + 1) 3 (.int .i64 0)

theorem SplitBoxes.set {W : World} {b : Nat} {cur : ByteArray} (h : SplitBoxes W b cur) (c : ByteArray) : SplitBoxes (W.setCell ⟨b, 0, none⟩ (.string c)) b c :=
  ⟨h.1.set _, h.2.1.other (by omega) _, h.2.2.other (by omega) _⟩

def leftSize (b : Nat) (W : World) : Nat := match W.cell? ⟨b, 0, none⟩ with | some (.string c) => c.size | _ => 0
theorem leftSize_eq {W : World} {b : Nat} {cur : ByteArray} (h : SplitBoxes W b cur) : leftSize b W = cur.size := by
  unfold leftSize; rw [h.1.cell]

set_option maxRecDepth 100000 in
set_option maxHeartbeats 2000000 in
theorem split61 (n l b : Nat) (s : ByteArray) (hs : s.size < 4611686018427387904) (J : List ByteArray → World → Prop)
    (hY : ∀ pre x rest cur W1, splitB s = pre ++ x :: rest → J pre W1 → SplitBoxes W1 b cur → YieldAt Fence.wide (n - 1) Tryd.prog l #[.string x] W1 fun e W' =>
      e = .returned (.bool true) ∧ J (pre ++ [x]) W' ∧ SplitBoxes W' b cur)
    (hS : ∀ pre W1 cur c, J pre W1 → SplitBoxes W1 b cur → J pre (W1.setCell ⟨b, 0, none⟩ (.string c)))
    (W : World) (hW : SplitBoxes W b s) (h0 : J [] W) :
    CallsIn Fence.wide n Tryd.prog 61 #[.func (.yield l) #[] #[], .pointer (some ⟨b + 1, 0, none⟩), .pointer (some ⟨b, 0, none⟩), .pointer (some ⟨b + 1 + 1, 0, none⟩)] W fun e W' =>
      (∃ v, e = .returned v) ∧ J (splitB s) W' := by
  refine callsIn_of_wp Tryd.func61 rfl trivial ?_ rfl
  simp only [Tryd.ntmps61, List.size_toArray, List.length_cons, List.length_nil, Nat.reduceAdd, Nat.reduceSub, Array.replicate_succ, Array.replicate_zero, List.push_toArray, List.append_toArray, List.nil_append, List.cons_append]
  have c1 := hW.2.1.cell
  gi_wp2
  clear c1
  gi_loopw [7] (fun _ wr => ∃ pre cur, splitB s = pre ++ splitB cur ∧ J pre wr ∧ SplitBoxes wr b cur ∧ cur.size ≤ s.size) (fun _ wr => leftSize b wr)
  case atStart => exact ⟨[], s, rfl, h0, hW, Nat.le_refl _⟩
  case round =>
    obtain ⟨pre, cur, hcut, hJ, hB, hle⟩ := hrel
    have d1 := hB.1.cell
    have d2 := hB.2.1.cell
    have d3 := hB.2.2.cell
    have f1 := hB.1.frozen
    have hge := Lib.indexByte_ge cur.data.toList 47
    by_cases hi : Lib.indexByte cur.data.toList 47 = -1
    · have hx : Calls Tryd.prog 63 #[.string cur, .string ⟨#[47]⟩] wr fun e w' => e = .returned (.int .i64 (-1)) ∧ wr = w' := by
        refine (strIndex_one cur 47 wr).mono ?_
        rintro e w' ⟨rfl, rfl⟩
        exact ⟨by rw [hi], rfl⟩
      obtain ⟨fn, tmps, assign, body, hy, hR⟩ := hY pre cur [] cur wr (by rw [hcut, splitB_none hi]) hJ hB
      have hc : splitB s = pre ++ [cur] := by rw [hcut, splitB_none hi]
      have HC := Lib.hid hc
      clear hc
      clear hcut hi hge
      gi_wp2_with (refine ⟨trivial, wide_depth, ?_⟩; gi_at_call 63; refine (callsIn_wide.2 hx).mono ?_; rintro e w' ⟨rfl, rfl⟩)
      refine ⟨wide_depth, hR.mono ?_⟩
      rintro e W3 ⟨rfl, hJ3, hB3⟩
      gi_wp2
      go_end0
      exact ⟨⟨_, rfl⟩, by rw [HC.out]; exact hJ3⟩
    · obtain ⟨o, ho⟩ : ∃ o : Nat, Lib.indexByte cur.data.toList 47 = o := ⟨(Lib.indexByte cur.data.toList 47).toNat, by omega⟩
      have hlt : o < cur.size := by
        have h1 := (Lib.indexByte_some ho).1
        by_cases h : o < cur.data.toList.length
        · rw [Array.length_toList] at h; exact h
        · rw [List.getElem?_eq_none (by omega)] at h1; cases h1
      have hx : Calls Tryd.prog 63 #[.string cur, .string ⟨#[47]⟩] wr fun e w' => e = .returned (.int .i64 o) ∧ wr = w' := by
        refine (strIndex_one cur 47 wr).mono ?_
        rintro e w' ⟨rfl, rfl⟩
        exact ⟨by rw [ho], rfl⟩
      obtain ⟨fn, tmps, assign, body, hy, hR⟩ := hY pre (cur.extract 0 o) (splitB (cur.extract (o + 1) cur.size)) cur wr (by rw [hcut, splitB_some ho]) hJ hB
      have hc : splitB s = (pre ++ [cur.extract 0 o]) ++ splitB (cur.extract (o + 1) cur.size) := by
        rw [hcut, splitB_some ho, List.append_assoc, List.singleton_append]
      have HC := Lib.hid hc
      clear hc
      clear hcut hi hge ho
      gi_wp2_with (refine ⟨trivial, wide_depth, ?_⟩; gi_at_call 63; refine (callsIn_wide.2 hx).mono ?_; rintro e w' ⟨rfl, rfl⟩)
      refine ⟨wide_depth, hR.mono ?_⟩
      clear hR hy hx d1 d2 d3 f1
      rintro e W3 ⟨rfl, hJ3, hB3⟩
      have d1 := hB3.1.cell
      have d2 := hB3.2.1.cell
      have f1 := hB3.1.frozen
      gi_wp2
      go_roundw
      case rel => exact ⟨pre ++ [cur.extract 0 o], cur.extract (o + 1) cur.size, HC.out, hS _ _ _ _ hJ3 hB3, hB3.set _, by simp; omega⟩
      case measure => rw [leftSize_eq (hB3.set _), leftSize_eq hB]; simp; omega

end Go.Proofs.YtnjabpgbpgocnaaDoor.PAll

-- HandP3
/- The run of path.parts' iterator, for every loop whose rounds go on. Conditions: the text is shorter than 2^62 bytes; the loop's invariant bears changes in the six blocks that the iterator lays first, and a round keeps these. -/
namespace Go.Proofs.YtnjabpgbpgocnaaDoor.PAll
open Go Go.RowKit Go.Shelf
set_option linter.unusedVariables false
set_option linter.unusedSimpArgs false
attribute [local go_sem] Oper.semAt_some

theorem yieldAt_any {m m' : Nat} {P : Program} {l : Nat} {args : Array Value} {W : World} {R : Ending → World → Prop} (h : YieldAt Fence.wide m P l args W R) : YieldAt Fence.wide m' P l args W R := by
  obtain ⟨fn, tmps, assign, body, hy, hF, hR⟩ := h
  exact ⟨fn, tmps, assign, body, hy, hF, fun c cs _ => hR c cs (room_wide _)⟩

def nonNil (x : ByteArray) : Bool := decide (x.toList ≠ [])

theorem boxed_putObj {W : World} {B l : Nat} {t : TypeId} {v : Value} (h : Boxed W B t v) (o : Obj) (hne : B ≠ l) : Boxed (W.putObj l o) B t v :=
  h.kept (grownBy_putObj' W l o) (fun e => hne (by cases e; rfl))

/-- What the inner loop of parts keeps between its rounds; N: the size of the heap when parts' iterator began. -/
def PartsI (J : List ByteArray → World → Prop) (N l0 : Nat) (rec : LoopState → Loop) (st : LoopState) (pre : List ByteArray) (W : World) : Prop :=
  J (pre.filter nonNil) W ∧ W.heap[N + 5]? = some (.loop (rec st)) ∧ W.heap[N + 4]? = some (.deferred (some [])) ∧
    Boxed W N 31 (.func (.yield l0) #[] #[]) ∧ N + 6 ≤ W.heap.size

set_option maxRecDepth 100000 in
set_option maxHeartbeats 2000000 in
theorem parts44 (n l0 b0 : Nat) (s : ByteArray) (hs : s.size < 4611686018427387904) (J : List ByteArray → World → Prop) (W : World) (hb0 : Boxed W b0 9 (.string s))
    (hY : ∀ pre x rest W1, piecesOf s = pre ++ x :: rest → W.heap.size + 6 ≤ W1.heap.size → J pre W1 → YieldAt Fence.wide 0 Tryd.prog l0 #[.string x] W1 fun e W' =>
      e = .returned (.bool true) ∧ J (pre ++ [x]) W' ∧ W1.heap.size ≤ W'.heap.size ∧ ∀ k, W.heap.size ≤ k → k < W.heap.size + 6 → W'.heap[k]? = W1.heap[k]?)
    (hJ : ∀ pre A B row, J pre A → A.grownBy B row → (∀ r, row = some r → W.heap.size ≤ r ∧ r < W.heap.size + 6) → J pre B)
    (h0 : J [] W) :
    CallsIn Fence.wide n Tryd.prog 44 #[.func (.yield l0) #[] #[], .pointer (some ⟨b0, 0, none⟩)] W fun e W' =>
      (∃ v, e = .returned v) ∧ J (piecesOf s) W' := by
  refine callsIn_of_wp_marks Tryd.func44 rfl trivial ?_ rfl
  simp only [Tryd.ntmps44, List.size_toArray, List.length_cons, List.length_nil, Nat.reduceAdd, Nat.reduceSub, Array.replicate_succ, Array.replicate_zero, List.push_toArray, List.append_toArray, List.nil_append, List.cons_append]
  have c0 := (hb0.alloc (.cells #[.func (.yield l0) #[] #[]] 31)).cell
  gi_wp2_with (refine ⟨trivial, wide_depth, ?_⟩; gi_at_call 45; refine (callsIn_wide.2 (SplitSeq_any s ⟨#[47]⟩ _)).mono ?_; rintro e w' ⟨rfl, rfl⟩)
  obtain ⟨W0, hW0⟩ : ∃ W0, splitWorld (W.alloc (.cells #[.func (.yield l0) #[] #[]] 31)) s ⟨#[47]⟩ = W0 := ⟨_, rfl⟩
  have hz : W0.heap.size = W.heap.size + 4 := by rw [← hW0]; simp [splitWorld]
  have hJ0 : J [] W0 := by
    rw [← hW0]
    refine hJ _ _ _ none (hJ _ _ _ none (hJ _ _ _ none (hJ _ _ _ none h0 (World.grownBy_alloc _ _ none) ?_) (World.grownBy_alloc _ _ none) ?_) (World.grownBy_alloc _ _ none) ?_) (World.grownBy_alloc _ _ none) ?_ <;> (intro r e; cases e)
  have hby : Boxed W0 W.heap.size 31 (.func (.yield l0) #[] #[]) := by
    rw [← hW0]
    exact (((Boxed.new W 31 _).alloc _).alloc _).alloc _
  have hbx : SplitBoxes W0 (W.heap.size + 1) s := by
    rw [← hW0]
    have b1 := Boxed.new (W.alloc (.cells #[.func (.yield l0) #[] #[]] 31)) 9 (.string s)
    have b2 := Boxed.new ((W.alloc (.cells #[.func (.yield l0) #[] #[]] 31)).alloc (.cells #[.string s] 9)) 9 (.string ⟨#[47]⟩)
    have b3 := Boxed.new (((W.alloc (.cells #[.func (.yield l0) #[] #[]] 31)).alloc (.cells #[.string s] 9)).alloc (.cells #[.string ⟨#[47]⟩] 9)) 3 (.int .i64 0)
    simp only [World.size_alloc] at b1 b2 b3
    exact ⟨(b1.alloc _).alloc _, b2.alloc _, b3⟩
  rw [hW0]
  clear hW0 c0
  refine loop_all rfl wide_depth (gf := 61) (lb := #[.pointer (some ⟨W.heap.size + 1 + 1, 0, none⟩), .pointer (some ⟨W.heap.size + 1, 0, none⟩), .pointer (some ⟨W.heap.size + 1 + 1 + 1, 0, none⟩)]) rfl trivial (enters_of Tryd.func61 (by kernel_rfl) rfl) ?_
  intro fn hfn rec hrec
  have HR := Lib.hid hrec
  clear hrec
  have hK4 : ((W0.alloc (.deferred (some []))).alloc (.loop (rec .ready))).heap[W.heap.size + 4]? = some (.deferred (some [])) := by
    rw [← hz]; exact (Below.heap_alloc _ _ _ (by simp)).trans (World.alloc_heap_new W0 _)
  have hL5 : ((W0.alloc (.deferred (some []))).alloc (.loop (rec .ready))).heap[W.heap.size + 5]? = some (.loop (rec .ready)) := by
    have := World.alloc_heap_new (W0.alloc (.deferred (some []))) (.loop (rec .ready))
    rwa [World.size_alloc, hz] at this
  rw [show W0.heap.size + 1 = W.heap.size + 5 by omega]
  refine (split61 _ (W.heap.size + 5) (W.heap.size + 1) s hs (PartsI J W.heap.size l0 rec .ready) ?_ ?_ _ ⟨(hbx.1.alloc _).alloc _, (hbx.2.1.alloc _).alloc _, (hbx.2.2.alloc _).alloc _⟩ ?_).mono ?_
  · -- one round
    rintro pre x rest cur W1 hcut ⟨hj, hl, hk, hy, hsz⟩ hb
    refine round_on HR.out hfn hl rfl { tmps := #[.func (.yield l0) #[] #[], .pointer (some ⟨b0, 0, none⟩), .pointer (some ⟨W.heap.size, 0, none⟩), .string x, .string s, .func (.func 61) #[] #[.pointer (some ⟨W.heap.size + 1 + 1, 0, none⟩), .pointer (some ⟨W.heap.size + 1, 0, none⟩), .pointer (some ⟨W.heap.size + 1 + 1 + 1, 0, none⟩)], .string x, undef, undef, undef, undef, undef, undef, undef, undef], defers := [] } ?_ ?_
    · intro K hK
      gi_wp2
      exact hK
    · obtain ⟨W2, hW2⟩ : ∃ W2, W1.putObj (W.heap.size + 5) (.loop (rec .busy)) = W2 := ⟨_, rfl⟩
      have hj2 : J (pre.filter nonNil) W2 := by rw [← hW2]; exact hJ _ _ _ _ hj (grownBy_putObj' W1 _ _) (by rintro r e; cases e; omega)
      have hl2 : W2.heap[W.heap.size + 5]? = some (.loop (rec .busy)) := by rw [← hW2]; exact World.putObj_heap_same (by omega)
      have hk2 : W2.heap[W.heap.size + 4]? = some (.deferred (some [])) := by rw [← hW2]; exact (World.putObj_heap_other (by omega)).trans hk
      have hy2 : Boxed W2 W.heap.size 31 (.func (.yield l0) #[] #[]) := by rw [← hW2]; exact boxed_putObj hy _ (by omega)
      have hb2 : SplitBoxes W2 (W.heap.size + 1) cur := by
        rw [← hW2]; exact ⟨boxed_putObj hb.1 _ (by omega), boxed_putObj hb.2.1 _ (by omega), boxed_putObj hb.2.2 _ (by omega)⟩
      have hz2 : W.heap.size + 6 ≤ W2.heap.size := by rw [← hW2]; simpa using hsz
      rw [hW2]
      clear hW2 hj hl hk hy hb hsz
      have c2 := hy2.cell
      by_cases hx : x.toList = []
      · have hn : nonNil x = false := by simp [nonNil, hx]
        have HF : Hid ((pre ++ [x]).filter nonNil = pre.filter nonNil) := by simp [hn]; trivial
        clear hn
        gi_wp2
        refine ⟨fun _ h => (by cases h), ?_⟩
        gi_wp2
        refine ⟨hl2, rfl, ⟨?_, World.putObj_heap_same (by omega), (World.putObj_heap_other (by omega)).trans hk2, boxed_putObj hy2 _ (by omega), by simpa using hz2⟩, boxed_putObj hb2.1 _ (by omega), boxed_putObj hb2.2.1 _ (by omega), boxed_putObj hb2.2.2 _ (by omega)⟩
        rw [HF.out]
        exact hJ _ _ _ _ hj2 (grownBy_putObj' W2 _ _) (by rintro r e; cases e; omega)
      · have hn : nonNil x = true := by simp [nonNil, hx]
        have hp : piecesOf s = pre.filter nonNil ++ x :: rest.filter nonNil := by
          rw [piecesOf_eq, hcut, List.filter_append]
          congr 1
          exact List.filter_cons_of_pos hn
        obtain ⟨fn', tmps', assign', body', hyy, hR⟩ := yieldAt_any (m' := n - 1 - 1 - 1) (hY _ _ _ _ hp hz2 hj2)
        have hF0 : (pre ++ [x]).filter nonNil = pre.filter nonNil ++ [x] := by simp [hn]
        have HF := Lib.hid hF0
        clear hn hp hF0 hcut
        gi_wp2
        refine ⟨wide_depth, RoundIn.mono hR ?_⟩
        clear hR hyy
        rintro e W3 ⟨rfl, hj3, hz3, hf3⟩
        have hl3 := (hf3 (W.heap.size + 5) (by omega) (by omega)).trans hl2
        have hk3 := (hf3 (W.heap.size + 4) (by omega) (by omega)).trans hk2
        have hy3 : Boxed W3 W.heap.size 31 (.func (.yield l0) #[] #[]) := (hf3 _ (by omega) (by omega)).trans hy2
        have hb31 : Boxed W3 (W.heap.size + 1) 9 (.string cur) := (hf3 _ (by omega) (by omega)).trans hb2.1
        have hb32 : Boxed W3 (W.heap.size + 1 + 1) 9 (.string ⟨#[47]⟩) := (hf3 _ (by omega) (by omega)).trans hb2.2.1
        have hb33 : Boxed W3 (W.heap.size + 1 + 1 + 1) 3 (.int .i64 0) := (hf3 _ (by omega) (by omega)).trans hb2.2.2
        clear hf3 hl2 hk2 hy2 hb2 c2
        gi_wp2
        refine ⟨hl3, rfl, ⟨?_, World.putObj_heap_same (by omega), (World.putObj_heap_other (by omega)).trans hk3, boxed_putObj hy3 _ (by omega), by simp; omega⟩, boxed_putObj hb31 _ (by omega), boxed_putObj hb32 _ (by omega), boxed_putObj hb33 _ (by omega)⟩
        rw [HF.out]
        exact hJ _ _ _ _ hj3 (grownBy_putObj' W3 _ _) (by rintro r e; cases e; omega)
  · -- the store to the iterator's own variable
    rintro pre W1 cur c ⟨hj, hl, hk, hy, hsz⟩ hb
    refine ⟨hJ _ _ _ _ hj (grownBy_setCell' W1 _ _) (by rintro r e; cases e; omega), ?_, ?_, hy.other (by omega) _, ?_⟩
    · exact (Below.heap_setCell W1 _ _ _ (by show W.heap.size + 5 ≠ W.heap.size + 1; omega)).trans hl
    · exact (Below.heap_setCell W1 _ _ _ (by show W.heap.size + 4 ≠ W.heap.size + 1; omega)).trans hk
    · exact Nat.le_trans hsz (KeepsOthers.setCell W1 _ _).size
  · -- at the start
    refine ⟨?_, hL5, hK4, (hby.alloc _).alloc _, by simp; omega⟩
    exact hJ _ _ _ none (hJ _ _ _ none hJ0 (World.grownBy_alloc _ _ none) (by intro r e; cases e)) (World.grownBy_alloc _ _ none) (by intro r e; cases e)
  · -- behind the loop
    rintro e W2 ⟨hv, hj, hl, hk, hy, hsz⟩
    refine ⟨hv, hl, ?_⟩
    have hk' : (W2.putObj (W.heap.size + 5) (.loop (rec .exhausted))).heap[W.heap.size + 4]? = some (.deferred (some [])) := (World.putObj_heap_other (by omega)).trans hk
    gi_wp2
    refine ⟨by simp, .inl ⟨_, _, rfl, run_takeDeferred hk', ?_⟩⟩
    refine ⟨_, results_none rfl _ _ _, ⟨_, rfl⟩, ?_⟩
    have hpe : piecesOf s = (splitB s).filter nonNil := piecesOf_eq s
    rw [hpe]
    exact hJ _ _ _ _ (hJ _ _ _ _ hj (grownBy_putObj' W2 _ _) (by rintro r e; cases e; omega)) (grownBy_putObj' _ _ _) (by rintro r e; cases e; omega)

end Go.Proofs.YtnjabpgbpgocnaaDoor.PAll

-- HandP4
/- strings.HasPrefix and strings.HasSuffix at a slash, as facts on the first and the last byte. Condition (HasSuffix): the text is shorter than 2^62 bytes. -/
namespace Go.Proofs.YtnjabpgbpgocnaaDoor.PAll
open Go.RowKit Go.Proofs.YtnjabpgbpgocnaaDoorW.PrintWords Go.Proofs.YtnjabpgbpgocnaaDoorW.PrintLast Go.Proofs.YtnjabpgbpgocnaaDoorW.PrintMore
set_option linter.unusedVariables false
set_option linter.unusedSimpArgs false

theorem first_eq (l : List UInt8) : (l.take 1 == [47]) = decide (l.head? = some 47) := by
  rw [Bool.eq_iff_iff, beq_iff_eq, decide_eq_true_eq]
  cases l <;> simp

theorem last_eq (l : List UInt8) : (l.drop (l.length - 1) == [47]) = decide (l.getLast? = some 47) := by
  rw [Bool.eq_iff_iff, beq_iff_eq, decide_eq_true_eq]
  rcases List.eq_nil_or_concat l with rfl | ⟨l', b, rfl⟩
  · simp
  · simp

theorem first_of (s : ByteArray) (h : 1 ≤ s.size) : ((s.extract 0 1).toList == [47]) = decide (s.data.toList.head? = some 47) := by
  rw [← first_eq, Lib.toList_data, Lib.extract_data]
  simp

theorem last_of (s : ByteArray) : ((s.extract (s.size - 1) s.size).toList == [47]) = decide (s.data.toList.getLast? = some 47) := by
  have hz : s.size = s.data.toList.length := by rw [Array.length_toList]; rfl
  rw [← last_eq, Lib.toList_data, Lib.extract_data, hz]
  rw [List.take_of_length_le]
  rw [List.length_drop]
  exact Nat.le_refl _

def firstSlash (s : ByteArray) : Bool := decide (s.data.toList.head? = some 47)
def lastSlash (s : ByteArray) : Bool := decide (s.data.toList.getLast? = some 47)

set_option maxHeartbeats 1000000 in
set_option maxRecDepth 100000 in
theorem prefix40 (s : ByteArray) (w : World) : Calls Tryd.prog 40 #[.string s, .string ⟨#[47]⟩] w fun e w' => e = .returned (.bool (firstSlash s)) ∧ w = w' := by
  by_cases h : 1 ≤ s.size
  · have HF := Lib.hid (show _ = firstSlash s from first_of s h)
    have h1 : decide (1 ≤ s.size) = true := decide_eq_true h
    have h2 : decide ((1 : Int) ≤ (s.size : Int)) = true := decide_eq_true (by omega)
    go_enter Tryd.func40, Tryd.ntmps40
    go_wp2
    go_ret
    exact ⟨by rw [← HF.out]; rfl, rfl⟩
  · have hz : s.size = 0 := by omega
    have hl : s.data.toList = [] := List.length_eq_zero_iff.1 (by rw [Array.length_toList]; exact hz)
    have HF : Hid (firstSlash s = false) := Lib.hid (by unfold firstSlash; rw [hl]; rfl)
    have h1 : decide (1 ≤ s.size) = false := decide_eq_false h
    have h2 : decide ((1 : Int) ≤ (s.size : Int)) = false := decide_eq_false (by omega)
    clear hz hl
    go_enter Tryd.func40, Tryd.ntmps40
    go_wp2
    go_ret
    exact ⟨by rw [HF.out]; rfl, rfl⟩

set_option maxHeartbeats 1000000 in
set_option maxRecDepth 100000 in
theorem prefix28 (s : ByteArray) (w : World) : Calls Tryd.prog 28 #[.string s, .string ⟨#[47]⟩] w fun e w' => e = .returned (.bool (firstSlash s)) ∧ w = w' := by
  go_enter Tryd.func28, Tryd.ntmps28
  go_wp2_with (go_at_call 40; refine (prefix40 _ _).mono ?_; rintro e w' ⟨rfl, rfl⟩)
  go_ret
  exact ⟨rfl, rfl⟩

set_option maxHeartbeats 1000000 in
set_option maxRecDepth 100000 in
theorem suffix39 (s : ByteArray) (w : World) (hs : s.size < 4611686018427387904) : Calls Tryd.prog 39 #[.string s, .string ⟨#[47]⟩] w fun e w' => e = .returned (.bool (lastSlash s)) ∧ w = w' := by
  by_cases h : 1 ≤ s.size
  · have HF := Lib.hid (show _ = lastSlash s from last_of s)
    have h1 : decide (1 ≤ s.size) = true := decide_eq_true h
    have h2 : decide ((1 : Int) ≤ (s.size : Int)) = true := decide_eq_true (by omega)
    go_enter Tryd.func39, Tryd.ntmps39
    go_wp2
    go_ret
    exact ⟨by rw [← HF.out]; rfl, rfl⟩
  · have hz : s.size = 0 := by omega
    have hl : s.data.toList = [] := List.length_eq_zero_iff.1 (by rw [Array.length_toList]; exact hz)
    have HF : Hid (lastSlash s = false) := Lib.hid (by unfold lastSlash; rw [hl]; rfl)
    have h1 : decide (1 ≤ s.size) = false := decide_eq_false h
    have h2 : decide ((1 : Int) ≤ (s.size : Int)) = false := decide_eq_false (by omega)
    clear hz hl
    go_enter Tryd.func39, Tryd.ntmps39
    go_wp2
    go_ret
    exact ⟨by rw [HF.out]; rfl, rfl⟩

set_option maxHeartbeats 1000000 in
set_option maxRecDepth 100000 in
theorem suffix27 (s : ByteArray) (w : World) (hs : s.size < 4611686018427387904) : Calls Tryd.prog 27 #[.string s, .string ⟨#[47]⟩] w fun e w' => e = .returned (.bool (lastSlash s)) ∧ w = w' := by
  go_enter Tryd.func27, Tryd.ntmps27
  go_wp2_with (go_at_call 39; refine (suffix39 _ _ hs).mono ?_; rintro e w' ⟨rfl, rfl⟩)
  go_ret
  exact ⟨rfl, rfl⟩

end Go.Proofs.YtnjabpgbpgocnaaDoor.PAll

-- HandP
/- The contract of path.Split: the pieces that are not empty; whether the text begins and ends with a slash. Condition: the text is shorter than 2^32 bytes. -/
namespace Go.Proofs.YtnjabpgbpgocnaaDoor.PAll
open Go.RowKit Go.Shelf Go.Proofs.YtnjabpgbpgocnaaDoorW.PrintWords Go.Proofs.YtnjabpgbpgocnaaDoorW.PrintLast Go.Proofs.YtnjabpgbpgocnaaDoorW.PrintMore
set_option linter.unusedVariables false
set_option linter.unusedSimpArgs false
attribute [local go_sem] Oper.semAt_some

/-- A box below the row's blocks, behind an append to the row and the store of the new slice into the box. -/
theorem appended_high {W w1 : World} {n₀ B : Nat} {t e : TypeId} {size : Nat} {v v' : Value} {k m : Nat} {xs ys : List Value} {tmp : Obj}
    (hv : Boxed W B t v) (hte : t ≠ e) (hrow : W.ownsRow n₀ e size v k xs) (hn₀ : n₀ ≤ W.heap.size) (hB : B < n₀)
    (hown' : w1.ownsRow n₀ e size v' m ys) (hgrow : (W.alloc tmp).grownBy w1 v.ownBlock) :
    Boxed w1 B t v ∧ Boxed (w1.setCell ⟨B, 0, none⟩ v') B t v' ∧ (w1.setCell ⟨B, 0, none⟩ v').ownsRow n₀ e size v' m ys ∧ Below B W (w1.setCell ⟨B, 0, none⟩ v') ∧
      W.heap.size ≤ (w1.setCell ⟨B, 0, none⟩ v').heap.size ∧ ∀ j, j < n₀ → j ≠ B → (w1.setCell ⟨B, 0, none⟩ v').heap[j]? = W.heap[j]? := by
  have hv1 : Boxed w1 B t v := (hv.alloc tmp).kept hgrow (hv.not_row hte hrow)
  have hown : ∀ j, v.ownBlock = some j → n₀ ≤ j := fun j ej => by
    rcases hrow.2 with ⟨rfl, _⟩ | ⟨g, cap, cur, rfl, hb, _, _⟩
    · simp [Value.ownBlock] at ej
    · obtain rfl : g = j := by simpa [Value.ownBlock] using ej
      exact hb
  refine ⟨hv1, hv1.set v', hown'.kept (grownBy_setCell' w1 B v') (.inr (hv1.not_row hte hown').symm), ?_, ?_, ?_⟩
  · exact (((Below.refl B W).alloc (by omega) tmp).grown hgrow (by simp; omega) fun j ej => by have := hown j ej; omega).setCell (p := ⟨B, 0, none⟩) (Nat.le_refl _) v'
  · have h1 := hgrow.size
    have h2 := (KeepsOthers.setCell w1 ⟨B, 0, none⟩ v').size
    simp at h1
    omega
  · intro j hj hne
    refine (Below.heap_setCell w1 _ _ _ hne).trans ((hgrow.block j (by simp; omega) fun ej => by have := hown j ej.symm; omega).trans ?_)
    exact Below.heap_alloc W tmp j (by omega)

theorem own_strings {w : World} {base base' : Nat} {v : Value} {xs : List ByteArray} (h : w.ownsRow base' 9 1 v xs.length (xs.map Value.string)) (hb : base ≤ base') : Kd.R Kd.string 9 w base (fun _ => True) v xs := by
  refine ⟨fun _ _ => trivial, xs.map Value.string, ?_, by simp [Kd.string, Kd.scalar], fun j p hp => ?_⟩
  · obtain ⟨h1, h2⟩ := h
    refine ⟨h1, ?_⟩
    rcases h2 with h2 | ⟨g, cap, cur, rfl, hg, r⟩
    · exact .inl h2
    · exact .inr ⟨g, cap, cur, rfl, Nat.le_trans hb hg, r⟩
  · have hlt : j < xs.length := (List.getElem?_eq_some_iff.1 hp).1
    have : ((xs.map Value.string).drop j).take 1 = [Value.string p] := by
      rw [List.drop_eq_getElem_cons (by simpa using hlt)]
      obtain ⟨_, rfl⟩ := List.getElem?_eq_some_iff.1 hp
      simp
    simpa [Kd.string, Kd.scalar] using this

/-- path.Split, of a text that is shorter than 2^32 bytes. -/
def path_Split.f (s : ByteArray) : Option (List ByteArray × Bool × Bool) :=
  if s.size < 4294967296 then some (piecesOf s, firstSlash s, lastSlash s) else none

/-- The code goes on. -/
def goesOn (R : Act → World → Prop) : Exit → Act → World → Prop
  | .normal, a, w => R a w
  | _, _, _ => False

/-- What the loop of path.Split keeps; B: the size of the heap when the call began. -/
def SplitJ (w : World) (rec : LoopState → Loop) (pre : List ByteArray) (W : World) : Prop :=
  (∃ v, Boxed W w.heap.size 33 v ∧ W.ownsRow (w.heap.size + 10) 9 1 v pre.length (pre.map Value.string)) ∧
    W.heap[w.heap.size + 3]? = some (.loop (rec .ready)) ∧ W.heap[w.heap.size + 2]? = some (.deferred (some [])) ∧ Below w.heap.size w W ∧ w.heap.size + 4 ≤ W.heap.size

set_option maxRecDepth 100000 in
set_option maxHeartbeats 2000000 in
theorem split19 (s : ByteArray) (w : World) (hs : s.size < 4294967296) :
    Calls Tryd.prog 19 #[.string s] w fun e w' => ∃ v0_ : Value, e = .returned (.tuple #[v0_, .bool (firstSlash s), .bool (lastSlash s)]) ∧ Kd.R Kd.string 9 w' w.heap.size (fun _ => True) v0_ (piecesOf s) ∧ Below w.heap.size w w' := by
  refine (callsIn_wide (n := 5)).1 ?_
  obtain ⟨i0, hi, hz0, hz1, hz2⟩ := info_parts info9
  refine callsIn_of_wp_marks Tryd.func19 rfl trivial ?_ rfl
  simp only [Tryd.ntmps19, List.size_toArray, List.length_cons, List.length_nil, Nat.reduceAdd, Nat.reduceSub, Array.replicate_succ, Array.replicate_zero, List.push_toArray, List.append_toArray, List.nil_append, List.cons_append]
  gi_wp2_with (refine ⟨trivial, ?_⟩; gi_at_call 37; refine (callsIn_wide.2 (parts_any s _)).mono ?_; rintro e w' ⟨rfl, rfl⟩)
  obtain ⟨W0, hW0⟩ : ∃ W0, (w.alloc (.cells #[.slice none 0 0] 33)).alloc (.cells #[.string s] 9) = W0 := ⟨_, rfl⟩
  have hz : W0.heap.size = w.heap.size + 2 := by rw [← hW0]; simp
  have hbl : Below w.heap.size w W0 := by rw [← hW0]; exact ((Below.refl _ w).alloc (Nat.le_refl _) _).alloc (by simp) _
  have hbP : Boxed W0 w.heap.size 33 (.slice none 0 0) := by rw [← hW0]; exact (Boxed.new w 33 _).alloc _
  have hbS : Boxed W0 (w.heap.size + 1) 9 (.string s) := by
    have := Boxed.new (w.alloc (.cells #[.slice none 0 0] 33)) 9 (.string s)
    rw [World.size_alloc] at this
    rw [← hW0]; exact this
  rw [hW0]
  clear hW0
  refine loop_all rfl wide_depth (gf := 44) (lb := #[.pointer (some ⟨w.heap.size + 1, 0, none⟩)]) rfl trivial (enters_of Tryd.func44 (by kernel_rfl) rfl) ?_
  intro fn hfn rec hrec
  have HR := Lib.hid hrec
  clear hrec
  have hK2 : ((W0.alloc (.deferred (some []))).alloc (.loop (rec .ready))).heap[w.heap.size + 2]? = some (.deferred (some [])) := by
    rw [← hz]; exact (Below.heap_alloc _ _ _ (by simp)).trans (World.alloc_heap_new W0 _)
  have hL3 : ((W0.alloc (.deferred (some []))).alloc (.loop (rec .ready))).heap[w.heap.size + 3]? = some (.loop (rec .ready)) := by
    have := World.alloc_heap_new (W0.alloc (.deferred (some []))) (.loop (rec .ready))
    rwa [World.size_alloc, hz] at this
  rw [show W0.heap.size + 1 = w.heap.size + 3 by omega]
  have hz4 : ((W0.alloc (.deferred (some []))).alloc (.loop (rec .ready))).heap.size = w.heap.size + 4 := by simp; omega
  refine (parts44 _ (w.heap.size + 3) (w.heap.size + 1) s (by omega) (SplitJ w rec) _ ((hbS.alloc _).alloc _) ?_ ?_ ?_).mono ?_
  · -- one round
    rw [hz4]
    rintro pre x rest W1 hcut hzz ⟨⟨v, hv, hrow⟩, hl, hk, hB, hsz⟩
    have hlen : pre.length ≤ 4294967296 := by
      have := piecesOf_length s
      rw [hcut] at this
      simp at this
      omega
    clear hcut
    refine round_on HR.out hfn hl rfl { tmps := #[.string s, undef, .pointer (some ⟨w.heap.size, 0, none⟩), .bool false, .bool false, .string x, .string s, .func (.func 44) #[] #[.pointer (some ⟨w.heap.size + 1, 0, none⟩)], .string x, undef, undef, undef, undef, undef, undef, undef, undef, undef], defers := [] } ?_ ?_
    · intro K hK
      gi_wp2
      exact hK
    · obtain ⟨W2, hW2⟩ : ∃ W2, W1.putObj (w.heap.size + 3) (.loop (rec .busy)) = W2 := ⟨_, rfl⟩
      have hv2 : Boxed W2 w.heap.size 33 v := by rw [← hW2]; exact boxed_putObj hv _ (by omega)
      have hrow2 : W2.ownsRow (w.heap.size + 10) 9 1 v pre.length (pre.map Value.string) := by rw [← hW2]; exact ownsRow_putObj hrow _ hl rfl
      have hl2 : W2.heap[w.heap.size + 3]? = some (.loop (rec .busy)) := by rw [← hW2]; exact World.putObj_heap_same (by omega)
      have hk2 : W2.heap[w.heap.size + 2]? = some (.deferred (some [])) := by rw [← hW2]; exact (World.putObj_heap_other (by omega)).trans hk
      have hB2 : Below w.heap.size w W2 := by rw [← hW2]; exact hB.grown (grownBy_putObj' W1 _ _) (by omega) (by rintro k e; cases e; omega)
      have hz2' : w.heap.size + 10 ≤ W2.heap.size := by rw [← hW2]; simp; omega
      have hzl : W1.heap.size ≤ W2.heap.size := by rw [← hW2]; simp
      have hfr : ∀ k, w.heap.size + 4 ≤ k → W2.heap[k]? = W1.heap[k]? := fun k hk => by rw [← hW2]; exact World.putObj_heap_other (by omega)
      have HFR := Lib.hid hfr
      rw [hW2]
      clear hW2 hfr hv hrow hl hk hB hzz hsz
      have hc := hv2.cell
      gi_wp2_with (gi_at_builtin; refine wpListIn_append_own _ rfl _ _ 33 rfl (w.heap.size + 10) 9 i0 (.string ByteArray.empty) 1 16 Tryd.underlying33 hi hz0 hz1 hz2 rfl (by decide) _ _ _ rfl (hrow2.alloc _) ⟨W2.heap.size, 0, none⟩ 1 1 [.string x] rfl rfl (cell_one_new _ _ _) (by simp [Value.oneCell']) (by unfold maxLen; omega) (by omega) (by simp; omega) ?_; intro v' w1 hown' hgrow _; obtain ⟨g', cap', rfl⟩ := ownsRow_succ hown'; obtain ⟨a1, a2, a3, a4, a5, a6⟩ := appended_high hv2 (by decide) hrow2 hz2' (by omega) hown' hgrow; have hc1 := a1.cell; have hf1 := a1.frozen)
      have hl3 := (a6 (w.heap.size + 3) (by omega) (by omega)).trans hl2
      refine ⟨hl3, rfl, ⟨⟨_, boxed_putObj a2 _ (by omega), by simpa using ownsRow_putObj a3 _ hl3 rfl⟩, World.putObj_heap_same (Array.getElem?_eq_some_iff.1 hl3).1, (World.putObj_heap_other (by omega)).trans ((a6 _ (by omega) (by omega)).trans hk2),
        (hB2.trans a4).grown (grownBy_putObj' _ _ _) (hB2.trans a4).size (by rintro k e; cases e; omega), by rw [World.putObj_size]; omega⟩, by rw [World.putObj_size]; omega, fun k h1 h2 => (World.putObj_heap_other (by omega)).trans ((a6 k (by omega) (by omega)).trans (HFR.out k h1))⟩
  · -- changes in the iterator's own blocks
    rw [hz4]
    rintro pre A B row ⟨⟨v, hv, hrow⟩, hl, hk, hB, hsz⟩ hg hr
    have hne : ∀ k, (k < w.heap.size + 4 ∨ w.heap.size + 10 ≤ k) → some k ≠ row := fun k hk e => by have := hr k e.symm; omega
    refine ⟨⟨v, hv.kept hg (hne _ (by omega)), hrow.kept hg ?_⟩, (hg.block _ (by omega) (hne _ (by omega))).trans hl, (hg.block _ (by omega) (hne _ (by omega))).trans hk, hB.grown hg hB.size (fun k e => by have := hr k e; omega), Nat.le_trans hsz hg.size⟩
    rcases hrow.2 with ⟨rfl, _⟩ | ⟨g, cap, cur, rfl, hgb, _⟩
    · exact .inl rfl
    · exact .inr (hne g (by omega))
  · -- at the start
    exact ⟨⟨_, (hbP.alloc _).alloc _, World.ownsRow_nil _ _ _ _⟩, hL3, hK2, (hbl.alloc hbl.size _).alloc (by simp; omega) _, by omega⟩
  · -- behind the loop
    rintro e W2 ⟨hv, ⟨v, hv2, hrow⟩, hl, hk, hB, hsz⟩
    refine ⟨hv, hl, ?_⟩
    have hv3 := boxed_putObj hv2 (.loop (rec .exhausted)) (l := w.heap.size + 3) (by omega)
    have hrow3 := ownsRow_putObj hrow (.loop (rec .exhausted)) hl rfl
    have hk3 : (W2.putObj (w.heap.size + 3) (.loop (rec .exhausted))).heap[w.heap.size + 2]? = some (.deferred (some [])) := (World.putObj_heap_other (by omega)).trans hk
    have hB3 : Below w.heap.size w (W2.putObj (w.heap.size + 3) (.loop (rec .exhausted))) := hB.grown (grownBy_putObj' W2 _ _) (by omega) (by rintro k e; cases e; omega)
    generalize W2.putObj (w.heap.size + 3) (.loop (rec .exhausted)) = W3 at *
    clear hl hk hB hsz hv2 hrow
    have hc3 := hv3.cell
    have hf3 := hv3.frozen
    have hs' : s.size < 4611686018427387904 := by omega
    obtain ⟨A, c, rfl⟩ : ∃ A c, v = .slice A (piecesOf s).length c := by
      rcases hrow3.2 with ⟨rfl, h0⟩ | ⟨g, cap, cur, rfl, _⟩
      · exact ⟨none, 0, by rw [h0]⟩
      · exact ⟨_, _, rfl⟩
    gi_wp2
    have hmx : Tryd.prog.follows .mixedOrders = true := by kernel_rfl
    have K1 : ∀ {c : Code} {Q : Exit → Act → World → Prop} {a : Act} {R : Act → World → Prop}, c.wpIn Fence.wide 5 Tryd.prog (goesOn R) a W3 → (∀ a' W', R a' W' → Q .normal a' W') → c.wpIn Fence.wide 5 Tryd.prog Q a W3 := by
      intro c Q a R h1 h2
      refine wpIn_mono h1 ?_
      rintro e a' W' h
      cases e with
      | normal => exact h2 _ _ h
      | ret => exact h.elim
      | exit id => exact h.elim
      | goto t => exact h.elim
      | panic ch => exact h.elim
      | outgrown => exact h.elim
    refine K1 (R := fun a' W' => a' = { tmps := #[.string s, undef, .pointer (some ⟨w.heap.size, 0, none⟩), .bool (firstSlash s), .bool (lastSlash s), undef, .string s, .func (.func 44) #[] #[.pointer (some ⟨w.heap.size + 1, 0, none⟩)], undef, undef, undef, undef, undef, .slice A (piecesOf s).length c, .string s, .bool (firstSlash s), .string s, .bool (lastSlash s)], defers := [{ target := .collected (w.heap.size + 2), args := #[] }] } ∧
      W' = (W3.setCell ⟨w.heap.size, 0, none⟩ (.slice A (piecesOf s).length c)).drew) ?_ ?_
    · gi_region_with_o (first | (refine ⟨trivial, ?_⟩; gi_at_call 28; refine (callsIn_wide.2 (prefix28 _ _)).mono ?_; rintro e w' ⟨rfl, rfl⟩) | (refine ⟨trivial, ?_⟩; gi_at_call 27; refine (callsIn_wide.2 (suffix27 _ _ hs')).mono ?_; rintro e w' ⟨rfl, rfl⟩))
      all_goals exact ⟨rfl, rfl⟩
    · rintro a' W' ⟨rfl, rfl⟩
      obtain ⟨W4, hW4⟩ : ∃ W4, (W3.setCell ⟨w.heap.size, 0, none⟩ (.slice A (piecesOf s).length c)).drew = W4 := ⟨_, rfl⟩
      have hv4 : Boxed W4 w.heap.size 33 (.slice A (piecesOf s).length c) := by rw [← hW4]; exact hv3.set _
      have hrow4 : W4.ownsRow (w.heap.size + 10) 9 1 (.slice A (piecesOf s).length c) (piecesOf s).length ((piecesOf s).map Value.string) := by
        have h := hrow3.kept (grownBy_setCell' W3 w.heap.size (.slice A (piecesOf s).length c)) (.inr (hv3.not_row (by decide) hrow3).symm)
        rw [← hW4]
        exact h
      have hk4 : W4.heap[w.heap.size + 2]? = some (.deferred (some [])) := by
        rw [← hW4]
        exact (Below.heap_setCell W3 _ _ _ (by show w.heap.size + 2 ≠ w.heap.size; omega)).trans hk3
      have hB4 : Below w.heap.size w W4 := by
        rw [← hW4]
        exact (hB3.setCell (p := ⟨w.heap.size, 0, none⟩) (Nat.le_refl _) _).drew
      rw [hW4]
      clear hW4 hv3 hrow3 hk3 hB3 hc3 hf3
      gi_wp2
      refine ⟨by simp, .inl ⟨_, _, rfl, run_takeDeferred hk4, ?_⟩⟩
      have hc5 := (boxed_putObj hv4 (.deferred none) (l := w.heap.size + 2) (by omega)).cell
      have hrow5 := ownsRow_putObj hrow4 (.deferred none) hk4 rfl
      have hB5 : Below w.heap.size w (W4.putObj (w.heap.size + 2) (.deferred none)) := hB4.grown (grownBy_putObj' W4 _ _) hB4.size (by rintro k e; cases e; omega)
      refine ⟨.tuple #[.slice A (piecesOf s).length c, .bool (firstSlash s), .bool (lastSlash s)], ?_, ⟨_, rfl, own_strings hrow5 (by omega), hB5⟩⟩
      simp [results, Tryd.results19, go_sem, hc5]

theorem path_Split.calls (a0 : ByteArray) (r1 : List ByteArray) (r2 : Bool) (r3 : Bool) (w : World) (h : path_Split.f a0 = some (r1, r2, r3)) :
    Calls Tryd.prog 19 #[.string a0] w fun e w' => ∃ v0_ : Value, e = .returned (.tuple #[v0_, .bool r2, .bool r3]) ∧ Kd.R Kd.string 9 w' w.heap.size (fun _ => True) v0_ r1 ∧ Below w.heap.size w w' := by
  unfold path_Split.f at h
  by_cases hs : a0.size < 4294967296
  · rw [if_pos hs] at h
    obtain ⟨rfl, rfl, rfl⟩ : piecesOf a0 = r1 ∧ firstSlash a0 = r2 ∧ lastSlash a0 = r3 := by simpa using h
    exact split19 a0 w hs
  · rw [if_neg hs] at h
    cases h

end Go.Proofs.YtnjabpgbpgocnaaDoor.PAll

-- PAllx40
namespace Go.Proofs.YtnjabpgbpgocnaaDoor.PAll
open Go.RowKit Go.Proofs.YtnjabpgbpgocnaaDoorW.PrintWords Go.Proofs.YtnjabpgbpgocnaaDoorW.PrintLast Go.Proofs.YtnjabpgbpgocnaaDoorW.PrintMore
attribute [local go_sem] max2_int min2_int max_two min_two max_three min_three max_four min_four   -- for this text's walks alone
set_option linter.unusedVariables false
set_option linter.unusedSimpArgs false

/-! ### kauditlaw04_awake: function 15 -/
def kauditlaw04_awake.f (k : Nat)  : Option (Bool) := (path_Split.f (⟨#[47, 47, 97, 47, 46, 46, 47, 98, 47]⟩ : ByteArray)).bind fun bt148 => ((path_Parent.f k (⟨#[47, 97]⟩ : ByteArray)).bind fun bt153 => (if (bt148.1.length : Int) = 3 then (if 1 < (bt148.1.length : Int) then (if (rdOf ByteArray.empty bt148.1 1).toList = ([46, 46] : List UInt8) then (if bt148.2.1 = true then (if bt148.2.2 = true then (if bt153.2.2 = true then (if bt153.1.toList = ([47] : List UInt8) then (if bt153.2.1.toList = ([97] : List UInt8) then ((path_Name.f (⟨#[97, 98, 99, 100, 101, 102, 103, 104, 105, 106, 107, 108]⟩ : ByteArray)).bind fun t157 => (if t157 = true then (some true) else (some false))) else (some false)) else (some false)) else (some false)) else (some false)) else (some false)) else (some false)) else (none)) else (some false)))
theorem kauditlaw04_awake.mono : ∀ k, LeO (kauditlaw04_awake.f k ) (kauditlaw04_awake.f (k + 1) ) := by
  intro  k
  unfold kauditlaw04_awake.f
  repeat' first
      | (with_reducible exact path_Parent.mono _ _)
      | (with_reducible exact LeO.refl _)
      | (with_reducible exact LeO.none _)
      | (with_reducible refine LeO.ite ?_ ?_)
      | (with_reducible refine LeO.bind ?_ (fun _ => ?_))
      | exact path_Parent.mono _ _
      | exact LeO.none _
      | refine LeO.ite ?_ ?_
      | refine LeO.bind ?_ (fun _ => ?_)
set_option maxHeartbeats 8000000 in
set_option maxRecDepth 100000 in
theorem kauditlaw04_awake.calls (k : Nat)  (r : Bool) (w : World) (h : kauditlaw04_awake.f k  = some r) :
    Calls Tryd.prog 15 #[] w fun e w' => e = .returned (.bool r) ∧ Below w.heap.size w w' := by
  have HB := Aside0.mk (Below.refl w.heap.size w)
  have H : ((path_Split.f (⟨#[47, 47, 97, 47, 46, 46, 47, 98, 47]⟩ : ByteArray)).bind fun bt148 => ((path_Parent.f k (⟨#[47, 97]⟩ : ByteArray)).bind fun bt153 => (if (bt148.1.length : Int) = 3 then (if 1 < (bt148.1.length : Int) then (if (rdOf ByteArray.empty bt148.1 1).toList = ([46, 46] : List UInt8) then (if bt148.2.1 = true then (if bt148.2.2 = true then (if bt153.2.2 = true then (if bt153.1.toList = ([47] : List UInt8) then (if bt153.2.1.toList = ([97] : List UInt8) then ((path_Name.f (⟨#[97, 98, 99, 100, 101, 102, 103, 104, 105, 106, 107, 108]⟩ : ByteArray)).bind fun t157 => (if t157 = true then (some true) else (some false))) else (some false)) else (some false)) else (some false)) else (some false)) else (some false)) else (some false)) else (none)) else (some false)))) = some r := h
  clear h
  replace H := Option.bind_eq_some_iff.mp H
  obtain ⟨⟨t148, t149, t150⟩, A10, H⟩ := H
  replace H : ((path_Parent.f k (⟨#[47, 97]⟩ : ByteArray)).bind fun bt153 => (if (t148.length : Int) = 3 then (if 1 < (t148.length : Int) then (if (rdOf ByteArray.empty t148 1).toList = ([46, 46] : List UInt8) then (if t149 = true then (if t150 = true then (if bt153.2.2 = true then (if bt153.1.toList = ([47] : List UInt8) then (if bt153.2.1.toList = ([97] : List UInt8) then ((path_Name.f (⟨#[97, 98, 99, 100, 101, 102, 103, 104, 105, 106, 107, 108]⟩ : ByteArray)).bind fun t157 => (if t157 = true then (some true) else (some false))) else (some false)) else (some false)) else (some false)) else (some false)) else (some false)) else (some false)) else (none)) else (some false))) = some r := H
  have A1 := Aside0.mk A10
  clear A10
  replace H := Option.bind_eq_some_iff.mp H
  obtain ⟨⟨t153, t154, t155⟩, A20, H⟩ := H
  replace H : (if (t148.length : Int) = 3 then (if 1 < (t148.length : Int) then (if (rdOf ByteArray.empty t148 1).toList = ([46, 46] : List UInt8) then (if t149 = true then (if t150 = true then (if t155 = true then (if t153.toList = ([47] : List UInt8) then (if t154.toList = ([97] : List UInt8) then ((path_Name.f (⟨#[97, 98, 99, 100, 101, 102, 103, 104, 105, 106, 107, 108]⟩ : ByteArray)).bind fun t157 => (if t157 = true then (some true) else (some false))) else (some false)) else (some false)) else (some false)) else (some false)) else (some false)) else (some false)) else (none)) else (some false)) = some r := H
  have A2 := Aside0.mk A20
  clear A20
  by_cases c3 : (t148.length : Int) = 3
  · rw [if_pos c3] at H
    have c3b0 : ((t148.length : Int) == 3) = true := beq_iff_eq.mpr c3
    have c3b1 : ((t148.length : Int) != 3) = false := bne_eq_false_iff_eq.mpr c3
    clear c3
    by_cases c4 : 1 < (t148.length : Int)
    · rw [if_pos c4] at H
      have c4b0 : decide (1 < (t148.length : Int)) = true := decide_eq_true c4
      have c4b1 : decide (1 < t148.length) = true := decide_eq_true (by omega)
      clear c4
      by_cases c5 : (rdOf ByteArray.empty t148 1).toList = ([46, 46] : List UInt8)
      · rw [if_pos c5] at H
        have c5b0 : ((rdOf ByteArray.empty t148 1).toList == ([46, 46] : List UInt8)) = true := beq_iff_eq.mpr c5
        have c5b1 : ((rdOf ByteArray.empty t148 1).toList != ([46, 46] : List UInt8)) = false := bne_eq_false_iff_eq.mpr c5
        clear c5
        by_cases c6 : t149 = true
        · subst c6
          have H1 : (if t150 = true then (if t155 = true then (if t153.toList = ([47] : List UInt8) then (if t154.toList = ([97] : List UInt8) then ((path_Name.f (⟨#[97, 98, 99, 100, 101, 102, 103, 104, 105, 106, 107, 108]⟩ : ByteArray)).bind fun t157 => (if t157 = true then (some true) else (some false))) else (some false)) else (some false)) else (some false)) else (some false)) = some r := by rw [if_pos rfl] at H; exact H
          clear H
          have H := H1
          clear H1
          by_cases c7 : t150 = true
          · subst c7
            have H1 : (if t155 = true then (if t153.toList = ([47] : List UInt8) then (if t154.toList = ([97] : List UInt8) then ((path_Name.f (⟨#[97, 98, 99, 100, 101, 102, 103, 104, 105, 106, 107, 108]⟩ : ByteArray)).bind fun t157 => (if t157 = true then (some true) else (some false))) else (some false)) else (some false)) else (some false)) = some r := by rw [if_pos rfl] at H; exact H
            clear H
            have H := H1
            clear H1
            by_cases c8 : t155 = true
            · subst c8
              have H1 : (if t153.toList = ([47] : List UInt8) then (if t154.toList = ([97] : List UInt8) then ((path_Name.f (⟨#[97, 98, 99, 100, 101, 102, 103, 104, 105, 106, 107, 108]⟩ : ByteArray)).bind fun t157 => (if t157 = true then (some true) else (some false))) else (some false)) else (some false)) = some r := by rw [if_pos rfl] at H; exact H
              clear H
              have H := H1
              clear H1
              by_cases c9 : t153.toList = ([47] : List UInt8)
              · rw [if_pos c9] at H
                have c9b0 : (t153.toList == ([47] : List UInt8)) = true := beq_iff_eq.mpr c9
                have c9b1 : (t153.toList != ([47] : List UInt8)) = false := bne_eq_false_iff_eq.mpr c9
                clear c9
                by_cases c10 : t154.toList = ([97] : List UInt8)
                · rw [if_pos c10] at H
                  have c10b0 : (t154.toList == ([97] : List UInt8)) = true := beq_iff_eq.mpr c10
                  have c10b1 : (t154.toList != ([97] : List UInt8)) = false := bne_eq_false_iff_eq.mpr c10
                  clear c10
                  replace H := Option.bind_eq_some_iff.mp H
                  obtain ⟨t157, A110, H⟩ := H
                  replace H : (if t157 = true then (some true) else (some false)) = some r := H
                  have A11 := Aside0.mk A110
                  clear A110
                  by_cases c12 : t157 = true
                  · subst c12
                    have H1 : (some true) = some r := by rw [if_pos rfl] at H; exact H
                    clear H
                    have H := H1
                    clear H1
                    obtain rfl := Option.some.inj H
                    go_enter Tryd.func15, Tryd.ntmps15
                    go_wp2_with (first | ((with_reducible refine gate_callee (f := 19) rfl ?_); refine goesL_ (some 8) rfl rfl Tryd.func19 (by kernel_rfl) rfl #[.string (⟨#[47, 47, 97, 47, 46, 46, 47, 98, 47]⟩ : ByteArray)] rfl (by (try simp only [List.map_toArray, List.map_cons, List.map_nil]); first | done | rfl | (simp only [List.length_drop, List.length_take]; rfl)) ?_; (with_reducible refine (path_Split.calls (⟨#[47, 47, 97, 47, 46, 46, 47, 98, 47]⟩ : ByteArray) t148 true true _ A1.out).mono ?_); rintro e w13 ⟨v151, rfl, ho0, hb⟩; refine ⟨_, rfl, ?_⟩; have n0_ := Aside0.mk (Kd.R_lower ho0 (below_size (by repeat (first | (with_reducible first | exact HB.out | apply below_alloc | apply pw_below_drewN | apply below_drew1) | exact HB.out)))); have n1_ := Aside0.mk (below_step (by repeat (first | (with_reducible first | exact HB.out | apply below_alloc | apply pw_below_drewN | apply below_drew1) | exact HB.out)) hb); clear HB; have HO152 := n0_; have HB := n1_; clear n0_ n1_; (try clear hb); (try clear hb2); (try clear hk); (try clear hi); (try clear ho0)) | ((with_reducible refine gate_callee (f := 21) rfl ?_); refine goesL_ (some 13) rfl rfl Tryd.func21 (by kernel_rfl) rfl #[.string (⟨#[47, 97]⟩ : ByteArray)] rfl (by (try simp only [List.map_toArray, List.map_cons, List.map_nil]); first | done | rfl | (simp only [List.length_drop, List.length_take]; rfl)) ?_; (with_reducible refine (path_Parent.calls k (⟨#[47, 97]⟩ : ByteArray) t153 t154 true _ A2.out).mono ?_); rintro e w14 ⟨rfl, hb⟩; refine ⟨_, rfl, ?_⟩; have n0_ := Aside0.mk (Kd.R_below (by (with_reducible repeat (first | apply Kd.R_alloc | apply Kd.R_drewN | apply Kd.R_drew)); exact HO152.out) hb); have n1_ := Aside0.mk (below_step (by repeat (first | (with_reducible first | exact HB.out | apply below_alloc | apply pw_below_drewN | apply below_drew1) | exact HB.out)) hb); clear HO152; clear HB; have HO152 := n0_; have HB := n1_; clear n0_ n1_; (try clear hb); (try clear hb2); (try clear hk); (try clear hi); obtain ⟨Ao15, co15, eo15⟩ := Kd.R_slice HO152.out; subst eo15; have p156 : 0 ≤ (1 : Int) := (by omega); have q156 : 1 < (t148.length : Int) := of_decide_eq_true (by first | (with_reducible assumption) | assumption); obtain ⟨ad156, e156, hx156_0⟩ := Kd.at_string (Kd.R_reads' HO152.out).2.2 1 p156 q156; cases e156; (try simp only [show (1 : Int).toNat = 1 from rfl, Nat.reduceMul, Nat.reduceEqDiff, Go.Addr.add, ↓reduceIte] at hx156_0); have qi156 : (1 < t148.length) = True := eq_true (by omega); (try rw [show ((1 : Int)).toNat = 1 from rfl] at hx156_0); replace p156 := eq_true p156; replace q156 := eq_true q156) | (go_at_call 16; (with_reducible refine (path_Name.calls (⟨#[97, 98, 99, 100, 101, 102, 103, 104, 105, 106, 107, 108]⟩ : ByteArray) true _ A11.out).mono ?_); rintro e w16 ⟨rfl, hb⟩; have n0_ := Aside0.mk (Kd.R_below (by (with_reducible repeat (first | apply Kd.R_alloc | apply Kd.R_drewN | apply Kd.R_drew)); exact HO152.out) hb); have n1_ := Aside0.mk (below_step (by repeat (first | (with_reducible first | exact HB.out | apply below_alloc | apply pw_below_drewN | apply below_drew1) | exact HB.out)) hb); clear HO152; clear HB; have HO152 := n0_; have HB := n1_; clear n0_ n1_; (try clear hb); (try clear hb2); (try clear hk); (try clear hi)))
                    go_ret
                    exact ⟨by first | rfl | (simp [errW_none, errW_some] <;> rfl) | (simp [*, errW_none, errW_some] <;> rfl), by repeat (first | (with_reducible first | exact HB.out | apply below_alloc | apply pw_below_drewN | apply below_drew1) | exact HB.out)⟩
                  · replace c12 := Bool.eq_false_iff.mpr c12
                    subst c12
                    have H1 : (some false) = some r := by rw [if_neg (show ¬ (false = true) by decide)] at H; exact H
                    clear H
                    have H := H1
                    clear H1
                    obtain rfl := Option.some.inj H
                    go_enter Tryd.func15, Tryd.ntmps15
                    go_wp2_with (first | ((with_reducible refine gate_callee (f := 19) rfl ?_); refine goesL_ (some 8) rfl rfl Tryd.func19 (by kernel_rfl) rfl #[.string (⟨#[47, 47, 97, 47, 46, 46, 47, 98, 47]⟩ : ByteArray)] rfl (by (try simp only [List.map_toArray, List.map_cons, List.map_nil]); first | done | rfl | (simp only [List.length_drop, List.length_take]; rfl)) ?_; (with_reducible refine (path_Split.calls (⟨#[47, 47, 97, 47, 46, 46, 47, 98, 47]⟩ : ByteArray) t148 true true _ A1.out).mono ?_); rintro e w17 ⟨v151, rfl, ho0, hb⟩; refine ⟨_, rfl, ?_⟩; have n0_ := Aside0.mk (Kd.R_lower ho0 (below_size (by repeat (first | (with_reducible first | exact HB.out | apply below_alloc | apply pw_below_drewN | apply below_drew1) | exact HB.out)))); have n1_ := Aside0.mk (below_step (by repeat (first | (with_reducible first | exact HB.out | apply below_alloc | apply pw_below_drewN | apply below_drew1) | exact HB.out)) hb); clear HB; have HO152 := n0_; have HB := n1_; clear n0_ n1_; (try clear hb); (try clear hb2); (try clear hk); (try clear hi); (try clear ho0)) | ((with_reducible refine gate_callee (f := 21) rfl ?_); refine goesL_ (some 13) rfl rfl Tryd.func21 (by kernel_rfl) rfl #[.string (⟨#[47, 97]⟩ : ByteArray)] rfl (by (try simp only [List.map_toArray, List.map_cons, List.map_nil]); first | done | rfl | (simp only [List.length_drop, List.length_take]; rfl)) ?_; (with_reducible refine (path_Parent.calls k (⟨#[47, 97]⟩ : ByteArray) t153 t154 true _ A2.out).mono ?_); rintro e w18 ⟨rfl, hb⟩; refine ⟨_, rfl, ?_⟩; have n0_ := Aside0.mk (Kd.R_below (by (with_reducible repeat (first | apply Kd.R_alloc | apply Kd.R_drewN | apply Kd.R_drew)); exact HO152.out) hb); have n1_ := Aside0.mk (below_step (by repeat (first | (with_reducible first | exact HB.out | apply below_alloc | apply pw_below_drewN | apply below_drew1) | exact HB.out)) hb); clear HO152; clear HB; have HO152 := n0_; have HB := n1_; clear n0_ n1_; (try clear hb); (try clear hb2); (try clear hk); (try clear hi); obtain ⟨Ao19, co19, eo19⟩ := Kd.R_slice HO152.out; subst eo19; have p156 : 0 ≤ (1 : Int) := (by omega); have q156 : 1 < (t148.length : Int) := of_decide_eq_true (by first | (with_reducible assumption) | assumption); obtain ⟨ad156, e156, hx156_0⟩ := Kd.at_string (Kd.R_reads' HO152.out).2.2 1 p156 q156; cases e156; (try simp only [show (1 : Int).toNat = 1 from rfl, Nat.reduceMul, Nat.reduceEqDiff, Go.Addr.add, ↓reduceIte] at hx156_0); have qi156 : (1 < t148.length) = True := eq_true (by omega); (try rw [show ((1 : Int)).toNat = 1 from rfl] at hx156_0); replace p156 := eq_true p156; replace q156 := eq_true q156) | (go_at_call 16; (with_reducible refine (path_Name.calls (⟨#[97, 98, 99, 100, 101, 102, 103, 104, 105, 106, 107, 108]⟩ : ByteArray) false _ A11.out).mono ?_); rintro e w20 ⟨rfl, hb⟩; have n0_ := Aside0.mk (Kd.R_below (by (with_reducible repeat (first | apply Kd.R_alloc | apply Kd.R_drewN | apply Kd.R_drew)); exact HO152.out) hb); have n1_ := Aside0.mk (below_step (by repeat (first | (with_reducible first | exact HB.out | apply below_alloc | apply pw_below_drewN | apply below_drew1) | exact HB.out)) hb); clear HO152; clear HB; have HO152 := n0_; have HB := n1_; clear n0_ n1_; (try clear hb); (try clear hb2); (try clear hk); (try clear hi)))
                    go_ret
                    exact ⟨by first | rfl | (simp [errW_none, errW_some] <;> rfl) | (simp [*, errW_none, errW_some] <;> rfl), by repeat (first | (with_reducible first | exact HB.out | apply below_alloc | apply pw_below_drewN | apply below_drew1) | exact HB.out)⟩
                · rw [if_neg c10] at H
                  have c10b0 : (t154.toList == ([97] : List UInt8)) = false := beq_eq_false_iff_ne.mpr c10
                  have c10b1 : (t154.toList != ([97] : List UInt8)) = true := bne_iff_ne.mpr c10
                  obtain rfl := Option.some.inj H
                  go_enter Tryd.func15, Tryd.ntmps15
                  go_wp2_with (first | ((with_reducible refine gate_callee (f := 19) rfl ?_); refine goesL_ (some 8) rfl rfl Tryd.func19 (by kernel_rfl) rfl #[.string (⟨#[47, 47, 97, 47, 46, 46, 47, 98, 47]⟩ : ByteArray)] rfl (by (try simp only [List.map_toArray, List.map_cons, List.map_nil]); first | done | rfl | (simp only [List.length_drop, List.length_take]; rfl)) ?_; (with_reducible refine (path_Split.calls (⟨#[47, 47, 97, 47, 46, 46, 47, 98, 47]⟩ : ByteArray) t148 true true _ A1.out).mono ?_); rintro e w21 ⟨v151, rfl, ho0, hb⟩; refine ⟨_, rfl, ?_⟩; have n0_ := Aside0.mk (Kd.R_lower ho0 (below_size (by repeat (first | (with_reducible first | exact HB.out | apply below_alloc | apply pw_below_drewN | apply below_drew1) | exact HB.out)))); have n1_ := Aside0.mk (below_step (by repeat (first | (with_reducible first | exact HB.out | apply below_alloc | apply pw_below_drewN | apply below_drew1) | exact HB.out)) hb); clear HB; have HO152 := n0_; have HB := n1_; clear n0_ n1_; (try clear hb); (try clear hb2); (try clear hk); (try clear hi); (try clear ho0)) | ((with_reducible refine gate_callee (f := 21) rfl ?_); refine goesL_ (some 13) rfl rfl Tryd.func21 (by kernel_rfl) rfl #[.string (⟨#[47, 97]⟩ : ByteArray)] rfl (by (try simp only [List.map_toArray, List.map_cons, List.map_nil]); first | done | rfl | (simp only [List.length_drop, List.length_take]; rfl)) ?_; (with_reducible refine (path_Parent.calls k (⟨#[47, 97]⟩ : ByteArray) t153 t154 true _ A2.out).mono ?_); rintro e w22 ⟨rfl, hb⟩; refine ⟨_, rfl, ?_⟩; have n0_ := Aside0.mk (Kd.R_below (by (with_reducible repeat (first | apply Kd.R_alloc | apply Kd.R_drewN | apply Kd.R_drew)); exact HO152.out) hb); have n1_ := Aside0.mk (below_step (by repeat (first | (with_reducible first | exact HB.out | apply below_alloc | apply pw_below_drewN | apply below_drew1) | exact HB.out)) hb); clear HO152; clear HB; have HO152 := n0_; have HB := n1_; clear n0_ n1_; (try clear hb); (try clear hb2); (try clear hk); (try clear hi); obtain ⟨Ao23, co23, eo23⟩ := Kd.R_slice HO152.out; subst eo23; have p156 : 0 ≤ (1 : Int) := (by omega); have q156 : 1 < (t148.length : Int) := of_decide_eq_true (by first | (with_reducible assumption) | assumption); obtain ⟨ad156, e156, hx156_0⟩ := Kd.at_string (Kd.R_reads' HO152.out).2.2 1 p156 q156; cases e156; (try simp only [show (1 : Int).toNat = 1 from rfl, Nat.reduceMul, Nat.reduceEqDiff, Go.Addr.add, ↓reduceIte] at hx156_0); have qi156 : (1 < t148.length) = True := eq_true (by omega); (try rw [show ((1 : Int)).toNat = 1 from rfl] at hx156_0); replace p156 := eq_true p156; replace q156 := eq_true q156))
                  go_ret
                  exact ⟨by first | rfl | (simp [errW_none, errW_some] <;> rfl) | (simp [*, errW_none, errW_some] <;> rfl), by repeat (first | (with_reducible first | exact HB.out | apply below_alloc | apply pw_below_drewN | apply below_drew1) | exact HB.out)⟩
              · rw [if_neg c9] at H
                have c9b0 : (t153.toList == ([47] : List UInt8)) = false := beq_eq_false_iff_ne.mpr c9
                have c9b1 : (t153.toList != ([47] : List UInt8)) = true := bne_iff_ne.mpr c9
                obtain rfl := Option.some.inj H
                go_enter Tryd.func15, Tryd.ntmps15
                go_wp2_with (first | ((with_reducible refine gate_callee (f := 19) rfl ?_); refine goesL_ (some 8) rfl rfl Tryd.func19 (by kernel_rfl) rfl #[.string (⟨#[47, 47, 97, 47, 46, 46, 47, 98, 47]⟩ : ByteArray)] rfl (by (try simp only [List.map_toArray, List.map_cons, List.map_nil]); first | done | rfl | (simp only [List.length_drop, List.length_take]; rfl)) ?_; (with_reducible refine (path_Split.calls (⟨#[47, 47, 97, 47, 46, 46, 47, 98, 47]⟩ : ByteArray) t148 true true _ A1.out).mono ?_); rintro e w24 ⟨v151, rfl, ho0, hb⟩; refine ⟨_, rfl, ?_⟩; have n0_ := Aside0.mk (Kd.R_lower ho0 (below_size (by repeat (first | (with_reducible first | exact HB.out | apply below_alloc | apply pw_below_drewN | apply below_drew1) | exact HB.out)))); have n1_ := Aside0.mk (below_step (by repeat (first | (with_reducible first | exact HB.out | apply below_alloc | apply pw_below_drewN | apply below_drew1) | exact HB.out)) hb); clear HB; have HO152 := n0_; have HB := n1_; clear n0_ n1_; (try clear hb); (try clear hb2); (try clear hk); (try clear hi); (try clear ho0)) | ((with_reducible refine gate_callee (f := 21) rfl ?_); refine goesL_ (some 13) rfl rfl Tryd.func21 (by kernel_rfl) rfl #[.string (⟨#[47, 97]⟩ : ByteArray)] rfl (by (try simp only [List.map_toArray, List.map_cons, List.map_nil]); first | done | rfl | (simp only [List.length_drop, List.length_take]; rfl)) ?_; (with_reducible refine (path_Parent.calls k (⟨#[47, 97]⟩ : ByteArray) t153 t154 true _ A2.out).mono ?_); rintro e w25 ⟨rfl, hb⟩; refine ⟨_, rfl, ?_⟩; have n0_ := Aside0.mk (Kd.R_below (by (with_reducible repeat (first | apply Kd.R_alloc | apply Kd.R_drewN | apply Kd.R_drew)); exact HO152.out) hb); have n1_ := Aside0.mk (below_step (by repeat (first | (with_reducible first | exact HB.out | apply below_alloc | apply pw_below_drewN | apply below_drew1) | exact HB.out)) hb); clear HO152; clear HB; have HO152 := n0_; have HB := n1_; clear n0_ n1_; (try clear hb); (try clear hb2); (try clear hk); (try clear hi); obtain ⟨Ao26, co26, eo26⟩ := Kd.R_slice HO152.out; subst eo26; have p156 : 0 ≤ (1 : Int) := (by omega); have q156 : 1 < (t148.length : Int) := of_decide_eq_true (by first | (with_reducible assumption) | assumption); obtain ⟨ad156, e156, hx156_0⟩ := Kd.at_string (Kd.R_reads' HO152.out).2.2 1 p156 q156; cases e156; (try simp only [show (1 : Int).toNat = 1 from rfl, Nat.reduceMul, Nat.reduceEqDiff, Go.Addr.add, ↓reduceIte] at hx156_0); have qi156 : (1 < t148.length) = True := eq_true (by omega); (try rw [show ((1 : Int)).toNat = 1 from rfl] at hx156_0); replace p156 := eq_true p156; replace q156 := eq_true q156))
                go_ret
                exact ⟨by first | rfl | (simp [errW_none, errW_some] <;> rfl) | (simp [*, errW_none, errW_some] <;> rfl), by repeat (first | (with_reducible first | exact HB.out | apply below_alloc | apply pw_below_drewN | apply below_drew1) | exact HB.out)⟩
            · replace c8 := Bool.eq_false_iff.mpr c8
              subst c8
              have H1 : (some false) = some r := by rw [if_neg (show ¬ (false = true) by decide)] at H; exact H
              clear H
              have H := H1
              clear H1
              obtain rfl := Option.some.inj H
              go_enter Tryd.func15, Tryd.ntmps15
              go_wp2_with (first | ((with_reducible refine gate_callee (f := 19) rfl ?_); refine goesL_ (some 8) rfl rfl Tryd.func19 (by kernel_rfl) rfl #[.string (⟨#[47, 47, 97, 47, 46, 46, 47, 98, 47]⟩ : ByteArray)] rfl (by (try simp only [List.map_toArray, List.map_cons, List.map_nil]); first | done | rfl | (simp only [List.length_drop, List.length_take]; rfl)) ?_; (with_reducible refine (path_Split.calls (⟨#[47, 47, 97, 47, 46, 46, 47, 98, 47]⟩ : ByteArray) t148 true true _ A1.out).mono ?_); rintro e w27 ⟨v151, rfl, ho0, hb⟩; refine ⟨_, rfl, ?_⟩; have n0_ := Aside0.mk (Kd.R_lower ho0 (below_size (by repeat (first | (with_reducible first | exact HB.out | apply below_alloc | apply pw_below_drewN | apply below_drew1) | exact HB.out)))); have n1_ := Aside0.mk (below_step (by repeat (first | (with_reducible first | exact HB.out | apply below_alloc | apply pw_below_drewN | apply below_drew1) | exact HB.out)) hb); clear HB; have HO152 := n0_; have HB := n1_; clear n0_ n1_; (try clear hb); (try clear hb2); (try clear hk); (try clear hi); (try clear ho0)) | ((with_reducible refine gate_callee (f := 21) rfl ?_); refine goesL_ (some 13) rfl rfl Tryd.func21 (by kernel_rfl) rfl #[.string (⟨#[47, 97]⟩ : ByteArray)] rfl (by (try simp only [List.map_toArray, List.map_cons, List.map_nil]); first | done | rfl | (simp only [List.length_drop, List.length_take]; rfl)) ?_; (with_reducible refine (path_Parent.calls k (⟨#[47, 97]⟩ : ByteArray) t153 t154 false _ A2.out).mono ?_); rintro e w28 ⟨rfl, hb⟩; refine ⟨_, rfl, ?_⟩; have n0_ := Aside0.mk (Kd.R_below (by (with_reducible repeat (first | apply Kd.R_alloc | apply Kd.R_drewN | apply Kd.R_drew)); exact HO152.out) hb); have n1_ := Aside0.mk (below_step (by repeat (first | (with_reducible first | exact HB.out | apply below_alloc | apply pw_below_drewN | apply below_drew1) | exact HB.out)) hb); clear HO152; clear HB; have HO152 := n0_; have HB := n1_; clear n0_ n1_; (try clear hb); (try clear hb2); (try clear hk); (try clear hi); obtain ⟨Ao29, co29, eo29⟩ := Kd.R_slice HO152.out; subst eo29; have p156 : 0 ≤ (1 : Int) := (by omega); have q156 : 1 < (t148.length : Int) := of_decide_eq_true (by first | (with_reducible assumption) | assumption); obtain ⟨ad156, e156, hx156_0⟩ := Kd.at_string (Kd.R_reads' HO152.out).2.2 1 p156 q156; cases e156; (try simp only [show (1 : Int).toNat = 1 from rfl, Nat.reduceMul, Nat.reduceEqDiff, Go.Addr.add, ↓reduceIte] at hx156_0); have qi156 : (1 < t148.length) = True := eq_true (by omega); (try rw [show ((1 : Int)).toNat = 1 from rfl] at hx156_0); replace p156 := eq_true p156; replace q156 := eq_true q156))
              go_ret
              exact ⟨by first | rfl | (simp [errW_none, errW_some] <;> rfl) | (simp [*, errW_none, errW_some] <;> rfl), by repeat (first | (with_reducible first | exact HB.out | apply below_alloc | apply pw_below_drewN | apply below_drew1) | exact HB.out)⟩
          · replace c7 := Bool.eq_false_iff.mpr c7
            subst c7
            have H1 : (some false) = some r := by rw [if_neg (show ¬ (false = true) by decide)] at H; exact H
            clear H
            have H := H1
            clear H1
            obtain rfl := Option.some.inj H
            go_enter Tryd.func15, Tryd.ntmps15
            go_wp2_with (first | ((with_reducible refine gate_callee (f := 19) rfl ?_); refine goesL_ (some 8) rfl rfl Tryd.func19 (by kernel_rfl) rfl #[.string (⟨#[47, 47, 97, 47, 46, 46, 47, 98, 47]⟩ : ByteArray)] rfl (by (try simp only [List.map_toArray, List.map_cons, List.map_nil]); first | done | rfl | (simp only [List.length_drop, List.length_take]; rfl)) ?_; (with_reducible refine (path_Split.calls (⟨#[47, 47, 97, 47, 46, 46, 47, 98, 47]⟩ : ByteArray) t148 true false _ A1.out).mono ?_); rintro e w30 ⟨v151, rfl, ho0, hb⟩; refine ⟨_, rfl, ?_⟩; have n0_ := Aside0.mk (Kd.R_lower ho0 (below_size (by repeat (first | (with_reducible first | exact HB.out | apply below_alloc | apply pw_below_drewN | apply below_drew1) | exact HB.out)))); have n1_ := Aside0.mk (below_step (by repeat (first | (with_reducible first | exact HB.out | apply below_alloc | apply pw_below_drewN | apply below_drew1) | exact HB.out)) hb); clear HB; have HO152 := n0_; have HB := n1_; clear n0_ n1_; (try clear hb); (try clear hb2); (try clear hk); (try clear hi); (try clear ho0)) | ((with_reducible refine gate_callee (f := 21) rfl ?_); refine goesL_ (some 13) rfl rfl Tryd.func21 (by kernel_rfl) rfl #[.string (⟨#[47, 97]⟩ : ByteArray)] rfl (by (try simp only [List.map_toArray, List.map_cons, List.map_nil]); first | done | rfl | (simp only [List.length_drop, List.length_take]; rfl)) ?_; (with_reducible refine (path_Parent.calls k (⟨#[47, 97]⟩ : ByteArray) t153 t154 t155 _ A2.out).mono ?_); rintro e w31 ⟨rfl, hb⟩; refine ⟨_, rfl, ?_⟩; have n0_ := Aside0.mk (Kd.R_below (by (with_reducible repeat (first | apply Kd.R_alloc | apply Kd.R_drewN | apply Kd.R_drew)); exact HO152.out) hb); have n1_ := Aside0.mk (below_step (by repeat (first | (with_reducible first | exact HB.out | apply below_alloc | apply pw_below_drewN | apply below_drew1) | exact HB.out)) hb); clear HO152; clear HB; have HO152 := n0_; have HB := n1_; clear n0_ n1_; (try clear hb); (try clear hb2); (try clear hk); (try clear hi); obtain ⟨Ao32, co32, eo32⟩ := Kd.R_slice HO152.out; subst eo32; have p156 : 0 ≤ (1 : Int) := (by omega); have q156 : 1 < (t148.length : Int) := of_decide_eq_true (by first | (with_reducible assumption) | assumption); obtain ⟨ad156, e156, hx156_0⟩ := Kd.at_string (Kd.R_reads' HO152.out).2.2 1 p156 q156; cases e156; (try simp only [show (1 : Int).toNat = 1 from rfl, Nat.reduceMul, Nat.reduceEqDiff, Go.Addr.add, ↓reduceIte] at hx156_0); have qi156 : (1 < t148.length) = True := eq_true (by omega); (try rw [show ((1 : Int)).toNat = 1 from rfl] at hx156_0); replace p156 := eq_true p156; replace q156 := eq_true q156))
            go_ret
            exact ⟨by first | rfl | (simp [errW_none, errW_some] <;> rfl) | (simp [*, errW_none, errW_some] <;> rfl), by repeat (first | (with_reducible first | exact HB.out | apply below_alloc | apply pw_below_drewN | apply below_drew1) | exact HB.out)⟩
        · replace c6 := Bool.eq_false_iff.mpr c6
          subst c6
          have H1 : (some false) = some r := by rw [if_neg (show ¬ (false = true) by decide)] at H; exact H
          clear H
          have H := H1
          clear H1
          obtain rfl := Option.some.inj H
          go_enter Tryd.func15, Tryd.ntmps15
          go_wp2_with (first | ((with_reducible refine gate_callee (f := 19) rfl ?_); refine goesL_ (some 8) rfl rfl Tryd.func19 (by kernel_rfl) rfl #[.string (⟨#[47, 47, 97, 47, 46, 46, 47, 98, 47]⟩ : ByteArray)] rfl (by (try simp only [List.map_toArray, List.map_cons, List.map_nil]); first | done | rfl | (simp only [List.length_drop, List.length_take]; rfl)) ?_; (with_reducible refine (path_Split.calls (⟨#[47, 47, 97, 47, 46, 46, 47, 98, 47]⟩ : ByteArray) t148 false t150 _ A1.out).mono ?_); rintro e w33 ⟨v151, rfl, ho0, hb⟩; refine ⟨_, rfl, ?_⟩; have n0_ := Aside0.mk (Kd.R_lower ho0 (below_size (by repeat (first | (with_reducible first | exact HB.out | apply below_alloc | apply pw_below_drewN | apply below_drew1) | exact HB.out)))); have n1_ := Aside0.mk (below_step (by repeat (first | (with_reducible first | exact HB.out | apply below_alloc | apply pw_below_drewN | apply below_drew1) | exact HB.out)) hb); clear HB; have HO152 := n0_; have HB := n1_; clear n0_ n1_; (try clear hb); (try clear hb2); (try clear hk); (try clear hi); (try clear ho0)) | ((with_reducible refine gate_callee (f := 21) rfl ?_); refine goesL_ (some 13) rfl rfl Tryd.func21 (by kernel_rfl) rfl #[.string (⟨#[47, 97]⟩ : ByteArray)] rfl (by (try simp only [List.map_toArray, List.map_cons, List.map_nil]); first | done | rfl | (simp only [List.length_drop, List.length_take]; rfl)) ?_; (with_reducible refine (path_Parent.calls k (⟨#[47, 97]⟩ : ByteArray) t153 t154 t155 _ A2.out).mono ?_); rintro e w34 ⟨rfl, hb⟩; refine ⟨_, rfl, ?_⟩; have n0_ := Aside0.mk (Kd.R_below (by (with_reducible repeat (first | apply Kd.R_alloc | apply Kd.R_drewN | apply Kd.R_drew)); exact HO152.out) hb); have n1_ := Aside0.mk (below_step (by repeat (first | (with_reducible first | exact HB.out | apply below_alloc | apply pw_below_drewN | apply below_drew1) | exact HB.out)) hb); clear HO152; clear HB; have HO152 := n0_; have HB := n1_; clear n0_ n1_; (try clear hb); (try clear hb2); (try clear hk); (try clear hi); obtain ⟨Ao35, co35, eo35⟩ := Kd.R_slice HO152.out; subst eo35; have p156 : 0 ≤ (1 : Int) := (by omega); have q156 : 1 < (t148.length : Int) := of_decide_eq_true (by first | (with_reducible assumption) | assumption); obtain ⟨ad156, e156, hx156_0⟩ := Kd.at_string (Kd.R_reads' HO152.out).2.2 1 p156 q156; cases e156; (try simp only [show (1 : Int).toNat = 1 from rfl, Nat.reduceMul, Nat.reduceEqDiff, Go.Addr.add, ↓reduceIte] at hx156_0); have qi156 : (1 < t148.length) = True := eq_true (by omega); (try rw [show ((1 : Int)).toNat = 1 from rfl] at hx156_0); replace p156 := eq_true p156; replace q156 := eq_true q156))
          go_ret
          exact ⟨by first | rfl | (simp [errW_none, errW_some] <;> rfl) | (simp [*, errW_none, errW_some] <;> rfl), by repeat (first | (with_reducible first | exact HB.out | apply below_alloc | apply pw_below_drewN | apply below_drew1) | exact HB.out)⟩
      · rw [if_neg c5] at H
        have c5b0 : ((rdOf ByteArray.empty t148 1).toList == ([46, 46] : List UInt8)) = false := beq_eq_false_iff_ne.mpr c5
        have c5b1 : ((rdOf ByteArray.empty t148 1).toList != ([46, 46] : List UInt8)) = true := bne_iff_ne.mpr c5
        obtain rfl := Option.some.inj H
        go_enter Tryd.func15, Tryd.ntmps15
        go_wp2_with (first | ((with_reducible refine gate_callee (f := 19) rfl ?_); refine goesL_ (some 8) rfl rfl Tryd.func19 (by kernel_rfl) rfl #[.string (⟨#[47, 47, 97, 47, 46, 46, 47, 98, 47]⟩ : ByteArray)] rfl (by (try simp only [List.map_toArray, List.map_cons, List.map_nil]); first | done | rfl | (simp only [List.length_drop, List.length_take]; rfl)) ?_; (with_reducible refine (path_Split.calls (⟨#[47, 47, 97, 47, 46, 46, 47, 98, 47]⟩ : ByteArray) t148 t149 t150 _ A1.out).mono ?_); rintro e w36 ⟨v151, rfl, ho0, hb⟩; refine ⟨_, rfl, ?_⟩; have n0_ := Aside0.mk (Kd.R_lower ho0 (below_size (by repeat (first | (with_reducible first | exact HB.out | apply below_alloc | apply pw_below_drewN | apply below_drew1) | exact HB.out)))); have n1_ := Aside0.mk (below_step (by repeat (first | (with_reducible first | exact HB.out | apply below_alloc | apply pw_below_drewN | apply below_drew1) | exact HB.out)) hb); clear HB; have HO152 := n0_; have HB := n1_; clear n0_ n1_; (try clear hb); (try clear hb2); (try clear hk); (try clear hi); (try clear ho0)) | ((with_reducible refine gate_callee (f := 21) rfl ?_); refine goesL_ (some 13) rfl rfl Tryd.func21 (by kernel_rfl) rfl #[.string (⟨#[47, 97]⟩ : ByteArray)] rfl (by (try simp only [List.map_toArray, List.map_cons, List.map_nil]); first | done | rfl | (simp only [List.length_drop, List.length_take]; rfl)) ?_; (with_reducible refine (path_Parent.calls k (⟨#[47, 97]⟩ : ByteArray) t153 t154 t155 _ A2.out).mono ?_); rintro e w37 ⟨rfl, hb⟩; refine ⟨_, rfl, ?_⟩; have n0_ := Aside0.mk (Kd.R_below (by (with_reducible repeat (first | apply Kd.R_alloc | apply Kd.R_drewN | apply Kd.R_drew)); exact HO152.out) hb); have n1_ := Aside0.mk (below_step (by repeat (first | (with_reducible first | exact HB.out | apply below_alloc | apply pw_below_drewN | apply below_drew1) | exact HB.out)) hb); clear HO152; clear HB; have HO152 := n0_; have HB := n1_; clear n0_ n1_; (try clear hb); (try clear hb2); (try clear hk); (try clear hi); obtain ⟨Ao38, co38, eo38⟩ := Kd.R_slice HO152.out; subst eo38; have p156 : 0 ≤ (1 : Int) := (by omega); have q156 : 1 < (t148.length : Int) := of_decide_eq_true (by first | (with_reducible assumption) | assumption); obtain ⟨ad156, e156, hx156_0⟩ := Kd.at_string (Kd.R_reads' HO152.out).2.2 1 p156 q156; cases e156; (try simp only [show (1 : Int).toNat = 1 from rfl, Nat.reduceMul, Nat.reduceEqDiff, Go.Addr.add, ↓reduceIte] at hx156_0); have qi156 : (1 < t148.length) = True := eq_true (by omega); (try rw [show ((1 : Int)).toNat = 1 from rfl] at hx156_0); replace p156 := eq_true p156; replace q156 := eq_true q156))
        go_ret
        exact ⟨by first | rfl | (simp [errW_none, errW_some] <;> rfl) | (simp [*, errW_none, errW_some] <;> rfl), by repeat (first | (with_reducible first | exact HB.out | apply below_alloc | apply pw_below_drewN | apply below_drew1) | exact HB.out)⟩
    · rw [if_neg c4] at H
      exact absurd H (by simp)
  · rw [if_neg c3] at H
    have c3b0 : ((t148.length : Int) == 3) = false := beq_eq_false_iff_ne.mpr c3
    have c3b1 : ((t148.length : Int) != 3) = true := bne_iff_ne.mpr c3
    obtain rfl := Option.some.inj H
    go_enter Tryd.func15, Tryd.ntmps15
    go_wp2_with (first | ((with_reducible refine gate_callee (f := 19) rfl ?_); refine goesL_ (some 8) rfl rfl Tryd.func19 (by kernel_rfl) rfl #[.string (⟨#[47, 47, 97, 47, 46, 46, 47, 98, 47]⟩ : ByteArray)] rfl (by (try simp only [List.map_toArray, List.map_cons, List.map_nil]); first | done | rfl | (simp only [List.length_drop, List.length_take]; rfl)) ?_; (with_reducible refine (path_Split.calls (⟨#[47, 47, 97, 47, 46, 46, 47, 98, 47]⟩ : ByteArray) t148 t149 t150 _ A1.out).mono ?_); rintro e w39 ⟨v151, rfl, ho0, hb⟩; refine ⟨_, rfl, ?_⟩; have n0_ := Aside0.mk (Kd.R_lower ho0 (below_size (by repeat (first | (with_reducible first | exact HB.out | apply below_alloc | apply pw_below_drewN | apply below_drew1) | exact HB.out)))); have n1_ := Aside0.mk (below_step (by repeat (first | (with_reducible first | exact HB.out | apply below_alloc | apply pw_below_drewN | apply below_drew1) | exact HB.out)) hb); clear HB; have HO152 := n0_; have HB := n1_; clear n0_ n1_; (try clear hb); (try clear hb2); (try clear hk); (try clear hi); (try clear ho0)) | ((with_reducible refine gate_callee (f := 21) rfl ?_); refine goesL_ (some 13) rfl rfl Tryd.func21 (by kernel_rfl) rfl #[.string (⟨#[47, 97]⟩ : ByteArray)] rfl (by (try simp only [List.map_toArray, List.map_cons, List.map_nil]); first | done | rfl | (simp only [List.length_drop, List.length_take]; rfl)) ?_; (with_reducible refine (path_Parent.calls k (⟨#[47, 97]⟩ : ByteArray) t153 t154 t155 _ A2.out).mono ?_); rintro e w40 ⟨rfl, hb⟩; refine ⟨_, rfl, ?_⟩; have n0_ := Aside0.mk (Kd.R_below (by (with_reducible repeat (first | apply Kd.R_alloc | apply Kd.R_drewN | apply Kd.R_drew)); exact HO152.out) hb); have n1_ := Aside0.mk (below_step (by repeat (first | (with_reducible first | exact HB.out | apply below_alloc | apply pw_below_drewN | apply below_drew1) | exact HB.out)) hb); clear HO152; clear HB; have HO152 := n0_; have HB := n1_; clear n0_ n1_; (try clear hb); (try clear hb2); (try clear hk); (try clear hi); obtain ⟨Ao41, co41, eo41⟩ := Kd.R_slice HO152.out; subst eo41))
    go_ret
    exact ⟨by first | rfl | (simp [errW_none, errW_some] <;> rfl) | (simp [*, errW_none, errW_some] <;> rfl), by repeat (first | (with_reducible first | exact HB.out | apply below_alloc | apply pw_below_drewN | apply below_drew1) | exact HB.out)⟩

end Go.Proofs.YtnjabpgbpgocnaaDoor.PAll

-- PAllx52
namespace Go.Proofs.YtnjabpgbpgocnaaDoor.PAll
open Go.RowKit Go.Proofs.YtnjabpgbpgocnaaDoorW.PrintWords Go.Proofs.YtnjabpgbpgocnaaDoorW.PrintLast Go.Proofs.YtnjabpgbpgocnaaDoorW.PrintMore
attribute [local go_sem] max2_int min2_int max_two min_two max_three min_three max_four min_four   -- for this text's walks alone
set_option linter.unusedVariables false
set_option linter.unusedSimpArgs false

/-! ### kauditmake_Src_Name: function 20 -/
def kauditmake_Src_Name.f (s0_0 : List Int) (s0_1 : Int) : Option (ByteArray × Int) := (kauditmake_Src_N.f s0_0 s0_1 20).bind fun bt246 => (if bt246.1 = 19 then ((kauditmake_Src_Word.f s0_0 bt246.2 (([(⟨#[]⟩ : ByteArray), (⟨#[46]⟩ : ByteArray), (⟨#[46, 46]⟩ : ByteArray), (⟨#[97, 47, 98]⟩ : ByteArray), (⟨#[97, 98, 99, 100, 101, 102, 103, 104, 105, 106, 107, 108]⟩ : ByteArray), (⟨#[97, 98, 99, 100, 101, 102, 103, 104, 105, 106, 107, 108, 109]⟩ : ByteArray), (⟨#[97, 0]⟩ : ByteArray), (⟨#[126]⟩ : ByteArray)] : List ByteArray))).bind fun bt251 => (some (bt251.1, bt251.2))) else ((kauditmake_Src_Word.f s0_0 bt246.2 (([(⟨#[97]⟩ : ByteArray), (⟨#[98]⟩ : ByteArray), (⟨#[99]⟩ : ByteArray), (⟨#[100]⟩ : ByteArray), (⟨#[108]⟩ : ByteArray), (⟨#[109]⟩ : ByteArray)] : List ByteArray))).bind fun bt256 => (some (bt256.1, bt256.2))))
set_option maxHeartbeats 8000000 in
set_option maxRecDepth 100000 in
theorem kauditmake_Src_Name.calls (g : Nat) (s0_0 : List Int) (s0_1 : Int) (r1 : ByteArray) (r2 : Int) (w0 w : World) (hI : IsS39 w0 w g s0_0 s0_1) (hB : Below w0.heap.size w0 w) (h : kauditmake_Src_Name.f s0_0 s0_1 = some (r1, r2)) :
    Calls Tryd.prog 20 #[.pointer (some ⟨g, 0, none⟩)] w fun e w' => e = .returned (.string r1) ∧ IsS39 w0 w' g s0_0 r2 ∧ Below w0.heap.size w0 w' ∧ KeepBut w w' g none := by
  have HI0 := Aside0.mk hI
  have HK := Aside0.mk (KeepBut.refl w g none)
  have HL := Aside0.mk hB.size
  clear hI
  have HW0 := Aside0.mk hB.size
  have HB := Aside0.mk hB
  clear hB
  have H : ((kauditmake_Src_N.f s0_0 s0_1 20).bind fun bt246 => (if bt246.1 = 19 then ((kauditmake_Src_Word.f s0_0 bt246.2 (([(⟨#[]⟩ : ByteArray), (⟨#[46]⟩ : ByteArray), (⟨#[46, 46]⟩ : ByteArray), (⟨#[97, 47, 98]⟩ : ByteArray), (⟨#[97, 98, 99, 100, 101, 102, 103, 104, 105, 106, 107, 108]⟩ : ByteArray), (⟨#[97, 98, 99, 100, 101, 102, 103, 104, 105, 106, 107, 108, 109]⟩ : ByteArray), (⟨#[97, 0]⟩ : ByteArray), (⟨#[126]⟩ : ByteArray)] : List ByteArray))).bind fun bt251 => (some (bt251.1, bt251.2))) else ((kauditmake_Src_Word.f s0_0 bt246.2 (([(⟨#[97]⟩ : ByteArray), (⟨#[98]⟩ : ByteArray), (⟨#[99]⟩ : ByteArray), (⟨#[100]⟩ : ByteArray), (⟨#[108]⟩ : ByteArray), (⟨#[109]⟩ : ByteArray)] : List ByteArray))).bind fun bt256 => (some (bt256.1, bt256.2))))) = some (r1, r2) := h
  clear h
  replace H := Option.bind_eq_some_iff.mp H
  obtain ⟨⟨t246, t247⟩, A20, H⟩ := H
  replace H : (if t246 = 19 then ((kauditmake_Src_Word.f s0_0 t247 (([(⟨#[]⟩ : ByteArray), (⟨#[46]⟩ : ByteArray), (⟨#[46, 46]⟩ : ByteArray), (⟨#[97, 47, 98]⟩ : ByteArray), (⟨#[97, 98, 99, 100, 101, 102, 103, 104, 105, 106, 107, 108]⟩ : ByteArray), (⟨#[97, 98, 99, 100, 101, 102, 103, 104, 105, 106, 107, 108, 109]⟩ : ByteArray), (⟨#[97, 0]⟩ : ByteArray), (⟨#[126]⟩ : ByteArray)] : List ByteArray))).bind fun bt251 => (some (bt251.1, bt251.2))) else ((kauditmake_Src_Word.f s0_0 t247 (([(⟨#[97]⟩ : ByteArray), (⟨#[98]⟩ : ByteArray), (⟨#[99]⟩ : ByteArray), (⟨#[100]⟩ : ByteArray), (⟨#[108]⟩ : ByteArray), (⟨#[109]⟩ : ByteArray)] : List ByteArray))).bind fun bt256 => (some (bt256.1, bt256.2)))) = some (r1, r2) := H
  have A2 := Aside0.mk A20
  clear A20
  by_cases c3 : t246 = 19
  · rw [if_pos c3] at H
    have c3b0 : (t246 == 19) = true := beq_iff_eq.mpr c3
    have c3b1 : (t246 != 19) = false := bne_eq_false_iff_eq.mpr c3
    clear c3
    obtain ⟨y248, hy248⟩ : ∃ y_ : List ByteArray, y_ = (([(⟨#[]⟩ : ByteArray), (⟨#[46]⟩ : ByteArray), (⟨#[46, 46]⟩ : ByteArray), (⟨#[97, 47, 98]⟩ : ByteArray), (⟨#[97, 98, 99, 100, 101, 102, 103, 104, 105, 106, 107, 108]⟩ : ByteArray), (⟨#[97, 98, 99, 100, 101, 102, 103, 104, 105, 106, 107, 108, 109]⟩ : ByteArray), (⟨#[97, 0]⟩ : ByteArray), (⟨#[126]⟩ : ByteArray)] : List ByteArray)) := ⟨_, rfl⟩
    replace H : ((kauditmake_Src_Word.f s0_0 t247 y248).bind fun bt251 => (some (bt251.1, bt251.2))) = some (r1, r2) := by first | (rw [hy248]; with_reducible exact H) | (have H2_ := (Option.bind_some _ _).symm.trans H; rw [hy248]; with_reducible exact H2_) | (have H2_ := (Option.bind_some _ _).symm.trans H; with_reducible exact H2_) | with_reducible exact H | (rw [hy248]; exact H) | exact H
    have Ny248 := Aside0.mk hy248
    clear hy248
    replace H := Option.bind_eq_some_iff.mp H
    obtain ⟨⟨t251, t252⟩, A40, H⟩ := H
    replace H : (some (t251, t252)) = some (r1, r2) := H
    have A4 := Aside0.mk A40
    clear A40
    simp only [Option.some.injEq, Prod.mk.injEq] at H
    obtain ⟨rfl, rfl⟩ := H
    go_enter Tryd.func20, Tryd.ntmps20
    go_wp2_with (first | ((with_reducible refine gate_callee (f := 12) rfl ?_); refine goesL_ (some 4) rfl rfl Tryd.func12 (by kernel_rfl) rfl #[.pointer (some ⟨g, 0, none⟩), .int .i64 20] rfl (by (try simp only [List.map_toArray, List.map_cons, List.map_nil]); first | done | rfl | (simp only [List.length_drop, List.length_take]; rfl)) ?_; (with_reducible refine (kauditmake_Src_N.calls g s0_0 s0_1 20 t246 t247 w0 _ ?side1 ?side2 A2.out).mono ?_); (case side1 => repeat (first | (with_reducible first | exact HI0.out | apply IsS39.alloc | apply IsS39.drewN | apply IsS39.drew | apply IsS39.set_1) | exact HI0.out)); (case side2 => repeat (first | (with_reducible first | exact HB.out | apply below_alloc | apply pw_below_drewN | apply below_drew1 | refine below_set ?_ (IsS39.ge HI0.out)) | exact HB.out)); rintro e w5 ⟨rfl, hi, hb, hk⟩; refine ⟨_, rfl, ?_⟩; have n0_ := Aside0.mk (KeepBut.trans (by repeat (first | (with_reducible first | exact HK.out | apply KeepBut.set_ | apply keep_drewN | apply keep_drew | apply keep_alloc) | exact HK.out)) hk (.inl rfl)); have n1_ := Aside0.mk (hb); have n2_ := Aside0.mk (hi); clear HK; clear HB; clear HI0; have HK := n0_; have HB := n1_; have HI0 := n2_; clear n0_ n1_ n2_; (try clear hb); (try clear hb2); (try clear hk); (try clear hi)) | ((with_reducible refine gate_dst (N := 7) rfl ?_); refine Kd.R_lit Kd.string _ 9 ?hg (N := 7) ?hd (xs := ([(⟨#[]⟩ : ByteArray), (⟨#[46]⟩ : ByteArray), (⟨#[46, 46]⟩ : ByteArray), (⟨#[97, 47, 98]⟩ : ByteArray), (⟨#[97, 98, 99, 100, 101, 102, 103, 104, 105, 106, 107, 108]⟩ : ByteArray), (⟨#[97, 98, 99, 100, 101, 102, 103, 104, 105, 106, 107, 108, 109]⟩ : ByteArray), (⟨#[97, 0]⟩ : ByteArray), (⟨#[126]⟩ : ByteArray)] : List ByteArray)) (inner := [.string (⟨#[]⟩ : ByteArray), .string (⟨#[46]⟩ : ByteArray), .string (⟨#[46, 46]⟩ : ByteArray), .string (⟨#[97, 47, 98]⟩ : ByteArray), .string (⟨#[97, 98, 99, 100, 101, 102, 103, 104, 105, 106, 107, 108]⟩ : ByteArray), .string (⟨#[97, 98, 99, 100, 101, 102, 103, 104, 105, 106, 107, 108, 109]⟩ : ByteArray), .string (⟨#[97, 0]⟩ : ByteArray), .string (⟨#[126]⟩ : ByteArray)]) (ok := fun _ => True) (okp := fun _ => True) ?hr ?hp (fun _ hk => hk) trivial (Below.refl _ _) (Nat.le_refl _) (by simp) ?_; (case hd => rfl); (case hg => rfl); (case hr => first | (go_simp; done) | (go_simp; rfl)); (case hp => exact (Reps.one (show Kd.M Kd.string _ _ _ (⟨#[]⟩ : ByteArray) [.string (⟨#[]⟩ : ByteArray)] from rfl) (Reps.one (show Kd.M Kd.string _ _ _ (⟨#[46]⟩ : ByteArray) [.string (⟨#[46]⟩ : ByteArray)] from rfl) (Reps.one (show Kd.M Kd.string _ _ _ (⟨#[46, 46]⟩ : ByteArray) [.string (⟨#[46, 46]⟩ : ByteArray)] from rfl) (Reps.one (show Kd.M Kd.string _ _ _ (⟨#[97, 47, 98]⟩ : ByteArray) [.string (⟨#[97, 47, 98]⟩ : ByteArray)] from rfl) (Reps.one (show Kd.M Kd.string _ _ _ (⟨#[97, 98, 99, 100, 101, 102, 103, 104, 105, 106, 107, 108]⟩ : ByteArray) [.string (⟨#[97, 98, 99, 100, 101, 102, 103, 104, 105, 106, 107, 108]⟩ : ByteArray)] from rfl) (Reps.one (show Kd.M Kd.string _ _ _ (⟨#[97, 98, 99, 100, 101, 102, 103, 104, 105, 106, 107, 108, 109]⟩ : ByteArray) [.string (⟨#[97, 98, 99, 100, 101, 102, 103, 104, 105, 106, 107, 108, 109]⟩ : ByteArray)] from rfl) (Reps.one (show Kd.M Kd.string _ _ _ (⟨#[97, 0]⟩ : ByteArray) [.string (⟨#[97, 0]⟩ : ByteArray)] from rfl) (Reps.one (show Kd.M Kd.string _ _ _ (⟨#[126]⟩ : ByteArray) [.string (⟨#[126]⟩ : ByteArray)] from rfl) (Reps.none _ _)))))))))); intro v249 w6 ho7 hb hg_ hnew_; clear hg_ hnew_; (first | rw [← Ny248.out] at ho7 | (simp only [Int.reduceToNat] at ho7; rw [← Ny248.out] at ho7)); have n0_ := Aside0.mk (Kd.R_lower ho7 (keep_size (w := w) (g := g) (row := none) (by repeat (first | (with_reducible first | exact HK.out | apply KeepBut.set_ | apply keep_drewN | apply keep_drew | apply keep_alloc) | exact HK.out)))); have n1_ := Aside0.mk (IsS39.below (by repeat (first | (with_reducible first | exact HI0.out | apply IsS39.alloc | apply IsS39.drewN | apply IsS39.drew | apply IsS39.set_1) | exact HI0.out)) hb); have n2_ := Aside0.mk (KeepBut.trans (by repeat (first | (with_reducible first | exact HK.out | apply KeepBut.set_ | apply keep_drewN | apply keep_drew | apply keep_alloc) | exact HK.out)) (KeepBut.of_below hb g none) (.inl rfl)); have n3_ := Aside0.mk (below_step (by repeat (first | (with_reducible first | exact HB.out | apply below_alloc | apply pw_below_drewN | apply below_drew1 | refine below_set ?_ (IsS39.ge HI0.out)) | exact HB.out)) hb); clear HI0; clear HK; clear HB; have HO250 := n0_; have HI0 := n1_; have HK := n2_; have HB := n3_; clear n0_ n1_ n2_ n3_; clear hb ho7; obtain ⟨Ao8, co8, eo8⟩ := Kd.R_slice HO250.out; subst eo8) | ((with_reducible refine gate_callee (f := 26) rfl ?_); refine goesL_ (some 8) rfl rfl Tryd.func26 (by kernel_rfl) rfl #[.pointer (some ⟨g, 0, none⟩), .slice Ao8 y248.length co8] rfl (by (try simp only [List.map_toArray, List.map_cons, List.map_nil]); first | done | rfl | (simp only [List.length_drop, List.length_take]; rfl)) ?_; (with_reducible refine (kauditmake_Src_Word.calls g s0_0 t247 _ _ y248 t251 t252 w0 _ ?side1 ?side2 ?side3 ?side4 ?side5 A4.out).mono ?_); (case side1 => repeat (first | (with_reducible first | exact HI0.out | apply IsS39.alloc | apply IsS39.drewN | apply IsS39.drew | apply IsS39.set_1) | exact HI0.out)); (case side2 => repeat (first | (with_reducible first | exact HB.out | apply below_alloc | apply pw_below_drewN | apply below_drew1 | refine below_set ?_ (IsS39.ge HI0.out)) | exact HB.out)); (case side3 => repeat (first | exact (Kd.R_reads' HO250.out).2.2 | (with_reducible refine Kd.C_alloc ?_ _) | (with_reducible refine Kd.C_drewN ?_ _) | (with_reducible refine Kd.C_drew ?_))); (case side4 => exact (Kd.R_reads' HO250.out).2.1); (case side5 => exact far_slice (IsS39.own_ne HI0.out HO250.out (by decide))); rintro e w9 ⟨rfl, hi, hb, hk⟩; refine ⟨_, rfl, ?_⟩; have n0_ := Aside0.mk (Kd.R_mono (Kd.R_keep (IsS39.apart (show IsS39 w0 _ g s0_0 t247 from by repeat (first | (with_reducible first | exact HI0.out | apply IsS39.alloc | apply IsS39.drewN | apply IsS39.drew | apply IsS39.set_1) | exact HI0.out)) (by (with_reducible repeat (first | apply Kd.R_alloc | apply Kd.R_drewN | apply Kd.R_drew)); exact HO250.out) (by decide)) hk (fun _ h => h.2)) (fun _ h => h.1)); have n1_ := Aside0.mk (KeepBut.trans (by repeat (first | (with_reducible first | exact HK.out | apply KeepBut.set_ | apply keep_drewN | apply keep_drew | apply keep_alloc) | exact HK.out)) hk (.inl rfl)); have n2_ := Aside0.mk (hb); have n3_ := Aside0.mk (hi); clear HO250; clear HK; clear HB; clear HI0; have HO250 := n0_; have HK := n1_; have HB := n2_; have HI0 := n3_; clear n0_ n1_ n2_ n3_; (try clear hb); (try clear hb2); (try clear hk); (try clear hi)))
    go_ret
    exact ⟨by first | rfl | (simp [errW_none, errW_some] <;> rfl) | (simp [*, errW_none, errW_some] <;> rfl), by repeat (first | (with_reducible first | exact HI0.out | apply IsS39.alloc | apply IsS39.drewN | apply IsS39.drew | apply IsS39.set_1) | exact HI0.out), by repeat (first | (with_reducible first | exact HB.out | apply below_alloc | apply pw_below_drewN | apply below_drew1 | refine below_set ?_ (IsS39.ge HI0.out)) | exact HB.out), by repeat (first | (with_reducible first | exact HK.out | apply KeepBut.set_ | apply keep_drewN | apply keep_drew | apply keep_alloc) | exact HK.out)⟩
  · rw [if_neg c3] at H
    have c3b0 : (t246 == 19) = false := beq_eq_false_iff_ne.mpr c3
    have c3b1 : (t246 != 19) = true := bne_iff_ne.mpr c3
    obtain ⟨y253, hy253⟩ : ∃ y_ : List ByteArray, y_ = (([(⟨#[97]⟩ : ByteArray), (⟨#[98]⟩ : ByteArray), (⟨#[99]⟩ : ByteArray), (⟨#[100]⟩ : ByteArray), (⟨#[108]⟩ : ByteArray), (⟨#[109]⟩ : ByteArray)] : List ByteArray)) := ⟨_, rfl⟩
    replace H : ((kauditmake_Src_Word.f s0_0 t247 y253).bind fun bt256 => (some (bt256.1, bt256.2))) = some (r1, r2) := by first | (rw [hy253]; with_reducible exact H) | (have H2_ := (Option.bind_some _ _).symm.trans H; rw [hy253]; with_reducible exact H2_) | (have H2_ := (Option.bind_some _ _).symm.trans H; with_reducible exact H2_) | with_reducible exact H | (rw [hy253]; exact H) | exact H
    have Ny253 := Aside0.mk hy253
    clear hy253
    replace H := Option.bind_eq_some_iff.mp H
    obtain ⟨⟨t256, t257⟩, A100, H⟩ := H
    replace H : (some (t256, t257)) = some (r1, r2) := H
    have A10 := Aside0.mk A100
    clear A100
    simp only [Option.some.injEq, Prod.mk.injEq] at H
    obtain ⟨rfl, rfl⟩ := H
    go_enter Tryd.func20, Tryd.ntmps20
    go_wp2_with (first | ((with_reducible refine gate_callee (f := 12) rfl ?_); refine goesL_ (some 4) rfl rfl Tryd.func12 (by kernel_rfl) rfl #[.pointer (some ⟨g, 0, none⟩), .int .i64 20] rfl (by (try simp only [List.map_toArray, List.map_cons, List.map_nil]); first | done | rfl | (simp only [List.length_drop, List.length_take]; rfl)) ?_; (with_reducible refine (kauditmake_Src_N.calls g s0_0 s0_1 20 t246 t247 w0 _ ?side1 ?side2 A2.out).mono ?_); (case side1 => repeat (first | (with_reducible first | exact HI0.out | apply IsS39.alloc | apply IsS39.drewN | apply IsS39.drew | apply IsS39.set_1) | exact HI0.out)); (case side2 => repeat (first | (with_reducible first | exact HB.out | apply below_alloc | apply pw_below_drewN | apply below_drew1 | refine below_set ?_ (IsS39.ge HI0.out)) | exact HB.out)); rintro e w11 ⟨rfl, hi, hb, hk⟩; refine ⟨_, rfl, ?_⟩; have n0_ := Aside0.mk (KeepBut.trans (by repeat (first | (with_reducible first | exact HK.out | apply KeepBut.set_ | apply keep_drewN | apply keep_drew | apply keep_alloc) | exact HK.out)) hk (.inl rfl)); have n1_ := Aside0.mk (hb); have n2_ := Aside0.mk (hi); clear HK; clear HB; clear HI0; have HK := n0_; have HB := n1_; have HI0 := n2_; clear n0_ n1_ n2_; (try clear hb); (try clear hb2); (try clear hk); (try clear hi)) | ((with_reducible refine gate_dst (N := 10) rfl ?_); refine Kd.R_lit Kd.string _ 9 ?hg (N := 10) ?hd (xs := ([(⟨#[97]⟩ : ByteArray), (⟨#[98]⟩ : ByteArray), (⟨#[99]⟩ : ByteArray), (⟨#[100]⟩ : ByteArray), (⟨#[108]⟩ : ByteArray), (⟨#[109]⟩ : ByteArray)] : List ByteArray)) (inner := [.string (⟨#[97]⟩ : ByteArray), .string (⟨#[98]⟩ : ByteArray), .string (⟨#[99]⟩ : ByteArray), .string (⟨#[100]⟩ : ByteArray), .string (⟨#[108]⟩ : ByteArray), .string (⟨#[109]⟩ : ByteArray)]) (ok := fun _ => True) (okp := fun _ => True) ?hr ?hp (fun _ hk => hk) trivial (Below.refl _ _) (Nat.le_refl _) (by simp) ?_; (case hd => rfl); (case hg => rfl); (case hr => first | (go_simp; done) | (go_simp; rfl)); (case hp => exact (Reps.one (show Kd.M Kd.string _ _ _ (⟨#[97]⟩ : ByteArray) [.string (⟨#[97]⟩ : ByteArray)] from rfl) (Reps.one (show Kd.M Kd.string _ _ _ (⟨#[98]⟩ : ByteArray) [.string (⟨#[98]⟩ : ByteArray)] from rfl) (Reps.one (show Kd.M Kd.string _ _ _ (⟨#[99]⟩ : ByteArray) [.string (⟨#[99]⟩ : ByteArray)] from rfl) (Reps.one (show Kd.M Kd.string _ _ _ (⟨#[100]⟩ : ByteArray) [.string (⟨#[100]⟩ : ByteArray)] from rfl) (Reps.one (show Kd.M Kd.string _ _ _ (⟨#[108]⟩ : ByteArray) [.string (⟨#[108]⟩ : ByteArray)] from rfl) (Reps.one (show Kd.M Kd.string _ _ _ (⟨#[109]⟩ : ByteArray) [.string (⟨#[109]⟩ : ByteArray)] from rfl) (Reps.none _ _)))))))); intro v254 w12 ho13 hb hg_ hnew_; clear hg_ hnew_; (first | rw [← Ny253.out] at ho13 | (simp only [Int.reduceToNat] at ho13; rw [← Ny253.out] at ho13)); have n0_ := Aside0.mk (Kd.R_lower ho13 (keep_size (w := w) (g := g) (row := none) (by repeat (first | (with_reducible first | exact HK.out | apply KeepBut.set_ | apply keep_drewN | apply keep_drew | apply keep_alloc) | exact HK.out)))); have n1_ := Aside0.mk (IsS39.below (by repeat (first | (with_reducible first | exact HI0.out | apply IsS39.alloc | apply IsS39.drewN | apply IsS39.drew | apply IsS39.set_1) | exact HI0.out)) hb); have n2_ := Aside0.mk (KeepBut.trans (by repeat (first | (with_reducible first | exact HK.out | apply KeepBut.set_ | apply keep_drewN | apply keep_drew | apply keep_alloc) | exact HK.out)) (KeepBut.of_below hb g none) (.inl rfl)); have n3_ := Aside0.mk (below_step (by repeat (first | (with_reducible first | exact HB.out | apply below_alloc | apply pw_below_drewN | apply below_drew1 | refine below_set ?_ (IsS39.ge HI0.out)) | exact HB.out)) hb); clear HI0; clear HK; clear HB; have HO255 := n0_; have HI0 := n1_; have HK := n2_; have HB := n3_; clear n0_ n1_ n2_ n3_; clear hb ho13; obtain ⟨Ao14, co14, eo14⟩ := Kd.R_slice HO255.out; subst eo14) | ((with_reducible refine gate_callee (f := 26) rfl ?_); refine goesL_ (some 11) rfl rfl Tryd.func26 (by kernel_rfl) rfl #[.pointer (some ⟨g, 0, none⟩), .slice Ao14 y253.length co14] rfl (by (try simp only [List.map_toArray, List.map_cons, List.map_nil]); first | done | rfl | (simp only [List.length_drop, List.length_take]; rfl)) ?_; (with_reducible refine (kauditmake_Src_Word.calls g s0_0 t247 _ _ y253 t256 t257 w0 _ ?side1 ?side2 ?side3 ?side4 ?side5 A10.out).mono ?_); (case side1 => repeat (first | (with_reducible first | exact HI0.out | apply IsS39.alloc | apply IsS39.drewN | apply IsS39.drew | apply IsS39.set_1) | exact HI0.out)); (case side2 => repeat (first | (with_reducible first | exact HB.out | apply below_alloc | apply pw_below_drewN | apply below_drew1 | refine below_set ?_ (IsS39.ge HI0.out)) | exact HB.out)); (case side3 => repeat (first | exact (Kd.R_reads' HO255.out).2.2 | (with_reducible refine Kd.C_alloc ?_ _) | (with_reducible refine Kd.C_drewN ?_ _) | (with_reducible refine Kd.C_drew ?_))); (case side4 => exact (Kd.R_reads' HO255.out).2.1); (case side5 => exact far_slice (IsS39.own_ne HI0.out HO255.out (by decide))); rintro e w15 ⟨rfl, hi, hb, hk⟩; refine ⟨_, rfl, ?_⟩; have n0_ := Aside0.mk (Kd.R_mono (Kd.R_keep (IsS39.apart (show IsS39 w0 _ g s0_0 t247 from by repeat (first | (with_reducible first | exact HI0.out | apply IsS39.alloc | apply IsS39.drewN | apply IsS39.drew | apply IsS39.set_1) | exact HI0.out)) (by (with_reducible repeat (first | apply Kd.R_alloc | apply Kd.R_drewN | apply Kd.R_drew)); exact HO255.out) (by decide)) hk (fun _ h => h.2)) (fun _ h => h.1)); have n1_ := Aside0.mk (KeepBut.trans (by repeat (first | (with_reducible first | exact HK.out | apply KeepBut.set_ | apply keep_drewN | apply keep_drew | apply keep_alloc) | exact HK.out)) hk (.inl rfl)); have n2_ := Aside0.mk (hb); have n3_ := Aside0.mk (hi); clear HO255; clear HK; clear HB; clear HI0; have HO255 := n0_; have HK := n1_; have HB := n2_; have HI0 := n3_; clear n0_ n1_ n2_ n3_; (try clear hb); (try clear hb2); (try clear hk); (try clear hi)))
    go_ret
    exact ⟨by first | rfl | (simp [errW_none, errW_some] <;> rfl) | (simp [*, errW_none, errW_some] <;> rfl), by repeat (first | (with_reducible first | exact HI0.out | apply IsS39.alloc | apply IsS39.drewN | apply IsS39.drew | apply IsS39.set_1) | exact HI0.out), by repeat (first | (with_reducible first | exact HB.out | apply below_alloc | apply pw_below_drewN | apply below_drew1 | refine below_set ?_ (IsS39.ge HI0.out)) | exact HB.out), by repeat (first | (with_reducible first | exact HK.out | apply KeepBut.set_ | apply keep_drewN | apply keep_drew | apply keep_alloc) | exact HK.out)⟩

end Go.Proofs.YtnjabpgbpgocnaaDoor.PAll

-- PAllx53
namespace Go.Proofs.YtnjabpgbpgocnaaDoor.PAll
open Go.RowKit Go.Proofs.YtnjabpgbpgocnaaDoorW.PrintWords Go.Proofs.YtnjabpgbpgocnaaDoorW.PrintLast Go.Proofs.YtnjabpgbpgocnaaDoorW.PrintMore
attribute [local go_sem] max2_int min2_int max_two min_two max_three min_three max_four min_four   -- for this text's walks alone
set_option linter.unusedVariables false
set_option linter.unusedSimpArgs false

/-! ### kauditlaw04_PathBack: function 7 -/
mutual
def kauditlaw04_PathBack.j0 : Nat → ByteArray → ByteArray → List Int → Int → Option (Bool)
  | 0, _, _, _, _ => none
  | k + 1, x4, x5, x261000, x261001 => (kauditmake_Src_N.f x261000 x261001 6).bind fun bt265 => (if bt265.1 = 0 then (kauditlaw04_PathBack.j1 k (⟨#[47]⟩ : ByteArray) x5) else (kauditlaw04_PathBack.j1 k x4 x5))
def kauditlaw04_PathBack.j1 : Nat → ByteArray → ByteArray → Option (Bool)
  | 0, _, _ => none
  | k + 1, x4, x5 => (path_Parent.f k x4).bind fun bt267 => (if (bt267.2.2 != (x4.toList != ([47] : List UInt8))) = true then (kauditlaw04_PathBack.j2 k x4 x5 true) else (if bt267.2.2 = true then ((path_Join.f bt267.1 bt267.2.1).bind fun t270 => (kauditlaw04_PathBack.j2 k x4 x5 (t270.toList != x4.toList))) else (kauditlaw04_PathBack.j2 k x4 x5 false)))
def kauditlaw04_PathBack.j2 : Nat → ByteArray → ByteArray → Bool → Option (Bool)
  | 0, _, _, _ => none
  | k + 1, x4, x5, x42 => if x42 = true then (some false) else ((path_Join.f x4 x5).bind fun t271 => ((path_Parent.f k t271).bind fun bt272 => ((path_Name.f x5).bind fun t275 => (if (bt272.2.2 == t275) = true then (if bt272.2.2 = true then (if bt272.1.toList = x4.toList then (if bt272.2.1.toList = x5.toList then ((kauditlaw04_awake.f k).bind fun t276 => (some t276)) else (some false)) else (some false)) else ((kauditlaw04_awake.f k).bind fun t277 => (some t277))) else (some false)))))
end
def kauditlaw04_PathBack.f (k : Nat) (l0 : List Int) : Option (Bool) := (kauditmake_New.f l0).bind fun bt258 => ((kauditmake_Src_Clean.f k bt258.1 bt258.2).bind fun bt261 => ((kauditmake_Src_Name.f bt258.1 bt261.2).bind fun bt263 => (if bt263.1.toList = ([97, 47, 98] : List UInt8) then (kauditlaw04_PathBack.j0 k bt261.1 (⟨#[46, 46, 46]⟩ : ByteArray) bt258.1 bt263.2) else (kauditlaw04_PathBack.j0 k bt261.1 bt263.1 bt258.1 bt263.2))))
theorem kauditlaw04_PathBack.mono_l : ∀ k, (∀ y0 y1 y2 y3, LeO (kauditlaw04_PathBack.j0 k y0 y1 y2 y3) (kauditlaw04_PathBack.j0 (k + 1) y0 y1 y2 y3)) ∧ (∀ y0 y1, LeO (kauditlaw04_PathBack.j1 k y0 y1) (kauditlaw04_PathBack.j1 (k + 1) y0 y1)) ∧ (∀ y0 y1 y2, LeO (kauditlaw04_PathBack.j2 k y0 y1 y2) (kauditlaw04_PathBack.j2 (k + 1) y0 y1 y2))
  | 0 => ⟨fun _ _ _ _ r h => by simp [kauditlaw04_PathBack.j0] at h, fun _ _ r h => by simp [kauditlaw04_PathBack.j1] at h, fun _ _ _ r h => by simp [kauditlaw04_PathBack.j2] at h⟩
  | k + 1 => by
    obtain ⟨ih0, ih1, ih2⟩ := kauditlaw04_PathBack.mono_l k
    refine ⟨?_, ?_, ?_⟩
    · intro y0 y1 y2 y3
      unfold kauditlaw04_PathBack.j0
      repeat' first
      | (with_reducible exact ih0 _ _ _ _)
      | (with_reducible exact ih1 _ _)
      | (with_reducible exact ih2 _ _ _)
      | (with_reducible exact kauditlaw04_awake.mono _)
      | (with_reducible exact kauditmake_Src_Clean.mono _ _ _)
      | (with_reducible exact path_Parent.mono _ _)
      | (with_reducible exact LeO.refl _)
      | (with_reducible exact LeO.none _)
      | (with_reducible refine LeO.ite ?_ ?_)
      | (with_reducible refine LeO.bind ?_ (fun _ => ?_))
      | exact ih0 _ _ _ _
      | exact ih1 _ _
      | exact ih2 _ _ _
      | exact kauditlaw04_awake.mono _
      | exact kauditmake_Src_Clean.mono _ _ _
      | exact path_Parent.mono _ _
      | exact LeO.none _
      | refine LeO.ite ?_ ?_
      | refine LeO.bind ?_ (fun _ => ?_)
    · intro y0 y1
      unfold kauditlaw04_PathBack.j1
      repeat' first
      | (with_reducible exact ih0 _ _ _ _)
      | (with_reducible exact ih1 _ _)
      | (with_reducible exact ih2 _ _ _)
      | (with_reducible exact kauditlaw04_awake.mono _)
      | (with_reducible exact kauditmake_Src_Clean.mono _ _ _)
      | (with_reducible exact path_Parent.mono _ _)
      | (with_reducible exact LeO.refl _)
      | (with_reducible exact LeO.none _)
      | (with_reducible refine LeO.ite ?_ ?_)
      | (with_reducible refine LeO.bind ?_ (fun _ => ?_))
      | exact ih0 _ _ _ _
      | exact ih1 _ _
      | exact ih2 _ _ _
      | exact kauditlaw04_awake.mono _
      | exact kauditmake_Src_Clean.mono _ _ _
      | exact path_Parent.mono _ _
      | exact LeO.none _
      | refine LeO.ite ?_ ?_
      | refine LeO.bind ?_ (fun _ => ?_)
    · intro y0 y1 y2
      unfold kauditlaw04_PathBack.j2
      repeat' first
      | (with_reducible exact ih0 _ _ _ _)
      | (with_reducible exact ih1 _ _)
      | (with_reducible exact ih2 _ _ _)
      | (with_reducible exact kauditlaw04_awake.mono _)
      | (with_reducible exact kauditmake_Src_Clean.mono _ _ _)
      | (with_reducible exact path_Parent.mono _ _)
      | (with_reducible exact LeO.refl _)
      | (with_reducible exact LeO.none _)
      | (with_reducible refine LeO.ite ?_ ?_)
      | (with_reducible refine LeO.bind ?_ (fun _ => ?_))
      | exact ih0 _ _ _ _
      | exact ih1 _ _
      | exact ih2 _ _ _
      | exact kauditlaw04_awake.mono _
      | exact kauditmake_Src_Clean.mono _ _ _
      | exact path_Parent.mono _ _
      | exact LeO.none _
      | refine LeO.ite ?_ ?_
      | refine LeO.bind ?_ (fun _ => ?_)
theorem kauditlaw04_PathBack.mono : ∀ a0 k, LeO (kauditlaw04_PathBack.f k a0) (kauditlaw04_PathBack.f (k + 1) a0) := by
  intro a0 k
  obtain ⟨ih0, ih1, ih2⟩ := kauditlaw04_PathBack.mono_l k
  unfold kauditlaw04_PathBack.f
  repeat' first
      | (with_reducible exact ih0 _ _ _ _)
      | (with_reducible exact ih1 _ _)
      | (with_reducible exact ih2 _ _ _)
      | (with_reducible exact kauditlaw04_awake.mono _)
      | (with_reducible exact kauditmake_Src_Clean.mono _ _ _)
      | (with_reducible exact path_Parent.mono _ _)
      | (with_reducible exact LeO.refl _)
      | (with_reducible exact LeO.none _)
      | (with_reducible refine LeO.ite ?_ ?_)
      | (with_reducible refine LeO.bind ?_ (fun _ => ?_))
      | exact ih0 _ _ _ _
      | exact ih1 _ _
      | exact ih2 _ _ _
      | exact kauditlaw04_awake.mono _
      | exact kauditmake_Src_Clean.mono _ _ _
      | exact path_Parent.mono _ _
      | exact LeO.none _
      | refine LeO.ite ?_ ?_
      | refine LeO.bind ?_ (fun _ => ?_)
set_option maxHeartbeats 8000000 in
set_option maxRecDepth 100000 in
theorem kauditlaw04_PathBack.calls (k : Nat) (A0 : Option Addr) (c0 : Nat) (l0 : List Int) (r : Bool) (w : World) (hr0 : Kd.C (Kd.int .i64) w A0 l0.length l0) (hc0 : l0.length ≤ c0) (h : kauditlaw04_PathBack.f k l0 = some r) :
    Calls Tryd.prog 7 #[.slice A0 l0.length c0] w fun e w' => e = .returned (.bool r) ∧ Below w.heap.size w w' := by
  have HR0 := Aside0.mk hr0
  have HC0 := Aside0.mk hc0
  clear hr0 hc0
  have HB := Aside0.mk (Below.refl w.heap.size w)
  have H : ((kauditmake_New.f l0).bind fun bt258 => ((kauditmake_Src_Clean.f k bt258.1 bt258.2).bind fun bt261 => ((kauditmake_Src_Name.f bt258.1 bt261.2).bind fun bt263 => (if bt263.1.toList = ([97, 47, 98] : List UInt8) then (kauditlaw04_PathBack.j0 k bt261.1 (⟨#[46, 46, 46]⟩ : ByteArray) bt258.1 bt263.2) else (kauditlaw04_PathBack.j0 k bt261.1 bt263.1 bt258.1 bt263.2))))) = some r := h
  clear h
  replace H := Option.bind_eq_some_iff.mp H
  obtain ⟨⟨t258, t259⟩, A20, H⟩ := H
  replace H : ((kauditmake_Src_Clean.f k t258 t259).bind fun bt261 => ((kauditmake_Src_Name.f t258 bt261.2).bind fun bt263 => (if bt263.1.toList = ([97, 47, 98] : List UInt8) then (kauditlaw04_PathBack.j0 k bt261.1 (⟨#[46, 46, 46]⟩ : ByteArray) t258 bt263.2) else (kauditlaw04_PathBack.j0 k bt261.1 bt263.1 t258 bt263.2)))) = some r := H
  have A2 := Aside0.mk A20
  clear A20
  replace H := Option.bind_eq_some_iff.mp H
  obtain ⟨⟨t261, t262⟩, A30, H⟩ := H
  replace H : ((kauditmake_Src_Name.f t258 t262).bind fun bt263 => (if bt263.1.toList = ([97, 47, 98] : List UInt8) then (kauditlaw04_PathBack.j0 k t261 (⟨#[46, 46, 46]⟩ : ByteArray) t258 bt263.2) else (kauditlaw04_PathBack.j0 k t261 bt263.1 t258 bt263.2))) = some r := H
  have A3 := Aside0.mk A30
  clear A30
  replace H := Option.bind_eq_some_iff.mp H
  obtain ⟨⟨t263, t264⟩, A40, H⟩ := H
  replace H : (if t263.toList = ([97, 47, 98] : List UInt8) then (kauditlaw04_PathBack.j0 k t261 (⟨#[46, 46, 46]⟩ : ByteArray) t258 t264) else (kauditlaw04_PathBack.j0 k t261 t263 t258 t264)) = some r := H
  have A4 := Aside0.mk A40
  clear A40
  have HC5 := Aside0.mk H
  clear H
  go_enter Tryd.func7, Tryd.ntmps7
  go_upto_if 19 with (first | ((with_reducible refine gate_callee (f := 10) rfl ?_); refine goesL_ (some 13) rfl rfl Tryd.func10 (by kernel_rfl) rfl #[.slice A0 l0.length c0] rfl (by (try simp only [List.map_toArray, List.map_cons, List.map_nil]); first | done | rfl | (simp only [List.length_drop, List.length_take]; rfl)) ?_; (with_reducible refine (kauditmake_New.calls _ _ l0 t258 t259 w _ ?side1 ?side2 ?side3 A2.out).mono ?_); (case side1 => repeat (first | (with_reducible first | exact HB.out | apply below_alloc | apply pw_below_drewN | apply below_drew1) | exact HB.out)); (case side2 => exact HR0.out); (case side3 => exact HC0.out); rintro e w6 ⟨g260, rfl, hi, hb, hb2⟩; refine ⟨_, rfl, ?_⟩; have n0_ := Aside0.mk (hb); have n1_ := Aside0.mk (hi); clear HB; have HB := n0_; have HI260 := n1_; clear n0_ n1_; (try clear hb); (try clear hb2); (try clear hk); (try clear hi)) | ((with_reducible refine gate_callee (f := 11) rfl ?_); refine goesL_ (some 15) rfl rfl Tryd.func11 (by kernel_rfl) rfl #[.pointer (some ⟨g260, 0, none⟩)] rfl (by (try simp only [List.map_toArray, List.map_cons, List.map_nil]); first | done | rfl | (simp only [List.length_drop, List.length_take]; rfl)) ?_; (with_reducible refine (kauditmake_Src_Clean.calls k g260 t258 t259 t261 t262 w _ ?side1 ?side2 A3.out).mono ?_); (case side1 => repeat (first | (with_reducible first | exact HI260.out | apply IsS39.alloc | apply IsS39.drewN | apply IsS39.drew | apply IsS39.set_1) | exact HI260.out)); (case side2 => repeat (first | (with_reducible first | exact HB.out | apply below_alloc | apply pw_below_drewN | apply below_drew1 | refine below_set ?_ (IsS39.ge HI260.out)) | exact HB.out)); rintro e w7 ⟨rfl, hi, hb, hk⟩; refine ⟨_, rfl, ?_⟩; have n0_ := Aside0.mk (hb); have n1_ := Aside0.mk (hi); clear HB; clear HI260; have HB := n0_; have HI260 := n1_; clear n0_ n1_; (try clear hb); (try clear hb2); (try clear hk); (try clear hi)) | ((with_reducible refine gate_callee (f := 20) rfl ?_); refine goesL_ (some 17) rfl rfl Tryd.func20 (by kernel_rfl) rfl #[.pointer (some ⟨g260, 0, none⟩)] rfl (by (try simp only [List.map_toArray, List.map_cons, List.map_nil]); first | done | rfl | (simp only [List.length_drop, List.length_take]; rfl)) ?_; (with_reducible refine (kauditmake_Src_Name.calls g260 t258 t262 t263 t264 w _ ?side1 ?side2 A4.out).mono ?_); (case side1 => repeat (first | (with_reducible first | exact HI260.out | apply IsS39.alloc | apply IsS39.drewN | apply IsS39.drew | apply IsS39.set_1) | exact HI260.out)); (case side2 => repeat (first | (with_reducible first | exact HB.out | apply below_alloc | apply pw_below_drewN | apply below_drew1 | refine below_set ?_ (IsS39.ge HI260.out)) | exact HB.out)); rintro e w8 ⟨rfl, hi, hb, hk⟩; refine ⟨_, rfl, ?_⟩; have n0_ := Aside0.mk (hb); have n1_ := Aside0.mk (hi); clear HB; clear HI260; have HB := n0_; have HI260 := n1_; clear n0_ n1_; (try clear hb); (try clear hb2); (try clear hk); (try clear hi)))
  (try simp only [Act.put, List.setIfInBounds_toArray, List.set_cons_zero, List.set_cons_succ])
  go_cut [5] (fun v5 wc => ∃ (kq : Nat) (x5_4 : ByteArray), v5 = .string x5_4 ∧ Aside0 (kauditlaw04_PathBack.j0 kq t261 x5_4 t258 t264 = some r) ∧ Aside0 (kq ≤ k) ∧ Aside0 (IsS39 w wc g260 t258 t264) ∧ Aside0 (Below w.heap.size w wc))
  case first =>
    have H := HC5.out
    clear HC5
    by_cases c9 : t263.toList = ([97, 47, 98] : List UInt8)
    · rw [if_pos c9] at H
      have c9b0 : (t263.toList == ([97, 47, 98] : List UInt8)) = true := beq_iff_eq.mpr c9
      have c9b1 : (t263.toList != ([97, 47, 98] : List UInt8)) = false := bne_eq_false_iff_eq.mpr c9
      clear c9
      (first | rw [c9b0] | (simp only [i64_w, i32_w]; rw [c9b0]) | skip)
      have H' := Aside0.mk H
      clear H
      go_wp2
      go_meet
      case rel => exact ⟨_, ((⟨#[46, 46, 46]⟩ : ByteArray)), (by first | rfl | (simp; done) | (simp [*]; done)), H', ⟨by first | omega | exact Nat.le_refl _⟩, ⟨by repeat (first | (with_reducible first | exact HI260.out | apply IsS39.alloc | apply IsS39.drewN | apply IsS39.drew | apply IsS39.set_1) | exact HI260.out)⟩, ⟨by repeat (first | (with_reducible first | exact HB.out | apply below_alloc | apply pw_below_drewN | apply below_drew1 | refine below_set ?_ (IsS39.ge HI260.out)) | exact HB.out)⟩⟩
    · rw [if_neg c9] at H
      have c9b0 : (t263.toList == ([97, 47, 98] : List UInt8)) = false := beq_eq_false_iff_ne.mpr c9
      have c9b1 : (t263.toList != ([97, 47, 98] : List UInt8)) = true := bne_iff_ne.mpr c9
      (first | rw [c9b0] | (simp only [i64_w, i32_w]; rw [c9b0]) | skip)
      have H' := Aside0.mk H
      clear H
      go_wp2
      go_meet
      case rel => exact ⟨_, (t263), (by first | rfl | (simp; done) | (simp [*]; done)), H', ⟨by first | omega | exact Nat.le_refl _⟩, ⟨by repeat (first | (with_reducible first | exact HI260.out | apply IsS39.alloc | apply IsS39.drewN | apply IsS39.drew | apply IsS39.set_1) | exact HI260.out)⟩, ⟨by repeat (first | (with_reducible first | exact HB.out | apply below_alloc | apply pw_below_drewN | apply below_drew1 | refine below_set ?_ (IsS39.ge HI260.out)) | exact HB.out)⟩⟩
  case rest =>
    clear HC5
    try clear c1
    try clear c2
    try clear p2
    try clear c7
    try clear c9
    try clear c9b0
    try clear c9b1
    obtain ⟨kq, x5_4, rfl, HA, HJ4, HI260, HB⟩ := hcut
    cases kq with
    | zero => exact absurd HA.out (by simp [kauditlaw04_PathBack.j0])
    | succ kj4 =>
      have H := HA.out
      clear HA
      simp only [kauditlaw04_PathBack.j0] at H
      replace H := Option.bind_eq_some_iff.mp H
      obtain ⟨⟨t265, t266⟩, A100, H⟩ := H
      replace H : (if t265 = 0 then (kauditlaw04_PathBack.j1 kj4 (⟨#[47]⟩ : ByteArray) x5_4) else (kauditlaw04_PathBack.j1 kj4 t261 x5_4)) = some r := H
      have A10 := Aside0.mk A100
      clear A100
      have HC11 := Aside0.mk H
      clear H
      go_upto_if 22 with (first | ((with_reducible refine gate_callee (f := 12) rfl ?_); refine goesL_ (some 21) rfl rfl Tryd.func12 (by kernel_rfl) rfl #[.pointer (some ⟨g260, 0, none⟩), .int .i64 6] rfl (by (try simp only [List.map_toArray, List.map_cons, List.map_nil]); first | done | rfl | (simp only [List.length_drop, List.length_take]; rfl)) ?_; (with_reducible refine (kauditmake_Src_N.calls g260 t258 t264 6 t265 t266 w _ ?side1 ?side2 A10.out).mono ?_); (case side1 => repeat (first | (with_reducible first | exact HI260.out | apply IsS39.alloc | apply IsS39.drewN | apply IsS39.drew | apply IsS39.set_1) | exact HI260.out)); (case side2 => repeat (first | (with_reducible first | exact HB.out | apply below_alloc | apply pw_below_drewN | apply below_drew1 | refine below_set ?_ (IsS39.ge HI260.out)) | exact HB.out)); rintro e w12 ⟨rfl, hi, hb, hk⟩; refine ⟨_, rfl, ?_⟩; have n0_ := Aside0.mk (hb); have n1_ := Aside0.mk (hi); clear HB; clear HI260; have HB := n0_; have HI260 := n1_; clear n0_ n1_; (try clear hb); (try clear hb2); (try clear hk); (try clear hi)))
      (try simp only [Act.put, List.setIfInBounds_toArray, List.set_cons_zero, List.set_cons_succ])
      go_cut [4] (fun v4 wc => ∃ (kq : Nat) (x4_10 : ByteArray), v4 = .string x4_10 ∧ Aside0 (kauditlaw04_PathBack.j1 kq x4_10 x5_4 = some r) ∧ Aside0 (kq ≤ kj4) ∧ Aside0 (Below w.heap.size w wc))
      case first =>
        have H := HC11.out
        clear HC11
        by_cases c13 : t265 = 0
        · rw [if_pos c13] at H
          have c13b0 : (t265 == 0) = true := beq_iff_eq.mpr c13
          have c13b1 : (t265 != 0) = false := bne_eq_false_iff_eq.mpr c13
          clear c13
          (first | rw [c13b0] | (simp only [i64_w, i32_w]; rw [c13b0]) | skip)
          have H' := Aside0.mk H
          clear H
          go_wp2
          go_meet
          case rel => exact ⟨_, ((⟨#[47]⟩ : ByteArray)), (by first | rfl | (simp; done) | (simp [*]; done)), H', ⟨by have := HJ4.out; first | omega | exact Nat.le_refl _⟩, ⟨by repeat (first | (with_reducible first | exact HB.out | apply below_alloc | apply pw_below_drewN | apply below_drew1 | refine below_set ?_ (IsS39.ge HI260.out)) | exact HB.out)⟩⟩
        · rw [if_neg c13] at H
          have c13b0 : (t265 == 0) = false := beq_eq_false_iff_ne.mpr c13
          have c13b1 : (t265 != 0) = true := bne_iff_ne.mpr c13
          (first | rw [c13b0] | (simp only [i64_w, i32_w]; rw [c13b0]) | skip)
          have H' := Aside0.mk H
          clear H
          go_wp2
          go_meet
          case rel => exact ⟨_, (t261), (by first | rfl | (simp; done) | (simp [*]; done)), H', ⟨by have := HJ4.out; first | omega | exact Nat.le_refl _⟩, ⟨by repeat (first | (with_reducible first | exact HB.out | apply below_alloc | apply pw_below_drewN | apply below_drew1 | refine below_set ?_ (IsS39.ge HI260.out)) | exact HB.out)⟩⟩
      case rest =>
        clear HC11
        try clear c1
        try clear c2
        try clear p2
        try clear c7
        try clear c9
        try clear c9b0
        try clear c9b1
        try clear c10
        try clear c11
        try clear c12
        try clear c13
        try clear c13b0
        try clear c13b1
        try clear p2
        obtain ⟨kq, x4_10, rfl, HA, HJ10, HB⟩ := hcut
        cases kq with
        | zero => exact absurd HA.out (by simp [kauditlaw04_PathBack.j1])
        | succ kj10 =>
          have H := HA.out
          clear HA
          simp only [kauditlaw04_PathBack.j1] at H
          replace H := Option.bind_eq_some_iff.mp H
          obtain ⟨⟨t267, t268, t269⟩, A140, H⟩ := H
          replace H : (if (t269 != (x4_10.toList != ([47] : List UInt8))) = true then (kauditlaw04_PathBack.j2 kj10 x4_10 x5_4 true) else (if t269 = true then ((path_Join.f t267 t268).bind fun t270 => (kauditlaw04_PathBack.j2 kj10 x4_10 x5_4 (t270.toList != x4_10.toList))) else (kauditlaw04_PathBack.j2 kj10 x4_10 x5_4 false))) = some r := H
          have A14 := Aside0.mk A140
          clear A140
          have HC15 := Aside0.mk H
          clear H
          go_upto_region 8 with (first | ((with_reducible refine gate_callee (f := 21) rfl ?_); refine goesL_ (some 25) rfl rfl Tryd.func21 (by kernel_rfl) rfl #[.string x4_10] rfl (by (try simp only [List.map_toArray, List.map_cons, List.map_nil]); first | done | rfl | (simp only [List.length_drop, List.length_take]; rfl)) ?_; (with_reducible refine (path_Parent.calls kj10 x4_10 t267 t268 t269 _ A14.out).mono ?_); rintro e w16 ⟨rfl, hb⟩; refine ⟨_, rfl, ?_⟩; have n0_ := Aside0.mk (below_step (by repeat (first | (with_reducible first | exact HB.out | apply below_alloc | apply pw_below_drewN | apply below_drew1) | exact HB.out)) hb); clear HB; have HB := n0_; clear n0_; (try clear hb); (try clear hb2); (try clear hk); (try clear hi)))
          (try simp only [Act.put, List.setIfInBounds_toArray, List.set_cons_zero, List.set_cons_succ])
          go_cut [42] (fun v42 wc => ∃ (kq : Nat) (x42_14 : Bool), v42 = .bool x42_14 ∧ Aside0 (kauditlaw04_PathBack.j2 kq x4_10 x5_4 x42_14 = some r) ∧ Aside0 (kq ≤ kj10) ∧ Aside0 (Below w.heap.size w wc))
          case first =>
            have H := HC15.out
            clear HC15
            by_cases c17 : (t269 != (x4_10.toList != ([47] : List UInt8))) = true
            · rw [if_pos c17] at H
              have c17b0 : (t269 != (x4_10.toList != ([47] : List UInt8))) = true := c17
              (try (have c17b1 : decide (t269 = (x4_10.toList != ([47] : List UInt8))) = false := by simpa using c17))
              (try (have c17b2 : (t269 == (x4_10.toList != ([47] : List UInt8))) = false := by simpa using c17))
              (try (have c17b3 : ¬ (t269 = (x4_10.toList != ([47] : List UInt8))) := by simpa using c17))
              clear c17
              (first | rw [c17b0] | (simp only [i64_w, i32_w]; rw [c17b0]) | skip)
              have H' := Aside0.mk H
              clear H
              go_wp2
              go_meet
              case rel => exact ⟨_, (true), (by first | rfl | (simp; done) | (simp [*]; done)), H', ⟨by have := HJ4.out; have := HJ10.out; first | omega | exact Nat.le_refl _⟩, ⟨by repeat (first | (with_reducible first | exact HB.out | apply below_alloc | apply pw_below_drewN | apply below_drew1) | exact HB.out)⟩⟩
            · rw [if_neg c17] at H
              have c17b0 : (t269 != (x4_10.toList != ([47] : List UInt8))) = false := by simpa using c17
              (try (have c17b1 : decide (t269 = (x4_10.toList != ([47] : List UInt8))) = true := by simpa using c17))
              (try (have c17b2 : (t269 == (x4_10.toList != ([47] : List UInt8))) = true := by simpa using c17))
              clear c17
              (first | rw [c17b0] | (simp only [i64_w, i32_w]; rw [c17b0]) | skip)
              by_cases c18 : t269 = true
              · subst c18
                have cx : (x4_10.toList == ([47] : List UInt8)) = false := by simpa using c17b0
                have H1 : ((path_Join.f t267 t268).bind fun t270 => (kauditlaw04_PathBack.j2 kj10 x4_10 x5_4 (t270.toList != x4_10.toList))) = some r := by rw [if_pos rfl] at H; exact H
                clear H
                have H := H1
                clear H1
                replace H := Option.bind_eq_some_iff.mp H
                obtain ⟨t270, A190, H⟩ := H
                replace H : (kauditlaw04_PathBack.j2 kj10 x4_10 x5_4 (t270.toList != x4_10.toList)) = some r := H
                have A19 := Aside0.mk A190
                clear A190
                have H' := Aside0.mk H
                clear H
                go_wp2_with (first | (go_at_call 13; (with_reducible refine (path_Join.calls t267 t268 t270 _ A19.out).mono ?_); rintro e w' ⟨rfl, ⟨nd, rfl⟩⟩))
                go_meet
                case rel => exact ⟨_, ((t270.toList != x4_10.toList)), (by first | rfl | (simp; done) | (simp [*]; done)), H', ⟨by have := HJ4.out; have := HJ10.out; first | omega | exact Nat.le_refl _⟩, ⟨by repeat (first | (with_reducible first | exact HB.out | apply below_alloc | apply pw_below_drewN | apply below_drew1) | exact HB.out)⟩⟩
              · replace c18 := Bool.eq_false_iff.mpr c18
                subst c18
                have cx : (x4_10.toList == ([47] : List UInt8)) = true := by simpa using c17b0
                have H1 : (kauditlaw04_PathBack.j2 kj10 x4_10 x5_4 false) = some r := by rw [if_neg (show ¬ (false = true) by decide)] at H; exact H
                clear H
                have H := H1
                clear H1
                have H' := Aside0.mk H
                clear H
                go_wp2
                go_meet
                case rel => exact ⟨_, (false), (by first | rfl | (simp; done) | (simp [*]; done)), H', ⟨by have := HJ4.out; have := HJ10.out; first | omega | exact Nat.le_refl _⟩, ⟨by repeat (first | (with_reducible first | exact HB.out | apply below_alloc | apply pw_below_drewN | apply below_drew1) | exact HB.out)⟩⟩
          case rest =>
            clear HC15
            try clear c1
            try clear c2
            try clear p2
            try clear c7
            try clear c9
            try clear c9b0
            try clear c9b1
            try clear c10
            try clear c11
            try clear c12
            try clear c13
            try clear c13b0
            try clear c13b1
            try clear c17
            try clear c17b0
            try clear c17b1
            try clear c17b2
            try clear c18
            try clear p2
            obtain ⟨kq, x42_14, rfl, HA, HJ14, HB⟩ := hcut
            cases kq with
            | zero => exact absurd HA.out (by simp [kauditlaw04_PathBack.j2])
            | succ kj14 =>
              have H := HA.out
              clear HA
              simp only [kauditlaw04_PathBack.j2] at H
              by_cases c20 : x42_14 = true
              · subst c20
                have H1 : (some false) = some r := by rw [if_pos rfl] at H; exact H
                clear H
                have H := H1
                clear H1
                obtain rfl := Option.some.inj H
                go_wp2
                go_ret
                exact ⟨by first | rfl | (simp [errW_none, errW_some] <;> rfl) | (simp [*, errW_none, errW_some] <;> rfl), by repeat (first | (with_reducible first | exact HB.out | apply below_alloc | apply pw_below_drewN | apply below_drew1) | exact HB.out)⟩
              · replace c20 := Bool.eq_false_iff.mpr c20
                subst c20
                have H1 : ((path_Join.f x4_10 x5_4).bind fun t271 => ((path_Parent.f kj14 t271).bind fun bt272 => ((path_Name.f x5_4).bind fun t275 => (if (bt272.2.2 == t275) = true then (if bt272.2.2 = true then (if bt272.1.toList = x4_10.toList then (if bt272.2.1.toList = x5_4.toList then ((kauditlaw04_awake.f kj14).bind fun t276 => (some t276)) else (some false)) else (some false)) else ((kauditlaw04_awake.f kj14).bind fun t277 => (some t277))) else (some false))))) = some r := by rw [if_neg (show ¬ (false = true) by decide)] at H; exact H
                clear H
                have H := H1
                clear H1
                replace H := Option.bind_eq_some_iff.mp H
                obtain ⟨t271, A210, H⟩ := H
                replace H : ((path_Parent.f kj14 t271).bind fun bt272 => ((path_Name.f x5_4).bind fun t275 => (if (bt272.2.2 == t275) = true then (if bt272.2.2 = true then (if bt272.1.toList = x4_10.toList then (if bt272.2.1.toList = x5_4.toList then ((kauditlaw04_awake.f kj14).bind fun t276 => (some t276)) else (some false)) else (some false)) else ((kauditlaw04_awake.f kj14).bind fun t277 => (some t277))) else (some false)))) = some r := H
                have A21 := Aside0.mk A210
                clear A210
                replace H := Option.bind_eq_some_iff.mp H
                obtain ⟨⟨t272, t273, t274⟩, A220, H⟩ := H
                replace H : ((path_Name.f x5_4).bind fun t275 => (if (t274 == t275) = true then (if t274 = true then (if t272.toList = x4_10.toList then (if t273.toList = x5_4.toList then ((kauditlaw04_awake.f kj14).bind fun t276 => (some t276)) else (some false)) else (some false)) else ((kauditlaw04_awake.f kj14).bind fun t277 => (some t277))) else (some false))) = some r := H
                have A22 := Aside0.mk A220
                clear A220
                replace H := Option.bind_eq_some_iff.mp H
                obtain ⟨t275, A230, H⟩ := H
                replace H : (if (t274 == t275) = true then (if t274 = true then (if t272.toList = x4_10.toList then (if t273.toList = x5_4.toList then ((kauditlaw04_awake.f kj14).bind fun t276 => (some t276)) else (some false)) else (some false)) else ((kauditlaw04_awake.f kj14).bind fun t277 => (some t277))) else (some false)) = some r := H
                have A23 := Aside0.mk A230
                clear A230
                by_cases c24 : (t274 == t275) = true
                · rw [if_pos c24] at H
                  have c24b0 : (t274 == t275) = true := c24
                  (try (have c24b1 : decide (t274 = t275) = true := by simpa using c24))
                  (try (have c24b2 : (t274 == t275) = true := by simpa using c24))
                  clear c24
                  by_cases c25 : t274 = true
                  · subst c25
                    have H1 : (if t272.toList = x4_10.toList then (if t273.toList = x5_4.toList then ((kauditlaw04_awake.f kj14).bind fun t276 => (some t276)) else (some false)) else (some false)) = some r := by rw [if_pos rfl] at H; exact H
                    clear H
                    have H := H1
                    clear H1
                    by_cases c26 : t272.toList = x4_10.toList
                    · rw [if_pos c26] at H
                      have c26b0 : (t272.toList == x4_10.toList) = true := beq_iff_eq.mpr c26
                      have c26b1 : (t272.toList != x4_10.toList) = false := bne_eq_false_iff_eq.mpr c26
                      clear c26
                      by_cases c27 : t273.toList = x5_4.toList
                      · rw [if_pos c27] at H
                        have c27b0 : (t273.toList == x5_4.toList) = true := beq_iff_eq.mpr c27
                        have c27b1 : (t273.toList != x5_4.toList) = false := bne_eq_false_iff_eq.mpr c27
                        clear c27
                        replace H := Option.bind_eq_some_iff.mp H
                        obtain ⟨t276, A280, H⟩ := H
                        replace H : (some t276) = some r := H
                        have A28 := Aside0.mk A280
                        clear A280
                        obtain rfl := Option.some.inj H
                        go_wp2_with (first | ((with_reducible refine gate_callee (f := 13) rfl ?_); refine goesL_ (some 46) rfl rfl Tryd.func13 (by kernel_rfl) rfl #[.string x4_10, .string x5_4] rfl (by (try simp only [List.map_toArray, List.map_cons, List.map_nil]); first | done | rfl | (simp only [List.length_drop, List.length_take]; rfl)) ?_; (with_reducible refine (path_Join.calls x4_10 x5_4 t271 _ A21.out).mono ?_); rintro e w' ⟨rfl, ⟨nd, rfl⟩⟩; refine ⟨_, rfl, ?_⟩) | ((with_reducible refine gate_callee (f := 21) rfl ?_); refine goesL_ (some 47) rfl rfl Tryd.func21 (by kernel_rfl) rfl #[.string t271] rfl (by (try simp only [List.map_toArray, List.map_cons, List.map_nil]); first | done | rfl | (simp only [List.length_drop, List.length_take]; rfl)) ?_; (with_reducible refine (path_Parent.calls kj14 t271 t272 t273 true _ A22.out).mono ?_); rintro e w29 ⟨rfl, hb⟩; refine ⟨_, rfl, ?_⟩; have n0_ := Aside0.mk (below_step (by repeat (first | (with_reducible first | exact HB.out | apply below_alloc | apply pw_below_drewN | apply below_drew1) | exact HB.out)) hb); clear HB; have HB := n0_; clear n0_; (try clear hb); (try clear hb2); (try clear hk); (try clear hi)) | ((with_reducible refine gate_callee (f := 16) rfl ?_); refine goesL_ (some 53) rfl rfl Tryd.func16 (by kernel_rfl) rfl #[.string x5_4] rfl (by (try simp only [List.map_toArray, List.map_cons, List.map_nil]); first | done | rfl | (simp only [List.length_drop, List.length_take]; rfl)) ?_; (with_reducible refine (path_Name.calls x5_4 t275 _ A23.out).mono ?_); rintro e w30 ⟨rfl, hb⟩; refine ⟨_, rfl, ?_⟩; have n0_ := Aside0.mk (below_step (by repeat (first | (with_reducible first | exact HB.out | apply below_alloc | apply pw_below_drewN | apply below_drew1) | exact HB.out)) hb); clear HB; have HB := n0_; clear n0_; (try clear hb); (try clear hb2); (try clear hk); (try clear hi)) | (go_at_call 15; (with_reducible refine (kauditlaw04_awake.calls kj14  t276 _ A28.out).mono ?_); rintro e w31 ⟨rfl, hb⟩; have n0_ := Aside0.mk (below_step (by repeat (first | (with_reducible first | exact HB.out | apply below_alloc | apply pw_below_drewN | apply below_drew1) | exact HB.out)) hb); clear HB; have HB := n0_; clear n0_; (try clear hb); (try clear hb2); (try clear hk); (try clear hi)))
                        go_ret
                        exact ⟨by first | rfl | (simp [errW_none, errW_some] <;> rfl) | (simp [*, errW_none, errW_some] <;> rfl), by repeat (first | (with_reducible first | exact HB.out | apply below_alloc | apply pw_below_drewN | apply below_drew1) | exact HB.out)⟩
                      · rw [if_neg c27] at H
                        have c27b0 : (t273.toList == x5_4.toList) = false := beq_eq_false_iff_ne.mpr c27
                        have c27b1 : (t273.toList != x5_4.toList) = true := bne_iff_ne.mpr c27
                        obtain rfl := Option.some.inj H
                        go_wp2_with (first | ((with_reducible refine gate_callee (f := 13) rfl ?_); refine goesL_ (some 46) rfl rfl Tryd.func13 (by kernel_rfl) rfl #[.string x4_10, .string x5_4] rfl (by (try simp only [List.map_toArray, List.map_cons, List.map_nil]); first | done | rfl | (simp only [List.length_drop, List.length_take]; rfl)) ?_; (with_reducible refine (path_Join.calls x4_10 x5_4 t271 _ A21.out).mono ?_); rintro e w' ⟨rfl, ⟨nd, rfl⟩⟩; refine ⟨_, rfl, ?_⟩) | ((with_reducible refine gate_callee (f := 21) rfl ?_); refine goesL_ (some 47) rfl rfl Tryd.func21 (by kernel_rfl) rfl #[.string t271] rfl (by (try simp only [List.map_toArray, List.map_cons, List.map_nil]); first | done | rfl | (simp only [List.length_drop, List.length_take]; rfl)) ?_; (with_reducible refine (path_Parent.calls kj14 t271 t272 t273 true _ A22.out).mono ?_); rintro e w32 ⟨rfl, hb⟩; refine ⟨_, rfl, ?_⟩; have n0_ := Aside0.mk (below_step (by repeat (first | (with_reducible first | exact HB.out | apply below_alloc | apply pw_below_drewN | apply below_drew1) | exact HB.out)) hb); clear HB; have HB := n0_; clear n0_; (try clear hb); (try clear hb2); (try clear hk); (try clear hi)) | ((with_reducible refine gate_callee (f := 16) rfl ?_); refine goesL_ (some 53) rfl rfl Tryd.func16 (by kernel_rfl) rfl #[.string x5_4] rfl (by (try simp only [List.map_toArray, List.map_cons, List.map_nil]); first | done | rfl | (simp only [List.length_drop, List.length_take]; rfl)) ?_; (with_reducible refine (path_Name.calls x5_4 t275 _ A23.out).mono ?_); rintro e w33 ⟨rfl, hb⟩; refine ⟨_, rfl, ?_⟩; have n0_ := Aside0.mk (below_step (by repeat (first | (with_reducible first | exact HB.out | apply below_alloc | apply pw_below_drewN | apply below_drew1) | exact HB.out)) hb); clear HB; have HB := n0_; clear n0_; (try clear hb); (try clear hb2); (try clear hk); (try clear hi)))
                        go_ret
                        exact ⟨by first | rfl | (simp [errW_none, errW_some] <;> rfl) | (simp [*, errW_none, errW_some] <;> rfl), by repeat (first | (with_reducible first | exact HB.out | apply below_alloc | apply pw_below_drewN | apply below_drew1) | exact HB.out)⟩
                    · rw [if_neg c26] at H
                      have c26b0 : (t272.toList == x4_10.toList) = false := beq_eq_false_iff_ne.mpr c26
                      have c26b1 : (t272.toList != x4_10.toList) = true := bne_iff_ne.mpr c26
                      obtain rfl := Option.some.inj H
                      go_wp2_with (first | ((with_reducible refine gate_callee (f := 13) rfl ?_); refine goesL_ (some 46) rfl rfl Tryd.func13 (by kernel_rfl) rfl #[.string x4_10, .string x5_4] rfl (by (try simp only [List.map_toArray, List.map_cons, List.map_nil]); first | done | rfl | (simp only [List.length_drop, List.length_take]; rfl)) ?_; (with_reducible refine (path_Join.calls x4_10 x5_4 t271 _ A21.out).mono ?_); rintro e w' ⟨rfl, ⟨nd, rfl⟩⟩; refine ⟨_, rfl, ?_⟩) | ((with_reducible refine gate_callee (f := 21) rfl ?_); refine goesL_ (some 47) rfl rfl Tryd.func21 (by kernel_rfl) rfl #[.string t271] rfl (by (try simp only [List.map_toArray, List.map_cons, List.map_nil]); first | done | rfl | (simp only [List.length_drop, List.length_take]; rfl)) ?_; (with_reducible refine (path_Parent.calls kj14 t271 t272 t273 true _ A22.out).mono ?_); rintro e w34 ⟨rfl, hb⟩; refine ⟨_, rfl, ?_⟩; have n0_ := Aside0.mk (below_step (by repeat (first | (with_reducible first | exact HB.out | apply below_alloc | apply pw_below_drewN | apply below_drew1) | exact HB.out)) hb); clear HB; have HB := n0_; clear n0_; (try clear hb); (try clear hb2); (try clear hk); (try clear hi)) | ((with_reducible refine gate_callee (f := 16) rfl ?_); refine goesL_ (some 53) rfl rfl Tryd.func16 (by kernel_rfl) rfl #[.string x5_4] rfl (by (try simp only [List.map_toArray, List.map_cons, List.map_nil]); first | done | rfl | (simp only [List.length_drop, List.length_take]; rfl)) ?_; (with_reducible refine (path_Name.calls x5_4 t275 _ A23.out).mono ?_); rintro e w35 ⟨rfl, hb⟩; refine ⟨_, rfl, ?_⟩; have n0_ := Aside0.mk (below_step (by repeat (first | (with_reducible first | exact HB.out | apply below_alloc | apply pw_below_drewN | apply below_drew1) | exact HB.out)) hb); clear HB; have HB := n0_; clear n0_; (try clear hb); (try clear hb2); (try clear hk); (try clear hi)))
                      go_ret
                      exact ⟨by first | rfl | (simp [errW_none, errW_some] <;> rfl) | (simp [*, errW_none, errW_some] <;> rfl), by repeat (first | (with_reducible first | exact HB.out | apply below_alloc | apply pw_below_drewN | apply below_drew1) | exact HB.out)⟩
                  · replace c25 := Bool.eq_false_iff.mpr c25
                    subst c25
                    have H1 : ((kauditlaw04_awake.f kj14).bind fun t277 => (some t277)) = some r := by rw [if_neg (show ¬ (false = true) by decide)] at H; exact H
                    clear H
                    have H := H1
                    clear H1
                    replace H := Option.bind_eq_some_iff.mp H
                    obtain ⟨t277, A360, H⟩ := H
                    replace H : (some t277) = some r := H
                    have A36 := Aside0.mk A360
                    clear A360
                    obtain rfl := Option.some.inj H
                    go_wp2_with (first | ((with_reducible refine gate_callee (f := 13) rfl ?_); refine goesL_ (some 46) rfl rfl Tryd.func13 (by kernel_rfl) rfl #[.string x4_10, .string x5_4] rfl (by (try simp only [List.map_toArray, List.map_cons, List.map_nil]); first | done | rfl | (simp only [List.length_drop, List.length_take]; rfl)) ?_; (with_reducible refine (path_Join.calls x4_10 x5_4 t271 _ A21.out).mono ?_); rintro e w' ⟨rfl, ⟨nd, rfl⟩⟩; refine ⟨_, rfl, ?_⟩) | ((with_reducible refine gate_callee (f := 21) rfl ?_); refine goesL_ (some 47) rfl rfl Tryd.func21 (by kernel_rfl) rfl #[.string t271] rfl (by (try simp only [List.map_toArray, List.map_cons, List.map_nil]); first | done | rfl | (simp only [List.length_drop, List.length_take]; rfl)) ?_; (with_reducible refine (path_Parent.calls kj14 t271 t272 t273 false _ A22.out).mono ?_); rintro e w37 ⟨rfl, hb⟩; refine ⟨_, rfl, ?_⟩; have n0_ := Aside0.mk (below_step (by repeat (first | (with_reducible first | exact HB.out | apply below_alloc | apply pw_below_drewN | apply below_drew1) | exact HB.out)) hb); clear HB; have HB := n0_; clear n0_; (try clear hb); (try clear hb2); (try clear hk); (try clear hi)) | ((with_reducible refine gate_callee (f := 16) rfl ?_); refine goesL_ (some 53) rfl rfl Tryd.func16 (by kernel_rfl) rfl #[.string x5_4] rfl (by (try simp only [List.map_toArray, List.map_cons, List.map_nil]); first | done | rfl | (simp only [List.length_drop, List.length_take]; rfl)) ?_; (with_reducible refine (path_Name.calls x5_4 t275 _ A23.out).mono ?_); rintro e w38 ⟨rfl, hb⟩; refine ⟨_, rfl, ?_⟩; have n0_ := Aside0.mk (below_step (by repeat (first | (with_reducible first | exact HB.out | apply below_alloc | apply pw_below_drewN | apply below_drew1) | exact HB.out)) hb); clear HB; have HB := n0_; clear n0_; (try clear hb); (try clear hb2); (try clear hk); (try clear hi)) | (go_at_call 15; (with_reducible refine (kauditlaw04_awake.calls kj14  t277 _ A36.out).mono ?_); rintro e w39 ⟨rfl, hb⟩; have n0_ := Aside0.mk (below_step (by repeat (first | (with_reducible first | exact HB.out | apply below_alloc | apply pw_below_drewN | apply below_drew1) | exact HB.out)) hb); clear HB; have HB := n0_; clear n0_; (try clear hb); (try clear hb2); (try clear hk); (try clear hi)))
                    go_ret
                    exact ⟨by first | rfl | (simp [errW_none, errW_some] <;> rfl) | (simp [*, errW_none, errW_some] <;> rfl), by repeat (first | (with_reducible first | exact HB.out | apply below_alloc | apply pw_below_drewN | apply below_drew1) | exact HB.out)⟩
                · rw [if_neg c24] at H
                  have c24b0 : (t274 == t275) = false := by simpa using c24
                  (try (have c24b1 : decide (t274 = t275) = false := by simpa using c24))
                  (try (have c24b2 : (t274 == t275) = false := by simpa using c24))
                  (try (have c24b3 : ¬ (t274 = t275) := by simpa using c24))
                  clear c24
                  obtain rfl := Option.some.inj H
                  go_wp2_with (first | ((with_reducible refine gate_callee (f := 13) rfl ?_); refine goesL_ (some 46) rfl rfl Tryd.func13 (by kernel_rfl) rfl #[.string x4_10, .string x5_4] rfl (by (try simp only [List.map_toArray, List.map_cons, List.map_nil]); first | done | rfl | (simp only [List.length_drop, List.length_take]; rfl)) ?_; (with_reducible refine (path_Join.calls x4_10 x5_4 t271 _ A21.out).mono ?_); rintro e w' ⟨rfl, ⟨nd, rfl⟩⟩; refine ⟨_, rfl, ?_⟩) | ((with_reducible refine gate_callee (f := 21) rfl ?_); refine goesL_ (some 47) rfl rfl Tryd.func21 (by kernel_rfl) rfl #[.string t271] rfl (by (try simp only [List.map_toArray, List.map_cons, List.map_nil]); first | done | rfl | (simp only [List.length_drop, List.length_take]; rfl)) ?_; (with_reducible refine (path_Parent.calls kj14 t271 t272 t273 t274 _ A22.out).mono ?_); rintro e w40 ⟨rfl, hb⟩; refine ⟨_, rfl, ?_⟩; have n0_ := Aside0.mk (below_step (by repeat (first | (with_reducible first | exact HB.out | apply below_alloc | apply pw_below_drewN | apply below_drew1) | exact HB.out)) hb); clear HB; have HB := n0_; clear n0_; (try clear hb); (try clear hb2); (try clear hk); (try clear hi)) | ((with_reducible refine gate_callee (f := 16) rfl ?_); refine goesL_ (some 53) rfl rfl Tryd.func16 (by kernel_rfl) rfl #[.string x5_4] rfl (by (try simp only [List.map_toArray, List.map_cons, List.map_nil]); first | done | rfl | (simp only [List.length_drop, List.length_take]; rfl)) ?_; (with_reducible refine (path_Name.calls x5_4 t275 _ A23.out).mono ?_); rintro e w41 ⟨rfl, hb⟩; refine ⟨_, rfl, ?_⟩; have n0_ := Aside0.mk (below_step (by repeat (first | (with_reducible first | exact HB.out | apply below_alloc | apply pw_below_drewN | apply below_drew1) | exact HB.out)) hb); clear HB; have HB := n0_; clear n0_; (try clear hb); (try clear hb2); (try clear hk); (try clear hi)))
                  go_ret
                  exact ⟨by first | rfl | (simp [errW_none, errW_some] <;> rfl) | (simp [*, errW_none, errW_some] <;> rfl), by repeat (first | (with_reducible first | exact HB.out | apply below_alloc | apply pw_below_drewN | apply below_drew1) | exact HB.out)⟩

/-- THE ONE PURE STATEMENT of kauditlaw04_PathBack: yours. -/
def kauditlaw04_PathBack.Pure : Prop := ∀ (l0 : List Int), l0.length ≤ maxLen → l0.length * 8 ≤ 140737488351232 → (∀ x ∈ l0, (Lit.int .i64 x).wf = true) → ∃ k, kauditlaw04_PathBack.f k l0 = some true
theorem kauditlaw04_PathBack.walk (P : kauditlaw04_PathBack.Pure) (a0 : Option Addr) (len0 cap0 : Nat) (z0 : List Int) (w : World) (w0 : (a0 = none ∧ len0 = 0 ∧ cap0 = 0 ∧ z0 = []) ∨ ∃ x, a0 = some x ∧ len0 ≤ cap0 ∧ cap0 ≤ maxLen ∧ z0.length = cap0 ∧ (∀ i, i < z0.length → w.cell? (x.add i) = some (.int .i64 (z0.getD i 0))) ∧ ∀ n ∈ z0, (Lit.int .i64 n).wf = true) (y0 : len0 * 8 ≤ 140737488351232) :
    Calls Tryd.prog 7 #[.slice a0 len0 cap0] w fun e w' => e = .returned (.bool true) ∧ Below w.heap.size w w' := by
  obtain ⟨l0, rfl, hr0, hm0, hw0, hc0⟩ := ReadsInt.ofRowC w0
  obtain ⟨k, h⟩ := P l0 hm0 y0 hw0
  refine (kauditlaw04_PathBack.calls k _ _ l0 true w (Kd.C_of_reads (d := (0 : Int)) (h1 := fun _ => rfl) hr0) hc0 h).mono ?_
  rintro e w' ⟨rfl, hd⟩
  exact ⟨rfl, hd⟩

end Go.Proofs.YtnjabpgbpgocnaaDoor.PAll

-- PureA
/- Plain facts on lists of bytes: pieces between slashes, names, clean paths. No program in sight. -/
namespace Go.Proofs.YtnjabpgbpgocnaaDoor.PAll

/-- No slash among the bytes. -/
def Free (p : List UInt8) : Prop := ∀ b ∈ p, b ≠ 47

/-- A slash ahead of each piece. -/
def joinP (ps : List (List UInt8)) : List UInt8 := ps.flatMap fun p => 47 :: p

theorem joinP_nil : joinP [] = [] := rfl
theorem joinP_cons (p : List UInt8) (ps : List (List UInt8)) : joinP (p :: ps) = 47 :: (p ++ joinP ps) := by simp [joinP]
theorem joinP_append (ps qs : List (List UInt8)) : joinP (ps ++ qs) = joinP ps ++ joinP qs := by simp [joinP]
theorem joinP_single (p : List UInt8) : joinP [p] = 47 :: p := by simp [joinP]

theorem split_slash (l : List UInt8) : splitL [] (47 :: l) = [] :: splitL [] l := by simp [splitL]

theorem split_join : ∀ (ps : List (List UInt8)) (t : List UInt8), (∀ p ∈ ps, Free p) → splitL [] (joinP ps ++ 47 :: t) = [] :: (ps ++ splitL [] t)
  | [], t, _ => by rw [joinP_nil, List.nil_append, split_slash, List.nil_append]
  | p :: ps, t, h => by
    have ih := split_join ps t (fun q hq => h q (by simp [hq]))
    obtain ⟨r, hr⟩ : ∃ r, joinP ps ++ 47 :: t = 47 :: r := by
      cases ps with
      | nil => exact ⟨t, rfl⟩
      | cons q qs => exact ⟨_, by rw [joinP_cons]; rfl⟩
    rw [joinP_cons, List.cons_append, split_slash, List.append_assoc, hr, splitL_cut p r [] (h p (by simp)), List.nil_append]
    rw [hr, split_slash] at ih
    rw [(List.cons.inj ih).2]
    rfl

theorem split_join0 : ∀ (ps : List (List UInt8)), (∀ p ∈ ps, Free p) → splitL [] (joinP ps) = [] :: ps
  | [], _ => rfl
  | p :: ps, h => by
    have ih := split_join0 ps (fun q hq => h q (by simp [hq]))
    rw [joinP_cons, split_slash]
    cases ps with
    | nil => rw [joinP_nil, List.append_nil, splitL_free p [] (h p (by simp)), List.nil_append]
    | cons q qs =>
      rw [joinP_cons, split_slash] at ih
      rw [joinP_cons, splitL_cut p _ [] (h p (by simp)), List.nil_append, (List.cons.inj ih).2]

theorem join_split : ∀ (l cur : List UInt8), joinP (splitL cur l) = 47 :: (cur ++ l)
  | [], cur => by simp [splitL, joinP]
  | b :: l, cur => by
    by_cases hb : b = 47
    · rw [splitL, if_pos hb, joinP_cons, join_split l [], hb]
      simp
    · rw [splitL, if_neg hb, join_split l (cur ++ [b])]
      simp

theorem split_ne : ∀ (l cur : List UInt8), splitL cur l ≠ []
  | [], cur => by simp [splitL]
  | b :: l, cur => by
    by_cases hb : b = 47
    · simp [splitL, hb]
    · rw [splitL, if_neg hb]; exact split_ne l _

theorem split_free : ∀ (l cur : List UInt8), Free cur → ∀ p ∈ splitL cur l, Free p
  | [], cur, hc, p, hp => by
    simp only [splitL, List.mem_singleton] at hp
    rw [hp]; exact hc
  | b :: l, cur, hc, p, hp => by
    by_cases hb : b = 47
    · rw [splitL, if_pos hb] at hp
      rcases List.mem_cons.1 hp with rfl | hp
      · exact hc
      · exact split_free l [] (fun _ h => by cases h) p hp
    · rw [splitL, if_neg hb] at hp
      refine split_free l (cur ++ [b]) (fun x hx => ?_) p hp
      rcases List.mem_append.1 hx with hx | hx
      · exact hc x hx
      · rw [List.mem_singleton.1 hx]; exact hb

theorem free_nil : Free [] := fun _ h => by cases h

theorem joinP_inj {ps qs : List (List UInt8)} (hp : ∀ p ∈ ps, Free p) (hq : ∀ p ∈ qs, Free p) (h : joinP ps = joinP qs) : ps = qs := by
  have h1 := split_join0 ps hp
  rw [h, split_join0 qs hq] at h1
  exact (List.cons.inj h1).2.symm

/-- The pieces that are not empty. -/
theorem pieces_filter (l : List UInt8) : piecesL [] l = (splitL [] l).filter fun p => decide (p ≠ []) := piecesL_eq l []

theorem pieces_free (l : List UInt8) : ∀ p ∈ piecesL [] l, Free p := fun p hp => by
  rw [pieces_filter] at hp
  exact split_free l [] free_nil p (List.mem_filter.1 hp).1
theorem pieces_ne (l : List UInt8) : ∀ p ∈ piecesL [] l, p ≠ [] := fun p hp => by
  rw [pieces_filter] at hp
  simpa using (List.mem_filter.1 hp).2

theorem pieces_join {ps : List (List UInt8)} (hf : ∀ p ∈ ps, Free p) (hn : ∀ p ∈ ps, p ≠ []) : piecesL [] (joinP ps) = ps := by
  rw [pieces_filter, split_join0 ps hf, List.filter_cons_of_neg (by simp)]
  exact List.filter_eq_self.2 fun p hp => by simpa using hn p hp

theorem pieces_slash : piecesL [] [47] = [] := rfl

/-- A name: 1 to 12 bytes, not '.' nor '..', no slash and no zero byte. -/
def nameL (p : List UInt8) : Bool := decide (p ≠ [] ∧ p.length ≤ 12 ∧ p ≠ [46] ∧ p ≠ [46, 46]) && !(p.any badByte)

theorem nameL_ne {p : List UInt8} (h : nameL p = true) : p ≠ [] := by
  rw [nameL, Bool.and_eq_true, decide_eq_true_eq] at h
  exact h.1.1
theorem nameL_len {p : List UInt8} (h : nameL p = true) : p.length ≤ 12 := by
  rw [nameL, Bool.and_eq_true, decide_eq_true_eq] at h
  exact h.1.2.1
theorem nameL_free {p : List UInt8} (h : nameL p = true) : Free p := by
  rw [nameL, Bool.and_eq_true, Bool.not_eq_true'] at h
  intro b hb e
  have := List.any_eq_false.1 h.2 b hb
  rw [e] at this
  exact this (by decide)
theorem nameL_nil : nameL [] = false := by decide

/-- A clean path: a slash, or names with a slash ahead of each. -/
def cleanL (l : List UInt8) : Bool := l == [47] || (l.head? == some 47 && (splitL [] l.tail).all nameL)

theorem clean_join {ps : List (List UInt8)} (h0 : ps ≠ []) (h : ∀ p ∈ ps, nameL p = true) : cleanL (joinP ps) = true := by
  have hs := split_join0 ps (fun p hp => nameL_free (h p hp))
  cases ps with
  | nil => exact absurd rfl h0
  | cons p ps =>
    rw [joinP_cons] at hs ⊢
    rw [split_slash] at hs
    rw [cleanL, List.head?_cons, List.tail_cons, (List.cons.inj hs).2]
    simp only [beq_self_eq_true, Bool.true_and, Bool.or_eq_true]
    exact .inr (List.all_eq_true.2 h)

theorem clean_iff (l : List UInt8) : cleanL l = true ↔ l = [47] ∨ ∃ ps, ps ≠ [] ∧ (∀ p ∈ ps, nameL p = true) ∧ l = joinP ps := by
  constructor
  · intro h
    rw [cleanL, Bool.or_eq_true, Bool.and_eq_true, beq_iff_eq, beq_iff_eq] at h
    rcases h with h | ⟨h1, h2⟩
    · exact .inl h
    · refine .inr ⟨splitL [] l.tail, split_ne _ _, List.all_eq_true.1 h2, ?_⟩
      cases l with
      | nil => cases h1
      | cons b l =>
        rw [List.head?_cons] at h1
        rw [Option.some.inj h1, List.tail_cons, join_split]
        rfl
  · rintro (rfl | ⟨ps, h0, h, rfl⟩)
    · rfl
    · exact clean_join h0 h

/-- What the reference asks: the pieces are names, and the text is made of them. -/
theorem clean_pieces (l : List UInt8) : cleanL l = ((piecesL [] l).all nameL && (l == [47] || (decide (piecesL [] l ≠ []) && l == joinP (piecesL [] l)))) := by
  rw [Bool.eq_iff_iff]
  constructor
  · intro h
    rcases (clean_iff l).1 h with rfl | ⟨ps, h0, hn, rfl⟩
    · rfl
    · have hp := pieces_join (fun p hp => nameL_free (hn p hp)) (fun p hp => nameL_ne (hn p hp))
      rw [hp]
      simp only [Bool.and_eq_true, Bool.or_eq_true, beq_self_eq_true, decide_eq_true_eq, and_true]
      exact ⟨List.all_eq_true.2 hn, .inr h0⟩
  · intro h
    rw [Bool.and_eq_true, Bool.or_eq_true, Bool.and_eq_true, decide_eq_true_eq, beq_iff_eq, beq_iff_eq] at h
    obtain ⟨h1, h2 | ⟨h2, h3⟩⟩ := h
    · rw [h2]; rfl
    · rw [h3]
      exact clean_join h2 (List.all_eq_true.1 h1)

/-- The names of a clean path. -/
theorem clean_names {l : List UInt8} (h : cleanL l = true) : ∀ p ∈ piecesL [] l, nameL p = true := by
  rw [clean_pieces, Bool.and_eq_true] at h
  exact List.all_eq_true.1 h.1

theorem clean_is {l : List UInt8} (h : cleanL l = true) (hne : l ≠ [47]) : piecesL [] l ≠ [] ∧ l = joinP (piecesL [] l) := by
  rw [clean_pieces, Bool.and_eq_true, Bool.or_eq_true, Bool.and_eq_true, decide_eq_true_eq, beq_iff_eq, beq_iff_eq] at h
  rcases h.2 with h | h
  · exact absurd h hne
  · exact h

theorem joinP_last {ps : List (List UInt8)} {n : List UInt8} (hn : Free n) (h0 : n ≠ []) : (joinP (ps ++ [n])).getLast? ≠ some 47 := by
  rw [joinP_append, joinP_single]
  intro h
  have : (joinP ps ++ 47 :: n).getLast? = n.getLast? := by
    rcases List.eq_nil_or_concat n with rfl | ⟨m, b, rfl⟩
    · exact absurd rfl h0
    · rw [List.concat_eq_append, ← List.cons_append, ← List.append_assoc, List.getLast?_concat, List.getLast?_concat]
  rw [this] at h
  exact hn 47 (List.mem_of_getLast? h) rfl

end Go.Proofs.YtnjabpgbpgocnaaDoor.PAll

-- PAllx31
namespace Go.Proofs.YtnjabpgbpgocnaaDoor.PAll
open Go.RowKit Go.Proofs.YtnjabpgbpgocnaaDoorW.PrintWords Go.Proofs.YtnjabpgbpgocnaaDoorW.PrintLast Go.Proofs.YtnjabpgbpgocnaaDoorW.PrintMore
attribute [local go_sem] max2_int min2_int max_two min_two max_three min_three max_four min_four   -- for this text's walks alone
set_option linter.unusedVariables false
set_option linter.unusedSimpArgs false

/-! ### strings_HasPrefix: function 28 -/
def strings_HasPrefix.f (a0 : ByteArray) (a1 : ByteArray) : Option (Bool) := (stringslite_HasPrefix.f a0 a1).bind fun t139 => (some t139)
set_option maxHeartbeats 8000000 in
set_option maxRecDepth 100000 in
theorem strings_HasPrefix.calls (a0 : ByteArray) (a1 : ByteArray) (r : Bool) (w : World) (h : strings_HasPrefix.f a0 a1 = some r) :
    Calls Tryd.prog 28 #[.string a0, .string a1] w fun e w' => e = .returned (.bool r) ∧ Drawn0 w w' := by
  have H : ((stringslite_HasPrefix.f a0 a1).bind fun t139 => (some t139)) = some r := h
  clear h
  replace H := Option.bind_eq_some_iff.mp H
  obtain ⟨t139, A30, H⟩ := H
  replace H : (some t139) = some r := H
  have A3 := Aside0.mk A30
  clear A30
  obtain rfl := Option.some.inj H
  go_enter Tryd.func28, Tryd.ntmps28
  go_wp2_with (first | ((with_reducible refine gate_callee (f := 40) rfl ?_); refine goesL_ (some 7) rfl rfl Tryd.func40 (by kernel_rfl) rfl #[.string a0, .string a1] rfl (by (try simp only [List.map_toArray, List.map_cons, List.map_nil]); first | done | rfl | (simp only [List.length_drop, List.length_take]; rfl)) ?_; (with_reducible refine (stringslite_HasPrefix.calls a0 a1 t139 _ A3.out).mono ?_); rintro e w' ⟨rfl, ⟨nd, rfl⟩⟩; refine ⟨_, rfl, ?_⟩))
  go_ret
  exact ⟨by first | rfl | (simp; done) | (simp [*]; done), by repeat (first | exact Drawn0.refl _ | apply Drawn0.step)⟩

end Go.Proofs.YtnjabpgbpgocnaaDoor.PAll

-- PAllx32
namespace Go.Proofs.YtnjabpgbpgocnaaDoor.PAll
open Go.RowKit Go.Proofs.YtnjabpgbpgocnaaDoorW.PrintWords Go.Proofs.YtnjabpgbpgocnaaDoorW.PrintLast Go.Proofs.YtnjabpgbpgocnaaDoorW.PrintMore
attribute [local go_sem] max2_int min2_int max_two min_two max_three min_three max_four min_four   -- for this text's walks alone
set_option linter.unusedVariables false
set_option linter.unusedSimpArgs false

/-! ### path_Under: function 14 -/
def path_Under.f (k : Nat) (a0 : ByteArray) (a1 : ByteArray) : Option (Bool) := (path_Clean.f k a0).bind fun t140 => (if t140 = true then ((path_Clean.f k a1).bind fun t141 => (if t141 = true then (if a0.toList = a1.toList then (some true) else ((path_Join.f a0 (⟨#[]⟩ : ByteArray)).bind fun t142 => ((strings_HasPrefix.f a1 t142).bind fun t143 => (some t143)))) else (some false))) else (some false))
theorem path_Under.mono : ∀ a0 a1 k, LeO (path_Under.f k a0 a1) (path_Under.f (k + 1) a0 a1) := by
  intro a0 a1 k
  unfold path_Under.f
  repeat' first
      | (with_reducible exact path_Clean.mono _ _)
      | (with_reducible exact LeO.refl _)
      | (with_reducible exact LeO.none _)
      | (with_reducible refine LeO.ite ?_ ?_)
      | (with_reducible refine LeO.bind ?_ (fun _ => ?_))
      | exact path_Clean.mono _ _
      | exact LeO.none _
      | refine LeO.ite ?_ ?_
      | refine LeO.bind ?_ (fun _ => ?_)
set_option maxHeartbeats 8000000 in
set_option maxRecDepth 100000 in
theorem path_Under.calls (k : Nat) (a0 : ByteArray) (a1 : ByteArray) (r : Bool) (w : World) (h : path_Under.f k a0 a1 = some r) :
    Calls Tryd.prog 14 #[.string a0, .string a1] w fun e w' => e = .returned (.bool r) ∧ Below w.heap.size w w' := by
  have HB := Aside0.mk (Below.refl w.heap.size w)
  have H : ((path_Clean.f k a0).bind fun t140 => (if t140 = true then ((path_Clean.f k a1).bind fun t141 => (if t141 = true then (if a0.toList = a1.toList then (some true) else ((path_Join.f a0 (⟨#[]⟩ : ByteArray)).bind fun t142 => ((strings_HasPrefix.f a1 t142).bind fun t143 => (some t143)))) else (some false))) else (some false))) = some r := h
  clear h
  replace H := Option.bind_eq_some_iff.mp H
  obtain ⟨t140, A30, H⟩ := H
  replace H : (if t140 = true then ((path_Clean.f k a1).bind fun t141 => (if t141 = true then (if a0.toList = a1.toList then (some true) else ((path_Join.f a0 (⟨#[]⟩ : ByteArray)).bind fun t142 => ((strings_HasPrefix.f a1 t142).bind fun t143 => (some t143)))) else (some false))) else (some false)) = some r := H
  have A3 := Aside0.mk A30
  clear A30
  by_cases c4 : t140 = true
  · subst c4
    have H1 : ((path_Clean.f k a1).bind fun t141 => (if t141 = true then (if a0.toList = a1.toList then (some true) else ((path_Join.f a0 (⟨#[]⟩ : ByteArray)).bind fun t142 => ((strings_HasPrefix.f a1 t142).bind fun t143 => (some t143)))) else (some false))) = some r := by rw [if_pos rfl] at H; exact H
    clear H
    have H := H1
    clear H1
    replace H := Option.bind_eq_some_iff.mp H
    obtain ⟨t141, A50, H⟩ := H
    replace H : (if t141 = true then (if a0.toList = a1.toList then (some true) else ((path_Join.f a0 (⟨#[]⟩ : ByteArray)).bind fun t142 => ((strings_HasPrefix.f a1 t142).bind fun t143 => (some t143)))) else (some false)) = some r := H
    have A5 := Aside0.mk A50
    clear A50
    by_cases c6 : t141 = true
    · subst c6
      have H1 : (if a0.toList = a1.toList then (some true) else ((path_Join.f a0 (⟨#[]⟩ : ByteArray)).bind fun t142 => ((strings_HasPrefix.f a1 t142).bind fun t143 => (some t143)))) = some r := by rw [if_pos rfl] at H; exact H
      clear H
      have H := H1
      clear H1
      by_cases c7 : a0.toList = a1.toList
      · rw [if_pos c7] at H
        have c7b0 : (a0.toList == a1.toList) = true := beq_iff_eq.mpr c7
        have c7b1 : (a0.toList != a1.toList) = false := bne_eq_false_iff_eq.mpr c7
        clear c7
        obtain rfl := Option.some.inj H
        go_enter Tryd.func14, Tryd.ntmps14
        go_wp2_with (first | ((with_reducible refine gate_callee (f := 17) rfl ?_); refine goesL_ (some 6) rfl rfl Tryd.func17 (by kernel_rfl) rfl #[.string a0] rfl (by (try simp only [List.map_toArray, List.map_cons, List.map_nil]); first | done | rfl | (simp only [List.length_drop, List.length_take]; rfl)) ?_; (with_reducible refine (path_Clean.calls k a0 true _ A3.out).mono ?_); rintro e w8 ⟨rfl, hb⟩; refine ⟨_, rfl, ?_⟩; have n0_ := Aside0.mk (below_step (by repeat (first | (with_reducible first | exact HB.out | apply below_alloc | apply pw_below_drewN | apply below_drew1) | exact HB.out)) hb); clear HB; have HB := n0_; clear n0_; (try clear hb); (try clear hb2); (try clear hk); (try clear hi)) | (go_at_call 17; (with_reducible refine (path_Clean.calls k a1 true _ A5.out).mono ?_); rintro e w9 ⟨rfl, hb⟩; have n0_ := Aside0.mk (below_step (by repeat (first | (with_reducible first | exact HB.out | apply below_alloc | apply pw_below_drewN | apply below_drew1) | exact HB.out)) hb); clear HB; have HB := n0_; clear n0_; (try clear hb); (try clear hb2); (try clear hk); (try clear hi)))
        go_ret
        exact ⟨by first | rfl | (simp [errW_none, errW_some] <;> rfl) | (simp [*, errW_none, errW_some] <;> rfl), by repeat (first | (with_reducible first | exact HB.out | apply below_alloc | apply pw_below_drewN | apply below_drew1) | exact HB.out)⟩
      · rw [if_neg c7] at H
        have c7b0 : (a0.toList == a1.toList) = false := beq_eq_false_iff_ne.mpr c7
        have c7b1 : (a0.toList != a1.toList) = true := bne_iff_ne.mpr c7
        replace H := Option.bind_eq_some_iff.mp H
        obtain ⟨t142, A100, H⟩ := H
        replace H : ((strings_HasPrefix.f a1 t142).bind fun t143 => (some t143)) = some r := H
        have A10 := Aside0.mk A100
        clear A100
        replace H := Option.bind_eq_some_iff.mp H
        obtain ⟨t143, A110, H⟩ := H
        replace H : (some t143) = some r := H
        have A11 := Aside0.mk A110
        clear A110
        obtain rfl := Option.some.inj H
        go_enter Tryd.func14, Tryd.ntmps14
        go_wp2_with (first | ((with_reducible refine gate_callee (f := 17) rfl ?_); refine goesL_ (some 6) rfl rfl Tryd.func17 (by kernel_rfl) rfl #[.string a0] rfl (by (try simp only [List.map_toArray, List.map_cons, List.map_nil]); first | done | rfl | (simp only [List.length_drop, List.length_take]; rfl)) ?_; (with_reducible refine (path_Clean.calls k a0 true _ A3.out).mono ?_); rintro e w12 ⟨rfl, hb⟩; refine ⟨_, rfl, ?_⟩; have n0_ := Aside0.mk (below_step (by repeat (first | (with_reducible first | exact HB.out | apply below_alloc | apply pw_below_drewN | apply below_drew1) | exact HB.out)) hb); clear HB; have HB := n0_; clear n0_; (try clear hb); (try clear hb2); (try clear hk); (try clear hi)) | (go_at_call 17; (with_reducible refine (path_Clean.calls k a1 true _ A5.out).mono ?_); rintro e w13 ⟨rfl, hb⟩; have n0_ := Aside0.mk (below_step (by repeat (first | (with_reducible first | exact HB.out | apply below_alloc | apply pw_below_drewN | apply below_drew1) | exact HB.out)) hb); clear HB; have HB := n0_; clear n0_; (try clear hb); (try clear hb2); (try clear hk); (try clear hi)) | (go_at_call 13; (with_reducible refine (path_Join.calls a0 (⟨#[]⟩ : ByteArray) t142 _ A10.out).mono ?_); rintro e w' ⟨rfl, ⟨nd, rfl⟩⟩) | (go_at_call 28; (with_reducible refine (strings_HasPrefix.calls a1 t142 t143 _ A11.out).mono ?_); rintro e w' ⟨rfl, ⟨nd, rfl⟩⟩))
        go_ret
        exact ⟨by first | rfl | (simp [errW_none, errW_some] <;> rfl) | (simp [*, errW_none, errW_some] <;> rfl), by repeat (first | (with_reducible first | exact HB.out | apply below_alloc | apply pw_below_drewN | apply below_drew1) | exact HB.out)⟩
    · replace c6 := Bool.eq_false_iff.mpr c6
      subst c6
      have H1 : (some false) = some r := by rw [if_neg (show ¬ (false = true) by decide)] at H; exact H
      clear H
      have H := H1
      clear H1
      obtain rfl := Option.some.inj H
      go_enter Tryd.func14, Tryd.ntmps14
      go_wp2_with (first | ((with_reducible refine gate_callee (f := 17) rfl ?_); refine goesL_ (some 6) rfl rfl Tryd.func17 (by kernel_rfl) rfl #[.string a0] rfl (by (try simp only [List.map_toArray, List.map_cons, List.map_nil]); first | done | rfl | (simp only [List.length_drop, List.length_take]; rfl)) ?_; (with_reducible refine (path_Clean.calls k a0 true _ A3.out).mono ?_); rintro e w14 ⟨rfl, hb⟩; refine ⟨_, rfl, ?_⟩; have n0_ := Aside0.mk (below_step (by repeat (first | (with_reducible first | exact HB.out | apply below_alloc | apply pw_below_drewN | apply below_drew1) | exact HB.out)) hb); clear HB; have HB := n0_; clear n0_; (try clear hb); (try clear hb2); (try clear hk); (try clear hi)) | (go_at_call 17; (with_reducible refine (path_Clean.calls k a1 false _ A5.out).mono ?_); rintro e w15 ⟨rfl, hb⟩; have n0_ := Aside0.mk (below_step (by repeat (first | (with_reducible first | exact HB.out | apply below_alloc | apply pw_below_drewN | apply below_drew1) | exact HB.out)) hb); clear HB; have HB := n0_; clear n0_; (try clear hb); (try clear hb2); (try clear hk); (try clear hi)))
      go_ret
      exact ⟨by first | rfl | (simp [errW_none, errW_some] <;> rfl) | (simp [*, errW_none, errW_some] <;> rfl), by repeat (first | (with_reducible first | exact HB.out | apply below_alloc | apply pw_below_drewN | apply below_drew1) | exact HB.out)⟩
  · replace c4 := Bool.eq_false_iff.mpr c4
    subst c4
    have H1 : (some false) = some r := by rw [if_neg (show ¬ (false = true) by decide)] at H; exact H
    clear H
    have H := H1
    clear H1
    obtain rfl := Option.some.inj H
    go_enter Tryd.func14, Tryd.ntmps14
    go_wp2_with (first | ((with_reducible refine gate_callee (f := 17) rfl ?_); refine goesL_ (some 6) rfl rfl Tryd.func17 (by kernel_rfl) rfl #[.string a0] rfl (by (try simp only [List.map_toArray, List.map_cons, List.map_nil]); first | done | rfl | (simp only [List.length_drop, List.length_take]; rfl)) ?_; (with_reducible refine (path_Clean.calls k a0 false _ A3.out).mono ?_); rintro e w16 ⟨rfl, hb⟩; refine ⟨_, rfl, ?_⟩; have n0_ := Aside0.mk (below_step (by repeat (first | (with_reducible first | exact HB.out | apply below_alloc | apply pw_below_drewN | apply below_drew1) | exact HB.out)) hb); clear HB; have HB := n0_; clear n0_; (try clear hb); (try clear hb2); (try clear hk); (try clear hi)))
    go_ret
    exact ⟨by first | rfl | (simp [errW_none, errW_some] <;> rfl) | (simp [*, errW_none, errW_some] <;> rfl), by repeat (first | (with_reducible first | exact HB.out | apply below_alloc | apply pw_below_drewN | apply below_drew1) | exact HB.out)⟩

end Go.Proofs.YtnjabpgbpgocnaaDoor.PAll
