/- For PathBuilt: contracts of the functions that it reaches and plain facts, joined out of 4 texts by a program (merge_claim.py): PureD, PureF, PureG, PurePathBuilt. Each text's own conditions stand at its head below. -/
import Derived.Test.YtnjabpgbpgocnaaDoorZPathBuilt3

-- PureD
/- The worked example of the statements, and the makers of inputs (N, Pick, Word, Clean), in plain words. Condition: the maker's place stays below 10^9. -/
namespace Go.Proofs.YtnjabpgbpgocnaaDoor.PAll
open Go Go.RowKit Go.Proofs.YtnjabpgbpgocnaaDoorW.PrintWords Go.Proofs.YtnjabpgbpgocnaaDoorW.PrintLast Go.Proofs.YtnjabpgbpgocnaaDoorW.PrintMore
set_option linter.unusedVariables false
set_option linter.unusedSimpArgs false

theorem awake0 : kauditlaw04_awake.f 40 = some true := by kernel_rfl
theorem awake_eq (k : Nat) (hk : 40 ≤ k) : kauditlaw04_awake.f k = some true := by
  obtain ⟨d, rfl⟩ : ∃ d, k = 40 + d := ⟨k - 40, by omega⟩
  induction d with
  | zero => exact awake0
  | succ d ih => exact kauditlaw04_awake.mono (40 + d) _ (ih (by omega))

theorem N_eq (s : List Int) (i n : Int) (hi : 0 ≤ i) (hi2 : i ≤ 1000000000) (hn : 1 ≤ n) (hn2 : n ≤ 1000) : ∃ v, kauditmake_Src_N.f s i n = some (v, i + 1) ∧ 0 ≤ v ∧ v < n := by
  have e1 : wrap64 (i + 1) = i + 1 := by unfold wrap64; omega
  have e2 : wrap64 (i + 1 - 1) = i := by unfold wrap64; omega
  have key : ∀ x : Int, ∃ v, (if Int.tmod x n < 0 then some (wrap64 (Int.tmod x n + n), i + 1) else some (Int.tmod x n, i + 1)) = some (v, i + 1) ∧ 0 ≤ v ∧ v < n := fun x => by
    have h1 := Int.tmod_lt_of_pos x (show 0 < n by omega)
    have h2 : -n < Int.tmod x n := by
      have := Int.tmod_lt_of_pos (-x) (show 0 < n by omega)
      rw [Int.neg_tmod] at this
      omega
    by_cases h : Int.tmod x n < 0
    · exact ⟨Int.tmod x n + n, by rw [if_pos h, show wrap64 (Int.tmod x n + n) = Int.tmod x n + n by unfold wrap64; omega], by omega, by omega⟩
    · exact ⟨Int.tmod x n, by rw [if_neg h], by omega, by omega⟩
  unfold kauditmake_Src_N.f
  rw [if_neg (by omega), e1, e2]
  by_cases h : i + 1 ≤ (s.length : Int)
  · rw [if_pos h, if_pos hi, if_pos (by omega), if_neg (by omega)]
    exact key _
  · rw [if_neg h, if_neg (by omega)]
    exact key _

theorem Word_eq (s : List Int) (i : Int) (l : List ByteArray) (hi : 0 ≤ i) (hi2 : i ≤ 1000000000) (hl : 1 ≤ l.length) (hl2 : l.length ≤ 1000) :
    ∃ w, w ∈ l ∧ kauditmake_Src_Word.f s i l = some (w, i + 1) := by
  obtain ⟨v, hv, h0, h1⟩ := N_eq s i (l.length : Int) hi hi2 (by omega) (by omega)
  have hlt : v.toNat < l.length := by omega
  refine ⟨l[v.toNat]'hlt, List.getElem_mem hlt, ?_⟩
  unfold kauditmake_Src_Word.f
  rw [hv, Option.bind_some, if_pos h0, if_pos h1]
  refine congrArg some (Prod.ext ?_ rfl)
  show rdOf ByteArray.empty l v = _
  rw [rdOf, List.getD_eq_getElem?_getD, List.getElem?_eq_getElem hlt]
  rfl

theorem Pick_eq (s : List Int) (i : Int) (l : List Int) (hi : 0 ≤ i) (hi2 : i ≤ 1000000000) (hl : 1 ≤ l.length) (hl2 : l.length ≤ 1000) :
    ∃ w, w ∈ l ∧ kauditmake_Src_Pick.f s i l = some (w, i + 1) := by
  obtain ⟨v, hv, h0, h1⟩ := N_eq s i (l.length : Int) hi hi2 (by omega) (by omega)
  have hlt : v.toNat < l.length := by omega
  refine ⟨l[v.toNat]'hlt, List.getElem_mem hlt, ?_⟩
  unfold kauditmake_Src_Pick.f
  rw [hv, Option.bind_some, if_pos h0, if_pos h1]
  refine congrArg some (Prod.ext ?_ rfl)
  show rd l v = _
  rw [rd, List.getD_eq_getElem?_getD, List.getElem?_eq_getElem hlt]
  rfl

theorem srcClean_loop (s : List Int) : ∀ (n : Nat) (x : ByteArray) (i : Int) (k : Nat), n ≤ 10 → x.size + 2 * n ≤ 1000 → 0 ≤ i → i + n ≤ 1000000000 → n + 1 ≤ k →
    ∃ ps, ps.length = n ∧ (∀ p ∈ ps, nameL p = true ∧ p.length = 1) ∧ kauditmake_Src_Clean.l0 k x (n : Int) s i = some (ofL (x.data.toList ++ joinP ps), i + n) := by
  intro n
  induction n with
  | zero =>
    intro x i k _ _ _ _ hk
    obtain ⟨k, rfl⟩ : ∃ j, k = j + 1 := ⟨k - 1, by omega⟩
    refine ⟨[], rfl, by simp, ?_⟩
    rw [kauditmake_Src_Clean.l0, if_neg (by omega), joinP_nil, List.append_nil, ofL_data]
    simp
  | succ n ih =>
    intro x i k hn hx hi hi2 hk
    obtain ⟨k, rfl⟩ : ∃ j, k = j + 1 := ⟨k - 1, by omega⟩
    obtain ⟨w, hw, he⟩ := Word_eq s i [⟨#[97]⟩, ⟨#[98]⟩, ⟨#[99]⟩, ⟨#[108]⟩, ⟨#[109]⟩] hi (by omega) (by simp) (by simp)
    have hw2 : w.size = 1 ∧ nameL w.data.toList = true := by
      simp only [List.mem_cons, List.not_mem_nil, or_false] at hw
      rcases hw with rfl | rfl | rfl | rfl | rfl <;> exact ⟨rfl, by decide⟩
    have e1 : (⟨#[47]⟩ : ByteArray).size = 1 := rfl
    have ez : ((⟨#[47]⟩ : ByteArray) ++ w).size = 2 := by rw [ByteArray.size_append, e1, hw2.1]
    have e2 : wrap64 (((n + 1 : Nat) : Int) - 1) = (n : Int) := by unfold wrap64; omega
    obtain ⟨ps, hlen, hps, hf⟩ := ih (x ++ ((⟨#[47]⟩ : ByteArray) ++ w)) (i + 1) k (by omega) (by rw [ByteArray.size_append, ez]; omega) (by omega) (by omega) (by omega)
    refine ⟨w.data.toList :: ps, by simp [hlen], ?_, ?_⟩
    · intro p hp
      rcases List.mem_cons.1 hp with rfl | hp
      · exact ⟨hw2.2, by rw [← size_len]; exact hw2.1⟩
      · exact hps p hp
    · rw [kauditmake_Src_Clean.l0, if_pos (by omega), he, Option.bind_some]
      dsimp only
      rw [if_pos (by omega), if_pos (by omega), e2, hf]
      refine congrArg some (Prod.ext ?_ ?_)
      · rw [app_list, app_list, slash_list, joinP_cons]
        simp
      · show i + 1 + (n : Int) = i + ((n + 1 : Nat) : Int)
        omega

/-- What Src.Clean makes: a clean path of one to three names of one byte. -/
theorem srcClean_eq (s : List Int) (i : Int) (k : Nat) (hi : 0 ≤ i) (hi2 : i ≤ 999999000) (hk : 4 ≤ k) :
    ∃ ps i', ps ≠ [] ∧ ps.length ≤ 3 ∧ (∀ p ∈ ps, nameL p = true ∧ p.length = 1) ∧ i ≤ i' ∧ i' ≤ i + 4 ∧ kauditmake_Src_Clean.f k s i = some (ofL (joinP ps), i') := by
  obtain ⟨w, hw, he⟩ := Pick_eq s i [1, 1, 2, 2, 3] hi (by omega) (by simp) (by simp)
  obtain ⟨n, rfl, hn1, hn3⟩ : ∃ n : Nat, w = (n : Int) ∧ 1 ≤ n ∧ n ≤ 3 := by
    simp only [List.mem_cons, List.not_mem_nil, or_false] at hw
    exact ⟨w.toNat, by omega, by omega, by omega⟩
  obtain ⟨ps, hlen, hps, hf⟩ := srcClean_loop s n ⟨#[]⟩ (i + 1) k (by omega) (by show 0 + 2 * n ≤ 1000; omega) (by omega) (by omega) (by omega)
  refine ⟨ps, i + 1 + n, by intro e; rw [e] at hlen; simp at hlen; omega, by omega, hps, by omega, by omega, ?_⟩
  unfold kauditmake_Src_Clean.f
  rw [he, Option.bind_some]
  dsimp only
  rw [hf]
  rfl

theorem joinP_length {ps : List (List UInt8)} {m : Nat} (h : ∀ p ∈ ps, p.length ≤ m) : (joinP ps).length ≤ ps.length * (m + 1) := by
  induction ps with
  | nil => simp [joinP]
  | cons p ps ih =>
    have h1 := ih (fun q hq => h q (by simp [hq]))
    have h2 := h p (by simp)
    rw [joinP_cons, List.length_cons, List.length_append, List.length_cons, Nat.succ_mul]
    omega

end Go.Proofs.YtnjabpgbpgocnaaDoor.PAll

-- PureF
/- The reference's Join, Clean, Parent, and the comparison of lists of texts, in plain words. Condition: texts of at most 100000 bytes. -/
namespace Go.Proofs.YtnjabpgbpgocnaaDoor.PAll
open Go Go.RowKit Go.Proofs.YtnjabpgbpgocnaaDoorW.PrintWords Go.Proofs.YtnjabpgbpgocnaaDoorW.PrintLast Go.Proofs.YtnjabpgbpgocnaaDoorW.PrintMore
set_option linter.unusedVariables false
set_option linter.unusedSimpArgs false

theorem refJoin_eq (a b : ByteArray) (ha : a.size < 4294967296) (hb : b.size < 4294967296) : kauditref04_Join.f a b = some (ofL (joinL a.data.toList b.data.toList)) := by
  have e1 : (⟨#[47]⟩ : ByteArray).size = 1 := rfl
  have hyes : a ++ b = ofL (a.data.toList ++ b.data.toList) := ba_ext (by rw [app_list, ofL_list])
  have hno : (a ++ (⟨#[47]⟩ : ByteArray)) ++ b = ofL (a.data.toList ++ 47 :: b.data.toList) := ba_ext (by rw [app_list, app_list, ofL_list, slash_list]; simp)
  unfold kauditref04_Join.f
  by_cases h0 : 0 < a.size
  · have e : wrap64 ((a.size : Int) - 1) = ((a.size - 1 : Nat) : Int) := by unfold wrap64; omega
    have hl := last_bt a h0
    rw [if_pos (by omega), e, if_pos (by omega), if_pos (by omega), joinL]
    by_cases c : bt a ((a.size - 1 : Nat) : Int) = 47
    · have hg : a.data.toList.getLast? = some 47 := by
        rw [c] at hl
        exact of_decide_eq_true (by unfold lastSlash at hl; rw [← hl]; rfl)
      rw [if_pos c, if_pos (by omega), if_pos hg, hyes]
    · have hg : a.data.toList.getLast? ≠ some 47 := by
        intro h
        have : lastSlash a = true := by unfold lastSlash; exact decide_eq_true h
        rw [this, beq_iff_eq] at hl
        exact c hl
      rw [if_neg c, if_pos (by omega), if_pos (by rw [ByteArray.size_append, e1]; omega), if_neg hg, hno]
  · have hl : a.data.toList = [] := List.length_eq_zero_iff.1 (by rw [← size_len]; omega)
    rw [if_neg (by omega), if_pos (by omega), if_pos (by rw [ByteArray.size_append, e1]; omega), hno, joinL, hl]
    rfl

theorem piecesOf_map (s : ByteArray) : piecesOf s = (piecesL [] s.data.toList).map ofL := rfl

theorem joinP_pieces_le : ∀ (l cur : List UInt8), (joinP (piecesL cur l)).length ≤ l.length + cur.length + 1
  | [], cur => by
    by_cases h : cur = []
    · rw [piecesL, if_pos h]; simp [joinP]
    · rw [piecesL, if_neg h]; simp [joinP]
  | b :: l, cur => by
    have h1 := joinP_pieces_le l []
    have h2 := joinP_pieces_le l (cur ++ [b])
    rw [List.length_append] at h2
    simp at h1 h2
    by_cases hb : b = 47
    · by_cases h : cur = []
      · rw [piecesL, if_pos hb, if_pos h]; simp; omega
      · rw [piecesL, if_pos hb, if_neg h, joinP_cons]; simp; omega
    · rw [piecesL, if_neg hb]; simp; omega

theorem joinP_count (qs : List (List UInt8)) : qs.length ≤ (joinP qs).length := by
  induction qs with
  | nil => simp
  | cons q qs ih => rw [joinP_cons]; simp; omega

theorem joinP_parts (ps : List (List UInt8)) (i : Nat) (hi : i < ps.length) : joinP ps = joinP (ps.take i) ++ (47 :: (ps[i]'hi) ++ joinP (ps.drop (i + 1))) := by
  have h1 := List.take_append_drop i ps
  rw [List.drop_eq_getElem_cons hi] at h1
  conv => lhs; rw [← h1]
  rw [joinP_append, joinP_cons]
  simp

theorem refClean_end (s t : ByteArray) (xs : List ByteArray) (k : Nat) : kauditref04_Clean.l0 (k + 1) s xs t (xs.length : Int) = some (s.data.toList == [47] || (decide (xs.length ≠ 0) && s.data.toList == t.data.toList)) := by
  rw [kauditref04_Clean.l0, if_neg (by omega), Lib.toList_data, Lib.toList_data]
  by_cases h1 : s.data.toList = [47]
  · rw [if_pos h1, h1]; rfl
  · have hb : (s.data.toList == [47]) = false := by simpa using h1
    rw [if_neg h1, hb, Bool.false_or]
    by_cases h0 : xs.length = 0
    · rw [if_neg (by omega), decide_eq_false (fun h => h h0), Bool.false_and]
    · rw [if_pos (by omega), decide_eq_true h0, Bool.true_and]

theorem refClean_round (s t P : ByteArray) (xs : List ByteArray) (i k : Nat) (hi : i < xs.length) (hi2 : i ≤ 1000000) (hP : rdOf ByteArray.empty xs (i : Int) = P) (ht : t.size ≤ 200000) (hPz : P.size ≤ 200000) (hk : 15 ≤ k) :
    kauditref04_Clean.l0 (k + 1) s xs t (i : Int) = if nameL P.data.toList = true then kauditref04_Clean.l0 k s xs (t ++ ((⟨#[47]⟩ : ByteArray) ++ P)) ((i + 1 : Nat) : Int) else some false := by
  have e1 : (⟨#[47]⟩ : ByteArray).size = 1 := rfl
  have e2 : wrap64 ((i : Int) + 1) = ((i + 1 : Nat) : Int) := by unfold wrap64; omega
  rw [kauditref04_Clean.l0, if_pos (by omega), if_pos (by omega), hP, refName_eq P k hk, Option.bind_some, if_pos (show 1 + P.size ≤ 9223372036854775807 by omega), if_pos (show t.size + ((⟨#[47]⟩ : ByteArray) ++ P).size ≤ 9223372036854775807 by rw [ByteArray.size_append, e1]; omega), e2]

theorem refClean_loop (s : ByteArray) (ps : List (List UInt8)) (hps : (joinP ps).length ≤ 200000) : ∀ (d i k : Nat) (t : ByteArray), i + d = ps.length → t.data.toList = joinP (ps.take i) → d + 16 ≤ k →
    kauditref04_Clean.l0 k s (ps.map ofL) t (i : Int) = some ((ps.drop i).all nameL && (s.data.toList == [47] || (decide (ps ≠ []) && s.data.toList == joinP ps))) := by
  have hcount := joinP_count ps
  have hml : (ps.map ofL).length = ps.length := List.length_map _
  intro d
  induction d with
  | zero =>
    intro i k t hi ht hk
    obtain ⟨k, rfl⟩ : ∃ j, k = j + 1 := ⟨k - 1, by omega⟩
    obtain rfl : i = ps.length := by omega
    have h := refClean_end s t (ps.map ofL) k
    rw [hml] at h
    rw [h, List.drop_length, List.all_nil, Bool.true_and, ht, List.take_length]
    congr 3
    rw [Bool.eq_iff_iff, decide_eq_true_eq, decide_eq_true_eq]
    exact ⟨fun h e => h (by rw [e]; rfl), fun h e => h (List.length_eq_zero_iff.1 e)⟩
  | succ d ih =>
    intro i k t hi ht hk
    obtain ⟨k, rfl⟩ : ∃ j, k = j + 1 := ⟨k - 1, by omega⟩
    have hlt : i < ps.length := by omega
    have hlen := congrArg List.length (joinP_parts ps i hlt)
    simp only [List.length_append, List.length_cons] at hlen
    have htz : t.size ≤ 200000 := by rw [size_len, ht]; omega
    have hPz : (ofL (ps[i]'hlt)).size ≤ 200000 := by rw [ofL_size]; omega
    have hr := refClean_round s t (ofL (ps[i]'hlt)) (ps.map ofL) i k (by omega) (by omega) (rdOf_map ps i hlt) htz hPz (by omega)
    rw [ofL_list] at hr
    rw [hr, List.drop_eq_getElem_cons hlt, List.all_cons]
    by_cases hn : nameL (ps[i]'hlt) = true
    · have hih := ih (i + 1) k (t ++ ((⟨#[47]⟩ : ByteArray) ++ ofL (ps[i]'hlt))) (by omega) (by
        rw [app_list, app_list, slash_list, ofL_list, ht, List.take_succ_eq_append_getElem hlt, joinP_append, joinP_single]
        rfl) (by omega)
      rw [if_pos hn, hih, hn, Bool.true_and]
    · rw [if_neg hn, Bool.eq_false_iff.2 hn, Bool.false_and, Bool.false_and]

theorem refClean_eq (s : ByteArray) (k : Nat) (hs : s.size ≤ 100000) (hk : 2 * s.size + 20 ≤ k) : kauditref04_Clean.f k s = some (cleanL s.data.toList) := by
  have hj := joinP_pieces_le s.data.toList []
  rw [← size_len] at hj
  simp at hj
  have hc := joinP_count (piecesL [] s.data.toList)
  unfold kauditref04_Clean.f
  rw [refSplit_eq s k hs (by omega), Option.bind_some]
  dsimp only
  have h := refClean_loop s (piecesL [] s.data.toList) (by omega) (piecesL [] s.data.toList).length 0 k ⟨#[]⟩ (by omega) rfl (by omega)
  rw [show ((0 : Nat) : Int) = 0 from rfl, List.drop_zero] at h
  rw [piecesOf_map, h, ← clean_pieces]

theorem refParent_loop (qs : List (List UInt8)) (n : List UInt8) (hn : ∀ p ∈ qs ++ [n], nameL p = true) (hz : (joinP (qs ++ [n])).length ≤ 200000) : ∀ (d i k : Nat) (dir : ByteArray), i + d = qs.length → dir.data.toList = (if i = 0 then [47] else joinP (qs.take i)) → d + 1 ≤ k →
    kauditref04_Parent.l0 k ((qs ++ [n]).map ofL) dir (i : Int) = some (ofL (if qs = [] then [47] else joinP qs), ofL n, true) := by
  have hcount := joinP_count (qs ++ [n])
  have hlen : ((qs ++ [n]).map ofL).length = qs.length + 1 := by simp
  rw [List.length_append, List.length_singleton] at hcount
  intro d
  induction d with
  | zero =>
    intro i k dir hi hdir hk
    obtain ⟨k, rfl⟩ : ∃ j, k = j + 1 := ⟨k - 1, by omega⟩
    obtain rfl : i = qs.length := by omega
    have e2 : wrap64 ((qs.length : Int) + 1) = ((qs.length + 1 : Nat) : Int) := by unfold wrap64; omega
    have e3 : wrap64 (((qs.length + 1 : Nat) : Int) - 1) = (qs.length : Int) := by unfold wrap64; omega
    have hlt : qs.length < (qs ++ [n]).length := by simp
    rw [kauditref04_Parent.l0, hlen, e2, if_neg (by omega), e3, if_pos (by omega), if_pos (by omega), rdOf_map (qs ++ [n]) qs.length hlt]
    refine congrArg some (Prod.ext ?_ (Prod.ext ?_ rfl))
    · refine ba_ext ?_
      rw [ofL_list, hdir, List.take_length]
      cases qs with
      | nil => rfl
      | cons q qs => rw [if_neg (by simp), if_neg (by simp)]
    · show ofL _ = ofL n
      congr 1
      simp
  | succ d ih =>
    intro i k dir hi hdir hk
    obtain ⟨k, rfl⟩ : ∃ j, k = j + 1 := ⟨k - 1, by omega⟩
    have hlt : i < (qs ++ [n]).length := by simp; omega
    have hlq : i < qs.length := by omega
    have hget : (qs ++ [n])[i]'hlt = qs[i]'hlq := List.getElem_append_left hlq
    have e2 : wrap64 ((i : Int) + 1) = ((i + 1 : Nat) : Int) := by unfold wrap64; omega
    have hparts := congrArg List.length (joinP_parts (qs ++ [n]) i hlt)
    simp only [List.length_append, List.length_cons] at hparts
    have htake : (qs ++ [n]).take i = qs.take i := List.take_append_of_le_length (by omega)
    rw [htake, hget] at hparts
    have hdz : dir.size < 4294967296 := by
      rw [size_len, hdir]
      split
      · simp
      · omega
    have hpz : (ofL (qs[i]'hlq)).size < 4294967296 := by
      rw [ofL_size]
      have := nameL_len (hn (qs[i]'hlq) (by simp))
      omega
    rw [kauditref04_Parent.l0, hlen, e2, if_pos (by omega), if_pos (by omega), if_pos (by omega), rdOf_map (qs ++ [n]) i hlt, hget, refJoin_eq dir _ hdz hpz, Option.bind_some]
    refine ih (i + 1) k _ (by omega) ?_ (by omega)
    rw [ofL_list, ofL_list, if_neg (by omega), List.take_succ_eq_append_getElem hlq, joinP_append, joinP_single, hdir]
    by_cases h0 : i = 0
    · subst h0
      rw [if_pos rfl, List.take_zero, joinP_nil]
      rfl
    · rw [if_neg h0]
      refine joinL_clean (fun p hp => hn p ?_) ?_ _
      · exact List.mem_append_left _ (List.mem_of_mem_take hp)
      · intro e
        have := congrArg List.length e
        rw [List.length_take, List.length_nil] at this
        omega

theorem refParent_eq (s : ByteArray) (k : Nat) (hs : s.size ≤ 100000) (hk : 2 * s.size + 20 ≤ k) :
    kauditref04_Parent.f k s = some (ofL (parentL s.data.toList).1, ofL (parentL s.data.toList).2.1, (parentL s.data.toList).2.2) := by
  have hno : ¬ (cleanL s.data.toList = true ∧ s.data.toList ≠ [47]) → (some ((⟨#[]⟩ : ByteArray), (⟨#[]⟩ : ByteArray), false) : Option (ByteArray × ByteArray × Bool)) = some (ofL (parentL s.data.toList).1, ofL (parentL s.data.toList).2.1, (parentL s.data.toList).2.2) := fun h => by
    rw [parentL_no h]; rfl
  obtain ⟨j, hj⟩ : ∃ j, k = j + 1 := ⟨k - 1, by omega⟩
  unfold kauditref04_Parent.f
  rw [refClean_eq s k hs hk, Option.bind_some]
  by_cases hc : cleanL s.data.toList = true
  · rw [if_pos hc, Lib.toList_data, hj, kauditref04_Parent.j0]
    by_cases h1 : s.data.toList = [47]
    · rw [if_pos (by simpa using h1)]
      exact hno (fun h => h.2 h1)
    · obtain ⟨qs, n, hn, hl⟩ := clean_snoc hc h1
      have hp := pieces_join (ps := qs ++ [n]) (fun p hp => nameL_free (hn p hp)) (fun p hp => nameL_ne (hn p hp))
      have hjz : (joinP (qs ++ [n])).length = s.size := by rw [← hl, ← size_len]
      have hcount := joinP_count (qs ++ [n])
      rw [List.length_append, List.length_singleton] at hcount
      have h := refParent_loop qs n hn (by omega) qs.length 0 j ⟨#[47]⟩ (by omega) rfl (by omega)
      rw [show ((0 : Nat) : Int) = 0 from rfl] at h
      have hpar : parentL s.data.toList = (if qs = [] then [47] else joinP qs, n, true) := by rw [hl]; exact parentL_join hn
      rw [if_neg (by simpa using h1), refSplit_eq s j hs (by omega), Option.bind_some]
      dsimp only
      rw [piecesOf_map, hl, hp, h, ← hl, hpar]
  · rw [if_neg hc, hj, kauditref04_Parent.j0, if_pos rfl]
    exact hno (fun h => hc h.1)

theorem same_loop (xs : List ByteArray) (hl : xs.length ≤ 1000000) : ∀ (d i k : Nat), i + d = xs.length → d + 1 ≤ k → kauditlaw04_same.l0 k xs xs (i : Int) = some true := by
  intro d
  induction d with
  | zero =>
    intro i k hi hk
    obtain ⟨k, rfl⟩ : ∃ j, k = j + 1 := ⟨k - 1, by omega⟩
    rw [kauditlaw04_same.l0, if_neg (by omega)]
  | succ d ih =>
    intro i k hi hk
    obtain ⟨k, rfl⟩ : ∃ j, k = j + 1 := ⟨k - 1, by omega⟩
    have e2 : wrap64 ((i : Int) + 1) = ((i + 1 : Nat) : Int) := by unfold wrap64; omega
    rw [kauditlaw04_same.l0, if_pos (by omega), if_pos (by omega), if_pos (by omega), if_pos rfl, e2]
    exact ih (i + 1) k (by omega) (by omega)

theorem same_eq (xs : List ByteArray) (hl : xs.length ≤ 1000000) (k : Nat) (hk : xs.length + 1 ≤ k) : kauditlaw04_same.f k xs xs = some true := by
  unfold kauditlaw04_same.f
  rw [if_pos rfl]
  exact same_loop xs hl xs.length 0 k (by omega) hk

/-- The functions of one text agree with the reference. -/
theorem agrees_eq (s : ByteArray) (k : Nat) (hs : s.size ≤ 100000) (hk : 3 * s.size + 20 ≤ k) : kauditlaw04_agrees.f k s = some true := by
  have hl := piecesOf_length s
  unfold kauditlaw04_agrees.f
  rw [split_eq s (by omega), Option.bind_some, refSplit_eq s k hs (by omega), Option.bind_some, pathParent_eq s k (by omega) (by omega), Option.bind_some, refParent_eq s k hs (by omega), Option.bind_some,
    name_eq, Option.bind_some, refName_eq s k (by omega), Option.bind_some, if_pos (by simp), pathClean_eq s k (by omega) (by omega), Option.bind_some, refClean_eq s k hs (by omega), Option.bind_some, if_pos (by simp)]
  dsimp only
  rw [same_eq _ (by omega) k (by omega), Option.bind_some, if_pos rfl, if_pos (by simp), if_pos (by simp), if_pos rfl, if_pos rfl]
  simp

end Go.Proofs.YtnjabpgbpgocnaaDoor.PAll

-- PureG
/- The reference's Under and the maker of names, in plain words. Condition: texts of at most 100000 bytes. -/
namespace Go.Proofs.YtnjabpgbpgocnaaDoor.PAll
open Go Go.RowKit Go.Proofs.YtnjabpgbpgocnaaDoorW.PrintWords Go.Proofs.YtnjabpgbpgocnaaDoorW.PrintLast Go.Proofs.YtnjabpgbpgocnaaDoorW.PrintMore
set_option linter.unusedVariables false
set_option linter.unusedSimpArgs false

theorem ofL_inj {p q : List UInt8} (h : (ofL p).toList = (ofL q).toList) : p = q := by
  rw [Lib.toList_data, Lib.toList_data, ofL_list, ofL_list] at h
  exact h

theorem refUnder_round (xs ys : List ByteArray) (i k : Nat) (hi : i < xs.length) (hle : xs.length ≤ ys.length) (hi2 : i ≤ 1000000) :
    kauditref04_Under.l0 (k + 1) xs ys (i : Int) = if (rdOf ByteArray.empty xs (i : Int)).toList = (rdOf ByteArray.empty ys (i : Int)).toList then kauditref04_Under.l0 k xs ys ((i + 1 : Nat) : Int) else some false := by
  have e2 : wrap64 ((i : Int) + 1) = ((i + 1 : Nat) : Int) := by unfold wrap64; omega
  rw [kauditref04_Under.l0, if_pos (by omega), if_pos (by omega), if_pos (by omega), e2]

theorem refUnder_loop (ps qs : List (List UInt8)) (hle : ps.length ≤ qs.length) (hz : ps.length ≤ 1000000) : ∀ (d i k : Nat), i + d = ps.length → d + 1 ≤ k →
    kauditref04_Under.l0 k (ps.map ofL) (qs.map ofL) (i : Int) = some ((ps.drop i).isPrefixOf (qs.drop i)) := by
  have hp : (ps.map ofL).length = ps.length := List.length_map _
  have hq : (qs.map ofL).length = qs.length := List.length_map _
  intro d
  induction d with
  | zero =>
    intro i k hi hk
    obtain ⟨k, rfl⟩ : ∃ j, k = j + 1 := ⟨k - 1, by omega⟩
    rw [kauditref04_Under.l0, if_neg (by omega), List.drop_eq_nil_of_le (by omega)]
    rfl
  | succ d ih =>
    intro i k hi hk
    obtain ⟨k, rfl⟩ : ∃ j, k = j + 1 := ⟨k - 1, by omega⟩
    have hlt : i < ps.length := by omega
    have hlq : i < qs.length := by omega
    rw [refUnder_round _ _ i k (by omega) (by omega) (by omega), rdOf_map ps i hlt, rdOf_map qs i hlq, List.drop_eq_getElem_cons hlt, List.drop_eq_getElem_cons hlq, List.isPrefixOf_cons_cons]
    by_cases e : ps[i]'hlt = qs[i]'hlq
    · rw [if_pos (by rw [e]), ih (i + 1) k (by omega) (by omega), show (ps[i]'hlt == qs[i]'hlq) = true by simpa using e, Bool.true_and]
    · rw [if_neg (fun h => e (ofL_inj h)), show (ps[i]'hlt == qs[i]'hlq) = false by simpa using e, Bool.false_and]

theorem refUnder_eq (a b : ByteArray) (k : Nat) (ha : a.size ≤ 100000) (hb : b.size ≤ 100000) (hka : 2 * a.size + 30 ≤ k) (hkb : 2 * b.size + 30 ≤ k) :
    kauditref04_Under.f k a b = some (underL a.data.toList b.data.toList) := by
  obtain ⟨j, hj⟩ : ∃ j, k = j + 1 := ⟨k - 1, by omega⟩
  have la := piecesOf_length a
  have lb := piecesOf_length b
  unfold kauditref04_Under.f
  rw [refClean_eq a k ha (by omega), Option.bind_some, underL]
  by_cases hca : cleanL a.data.toList = true
  · rw [if_pos hca, refClean_eq b k hb (by omega), Option.bind_some, hca, Bool.true_and, hj, kauditref04_Under.j0]
    by_cases hcb : cleanL b.data.toList = true
    · rw [hcb, Bool.true_and, if_neg (by simp), refSplit_eq a j ha (by omega), Option.bind_some, refSplit_eq b j hb (by omega), Option.bind_some]
      dsimp only
      rw [piecesOf, List.length_map] at la lb
      by_cases hl : (piecesL [] a.data.toList).length ≤ (piecesL [] b.data.toList).length
      · have h := refUnder_loop (piecesL [] a.data.toList) (piecesL [] b.data.toList) hl (by omega) (piecesL [] a.data.toList).length 0 j (by omega) (by omega)
        rw [List.drop_zero, List.drop_zero] at h
        rw [if_neg (by rw [piecesOf_map, piecesOf_map, List.length_map, List.length_map]; omega)]
        exact h
      · rw [if_pos (by rw [piecesOf_map, piecesOf_map, List.length_map, List.length_map]; omega)]
        refine congrArg some ?_
        symm
        rw [Bool.eq_false_iff, ne_eq, List.isPrefixOf_iff_prefix]
        intro hp
        exact hl hp.length_le
    · rw [Bool.eq_false_iff.2 hcb, Bool.false_and]
      rfl
  · rw [if_neg hca, Bool.eq_false_iff.2 hca, Bool.false_and, Bool.false_and, hj, kauditref04_Under.j0, if_pos rfl]

/-- The names that the maker tells. -/
def makerNames : List ByteArray := [⟨#[]⟩, ⟨#[46]⟩, ⟨#[46, 46]⟩, ⟨#[97, 47, 98]⟩, ⟨#[97, 98, 99, 100, 101, 102, 103, 104, 105, 106, 107, 108]⟩, ⟨#[97, 98, 99, 100, 101, 102, 103, 104, 105, 106, 107, 108, 109]⟩, ⟨#[97, 0]⟩, ⟨#[126]⟩, ⟨#[97]⟩, ⟨#[98]⟩, ⟨#[99]⟩, ⟨#[100]⟩, ⟨#[108]⟩, ⟨#[109]⟩]

theorem makerName_eq (s : List Int) (i : Int) (hi : 0 ≤ i) (hi2 : i ≤ 999999000) : ∃ w, w ∈ makerNames ∧ kauditmake_Src_Name.f s i = some (w, i + 2) := by
  obtain ⟨v, hv, h0, h1⟩ := N_eq s i 20 hi (by omega) (by omega) (by omega)
  unfold kauditmake_Src_Name.f
  rw [hv, Option.bind_some]
  dsimp only
  by_cases h : v = 19
  · obtain ⟨w, hw, he⟩ := Word_eq s (i + 1) [⟨#[]⟩, ⟨#[46]⟩, ⟨#[46, 46]⟩, ⟨#[97, 47, 98]⟩, ⟨#[97, 98, 99, 100, 101, 102, 103, 104, 105, 106, 107, 108]⟩, ⟨#[97, 98, 99, 100, 101, 102, 103, 104, 105, 106, 107, 108, 109]⟩, ⟨#[97, 0]⟩, ⟨#[126]⟩] (by omega) (by omega) (by simp) (by simp)
    refine ⟨w, ?_, ?_⟩
    · simp only [List.mem_cons, List.not_mem_nil, or_false] at hw
      rcases hw with rfl | rfl | rfl | rfl | rfl | rfl | rfl | rfl <;> simp [makerNames]
    · rw [if_pos h, he, Option.bind_some]
      refine congrArg some (Prod.ext rfl ?_)
      show i + 1 + 1 = i + 2
      omega
  · obtain ⟨w, hw, he⟩ := Word_eq s (i + 1) [⟨#[97]⟩, ⟨#[98]⟩, ⟨#[99]⟩, ⟨#[100]⟩, ⟨#[108]⟩, ⟨#[109]⟩] (by omega) (by omega) (by simp) (by simp)
    refine ⟨w, ?_, ?_⟩
    · simp only [List.mem_cons, List.not_mem_nil, or_false] at hw
      rcases hw with rfl | rfl | rfl | rfl | rfl | rfl <;> simp [makerNames]
    · rw [if_neg h, he, Option.bind_some]
      refine congrArg some (Prod.ext rfl ?_)
      show i + 1 + 1 = i + 2
      omega

theorem maker_small {w : ByteArray} (h : w ∈ makerNames) : w.size ≤ 13 := by
  simp only [makerNames, List.mem_cons, List.not_mem_nil, or_false] at h
  rcases h with rfl | rfl | rfl | rfl | rfl | rfl | rfl | rfl | rfl | rfl | rfl | rfl | rfl | rfl <;> decide

theorem maker_free {w : ByteArray} (h : w ∈ makerNames) (hne : w.data.toList ≠ [97, 47, 98]) : Free w.data.toList := by
  simp only [makerNames, List.mem_cons, List.not_mem_nil, or_false] at h
  rcases h with rfl | rfl | rfl | rfl | rfl | rfl | rfl | rfl | rfl | rfl | rfl | rfl | rfl | rfl
  case inr.inr.inr.inl => exact absurd rfl hne
  all_goals (intro b hb; revert b; decide)

end Go.Proofs.YtnjabpgbpgocnaaDoor.PAll

-- PurePathBuilt
/- PathBuilt: the functions return what the reference returns, for paths that are built and for names: plain law. No condition. -/
namespace Go.Proofs.YtnjabpgbpgocnaaDoor.Pure
open Go Go.RowKit Go.Proofs.YtnjabpgbpgocnaaDoor.PAll Go.Proofs.YtnjabpgbpgocnaaDoorW.PrintWords Go.Proofs.YtnjabpgbpgocnaaDoorW.PrintLast
set_option linter.unusedVariables false
set_option linter.unusedSimpArgs false

/-- Paths that are built are short. -/
theorem built_loop (s : List Int) (c : Nat) (hc : c ≤ 10) : ∀ (d j k : Nat) (x : ByteArray) (i : Int), j + d = c → x.size + 14 * d ≤ 300 → 0 ≤ i → i + 4 * d ≤ 10000 → 2 * d + 1 ≤ k →
    ∃ y i', kauditmake_Src_Path.l0 k x (c : Int) (j : Int) s i = some (y, i') ∧ y.size ≤ x.size + 14 * d + 1 ∧ 0 ≤ i' ∧ i' ≤ i + 4 * d + 1 := by
  have e1 : (⟨#[47]⟩ : ByteArray).size = 1 := rfl
  intro d
  induction d with
  | zero =>
    intro j k x i hj hx hi hi2 hk
    obtain ⟨k, rfl⟩ : ∃ n, k = n + 1 := ⟨k - 1, by omega⟩
    obtain ⟨v, hv, _, _⟩ := N_eq s i 8 hi (by omega) (by omega) (by omega)
    rw [kauditmake_Src_Path.l0, if_neg (by omega), hv, Option.bind_some]
    dsimp only
    by_cases h : v = 7
    · exact ⟨x ++ ⟨#[47]⟩, i + 1, by rw [if_pos h, if_pos (by omega)], by rw [ByteArray.size_append, e1]; omega, by omega, by omega⟩
    · exact ⟨x, i + 1, by rw [if_neg h], by omega, by omega, by omega⟩
  | succ d ih =>
    intro j k x i hj hx hi hi2 hk
    obtain ⟨k, rfl⟩ : ∃ n, k = n + 2 := ⟨k - 2, by omega⟩
    have e2 : wrap64 ((j : Int) + 1) = ((j + 1 : Nat) : Int) := by unfold wrap64; omega
    have two : ∀ x' : ByteArray, x'.size ≤ x.size + 1 → ∃ y i', kauditmake_Src_Path.j2 (k + 1) x' (c : Int) (j : Int) s i = some (y, i') ∧ y.size ≤ x.size + 14 * (d + 1) + 1 ∧ 0 ≤ i' ∧ i' ≤ i + 4 * (d + 1 : Nat) + 1 := by
      intro x' hx'
      obtain ⟨v, hv, _, _⟩ := N_eq s i 8 hi (by omega) (by omega) (by omega)
      rw [kauditmake_Src_Path.j2, hv, Option.bind_some]
      dsimp only
      by_cases h : v = 7
      · obtain ⟨w, hw, he⟩ := Word_eq s (i + 1) [⟨#[46]⟩, ⟨#[46, 46]⟩, ⟨#[]⟩, ⟨#[97, 47, 47, 98]⟩] (by omega) (by omega) (by simp) (by simp)
        have hwz : w.size ≤ 13 := by
          simp only [List.mem_cons, List.not_mem_nil, or_false] at hw
          rcases hw with rfl | rfl | rfl | rfl <;> decide
        have hz : (x' ++ w).size = x'.size + w.size := ByteArray.size_append
        obtain ⟨y, i', hy, h1, h2, h3⟩ := ih (j + 1) k (x' ++ w) (i + 1 + 1) (by omega) (by omega) (by omega) (by omega) (by omega)
        refine ⟨y, i', ?_, by omega, h2, by omega⟩
        rw [if_pos h, he, Option.bind_some]
        dsimp only
        rw [if_pos (by omega), e2, hy]
      · obtain ⟨w, hw, he⟩ := makerName_eq s (i + 1) (by omega) (by omega)
        have hwz := maker_small hw
        have hz : (x' ++ w).size = x'.size + w.size := ByteArray.size_append
        obtain ⟨y, i', hy, h1, h2, h3⟩ := ih (j + 1) k (x' ++ w) (i + 1 + 2) (by omega) (by omega) (by omega) (by omega) (by omega)
        refine ⟨y, i', ?_, by omega, h2, by omega⟩
        rw [if_neg h, he, Option.bind_some]
        dsimp only
        rw [if_pos (by omega), e2, hy]
    rw [kauditmake_Src_Path.l0, if_pos (by omega)]
    by_cases h : (j : Int) > 0
    · rw [if_pos h, if_pos (by omega)]
      exact two _ (by rw [ByteArray.size_append, e1]; omega)
    · rw [if_neg h]
      exact two _ (by omega)

theorem built_eq (s : List Int) (i : Int) (k : Nat) (hi : 0 ≤ i) (hi2 : i ≤ 1000) (hk : 50 ≤ k) : ∃ y i', kauditmake_Src_Path.f k s i = some (y, i') ∧ y.size ≤ 100 ∧ 0 ≤ i' ∧ i' ≤ i + 30 := by
  obtain ⟨v, hv, _, _⟩ := N_eq s i 6 hi (by omega) (by omega) (by omega)
  have j0 : ∀ x : ByteArray, x.size ≤ 1 → ∃ y i', kauditmake_Src_Path.j0 k x s (i + 1) = some (y, i') ∧ y.size ≤ 100 ∧ 0 ≤ i' ∧ i' ≤ i + 30 := by
    intro x hx
    obtain ⟨k, rfl⟩ : ∃ n, k = n + 1 := ⟨k - 1, by omega⟩
    obtain ⟨w, hw, he⟩ := Pick_eq s (i + 1) [1, 1, 2, 2, 3, 0, 4] (by omega) (by omega) (by simp) (by simp)
    obtain ⟨n, rfl, hn⟩ : ∃ n : Nat, w = (n : Int) ∧ n ≤ 4 := by
      simp only [List.mem_cons, List.not_mem_nil, or_false] at hw
      exact ⟨w.toNat, by omega, by omega⟩
    obtain ⟨y, i', hy, h1, h2, h3⟩ := built_loop s n (by omega) n 0 k x (i + 1 + 1) (by omega) (by omega) (by omega) (by omega) (by omega)
    refine ⟨y, i', ?_, by omega, h2, by omega⟩
    rw [kauditmake_Src_Path.j0, he, Option.bind_some]
    exact hy
  unfold kauditmake_Src_Path.f
  rw [hv, Option.bind_some]
  dsimp only
  by_cases h : v > 0
  · rw [if_pos h]; exact j0 _ (by decide)
  · rw [if_neg h]; exact j0 _ (by decide)

theorem PathBuilt : kauditlaw04_PathBuilt.Pure := by
  intro l0 hl _ _
  refine ⟨5000, ?_⟩
  obtain ⟨a, i1, ea, za, hi1, hi1'⟩ := built_eq l0 0 5000 (by omega) (by omega) (by omega)
  obtain ⟨b, i2, eb, zb, hi2, hi2'⟩ := built_eq l0 i1 5000 (by omega) (by omega) (by omega)
  obtain ⟨n, hn, en⟩ := makerName_eq l0 i2 (by omega) (by omega)
  have zn := maker_small hn
  have hjz : (ofL (joinL a.data.toList n.data.toList)).size ≤ 200 := by
    rw [ofL_size]
    unfold joinL
    split <;> simp <;> omega
  unfold kauditlaw04_PathBuilt.f kauditmake_New.f
  rw [Option.bind_some]
  dsimp only
  rw [ea, Option.bind_some]
  dsimp only
  rw [eb, Option.bind_some]
  dsimp only
  rw [en, Option.bind_some]
  dsimp only
  rw [agrees_eq a 5000 (by omega) (by omega), Option.bind_some, if_pos rfl, agrees_eq b 5000 (by omega) (by omega), Option.bind_some, if_pos rfl, agrees_eq n 5000 (by omega) (by omega), Option.bind_some, if_pos rfl,
    pathJoin_eq a n (by omega) (by omega), Option.bind_some, refJoin_eq a n (by omega) (by omega), Option.bind_some, if_pos rfl,
    pathUnder_eq a b 5000 (by omega) (by omega) (by omega) (by omega), Option.bind_some, refUnder_eq a b 5000 (by omega) (by omega) (by omega) (by omega), Option.bind_some, if_pos (by simp), Option.bind_some,
    pathUnder_eq a _ 5000 (by omega) (by omega) (by omega) (by omega), Option.bind_some, Option.bind_some, refUnder_eq a _ 5000 (by omega) (by omega) (by omega) (by omega), Option.bind_some, if_pos (by simp), awake_eq 5000 (by omega)]
  rfl

end Go.Proofs.YtnjabpgbpgocnaaDoor.Pure
