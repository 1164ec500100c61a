/- For PathPairs: contracts of the functions that it reaches and plain facts, joined out of 9 texts by a program (merge_claim.py): PureA, PureB, PureC, PAllx47, PAllx48, PAllx49, PureE, PAllx1, PAllx2. Each text's own conditions stand at its head below. -/
import Derived.Test.YtnjabpgbpgocnaaDoorZPathPairs1
import Derived.Lib.IndexBytes

-- PureA
/- Plain facts on lists of bytes: pieces between slashes, names, clean paths. No program in sight. -/
namespace Go.Proofs.YtnjabpgbpgocnaaDoor.PAll

/-- No slash among the bytes. -/
def Free (p : List UInt8) : Prop := ∀ b ∈ p, b ≠ 47

/-- A slash ahead of each piece. -/
def joinP (ps : List (List UInt8)) : List UInt8 := ps.flatMap fun p => 47 :: p

theorem joinP_nil : joinP [] = [] := rfl
theorem joinP_cons (p : List UInt8) (ps : List (List UInt8)) : joinP (p :: ps) = 47 :: (p ++ joinP ps) := by simp [joinP]
theorem joinP_append (ps qs : List (List UInt8)) : joinP (ps ++ qs) = joinP ps ++ joinP qs := by simp [joinP]
theorem joinP_single (p : List UInt8) : joinP [p] = 47 :: p := by simp [joinP]

theorem split_slash (l : List UInt8) : splitL [] (47 :: l) = [] :: splitL [] l := by simp [splitL]

theorem split_join : ∀ (ps : List (List UInt8)) (t : List UInt8), (∀ p ∈ ps, Free p) → splitL [] (joinP ps ++ 47 :: t) = [] :: (ps ++ splitL [] t)
  | [], t, _ => by rw [joinP_nil, List.nil_append, split_slash, List.nil_append]
  | p :: ps, t, h => by
    have ih := split_join ps t (fun q hq => h q (by simp [hq]))
    obtain ⟨r, hr⟩ : ∃ r, joinP ps ++ 47 :: t = 47 :: r := by
      cases ps with
      | nil => exact ⟨t, rfl⟩
      | cons q qs => exact ⟨_, by rw [joinP_cons]; rfl⟩
    rw [joinP_cons, List.cons_append, split_slash, List.append_assoc, hr, splitL_cut p r [] (h p (by simp)), List.nil_append]
    rw [hr, split_slash] at ih
    rw [(List.cons.inj ih).2]
    rfl

theorem split_join0 : ∀ (ps : List (List UInt8)), (∀ p ∈ ps, Free p) → splitL [] (joinP ps) = [] :: ps
  | [], _ => rfl
  | p :: ps, h => by
    have ih := split_join0 ps (fun q hq => h q (by simp [hq]))
    rw [joinP_cons, split_slash]
    cases ps with
    | nil => rw [joinP_nil, List.append_nil, splitL_free p [] (h p (by simp)), List.nil_append]
    | cons q qs =>
      rw [joinP_cons, split_slash] at ih
      rw [joinP_cons, splitL_cut p _ [] (h p (by simp)), List.nil_append, (List.cons.inj ih).2]

theorem join_split : ∀ (l cur : List UInt8), joinP (splitL cur l) = 47 :: (cur ++ l)
  | [], cur => by simp [splitL, joinP]
  | b :: l, cur => by
    by_cases hb : b = 47
    · rw [splitL, if_pos hb, joinP_cons, join_split l [], hb]
      simp
    · rw [splitL, if_neg hb, join_split l (cur ++ [b])]
      simp

theorem split_ne : ∀ (l cur : List UInt8), splitL cur l ≠ []
  | [], cur => by simp [splitL]
  | b :: l, cur => by
    by_cases hb : b = 47
    · simp [splitL, hb]
    · rw [splitL, if_neg hb]; exact split_ne l _

theorem split_free : ∀ (l cur : List UInt8), Free cur → ∀ p ∈ splitL cur l, Free p
  | [], cur, hc, p, hp => by
    simp only [splitL, List.mem_singleton] at hp
    rw [hp]; exact hc
  | b :: l, cur, hc, p, hp => by
    by_cases hb : b = 47
    · rw [splitL, if_pos hb] at hp
      rcases List.mem_cons.1 hp with rfl | hp
      · exact hc
      · exact split_free l [] (fun _ h => by cases h) p hp
    · rw [splitL, if_neg hb] at hp
      refine split_free l (cur ++ [b]) (fun x hx => ?_) p hp
      rcases List.mem_append.1 hx with hx | hx
      · exact hc x hx
      · rw [List.mem_singleton.1 hx]; exact hb

theorem free_nil : Free [] := fun _ h => by cases h

theorem joinP_inj {ps qs : List (List UInt8)} (hp : ∀ p ∈ ps, Free p) (hq : ∀ p ∈ qs, Free p) (h : joinP ps = joinP qs) : ps = qs := by
  have h1 := split_join0 ps hp
  rw [h, split_join0 qs hq] at h1
  exact (List.cons.inj h1).2.symm

/-- The pieces that are not empty. -/
theorem pieces_filter (l : List UInt8) : piecesL [] l = (splitL [] l).filter fun p => decide (p ≠ []) := piecesL_eq l []

theorem pieces_free (l : List UInt8) : ∀ p ∈ piecesL [] l, Free p := fun p hp => by
  rw [pieces_filter] at hp
  exact split_free l [] free_nil p (List.mem_filter.1 hp).1
theorem pieces_ne (l : List UInt8) : ∀ p ∈ piecesL [] l, p ≠ [] := fun p hp => by
  rw [pieces_filter] at hp
  simpa using (List.mem_filter.1 hp).2

theorem pieces_join {ps : List (List UInt8)} (hf : ∀ p ∈ ps, Free p) (hn : ∀ p ∈ ps, p ≠ []) : piecesL [] (joinP ps) = ps := by
  rw [pieces_filter, split_join0 ps hf, List.filter_cons_of_neg (by simp)]
  exact List.filter_eq_self.2 fun p hp => by simpa using hn p hp

theorem pieces_slash : piecesL [] [47] = [] := rfl

/-- A name: 1 to 12 bytes, not '.' nor '..', no slash and no zero byte. -/
def nameL (p : List UInt8) : Bool := decide (p ≠ [] ∧ p.length ≤ 12 ∧ p ≠ [46] ∧ p ≠ [46, 46]) && !(p.any badByte)

theorem nameL_ne {p : List UInt8} (h : nameL p = true) : p ≠ [] := by
  rw [nameL, Bool.and_eq_true, decide_eq_true_eq] at h
  exact h.1.1
theorem nameL_len {p : List UInt8} (h : nameL p = true) : p.length ≤ 12 := by
  rw [nameL, Bool.and_eq_true, decide_eq_true_eq] at h
  exact h.1.2.1
theorem nameL_free {p : List UInt8} (h : nameL p = true) : Free p := by
  rw [nameL, Bool.and_eq_true, Bool.not_eq_true'] at h
  intro b hb e
  have := List.any_eq_false.1 h.2 b hb
  rw [e] at this
  exact this (by decide)
theorem nameL_nil : nameL [] = false := by decide

/-- A clean path: a slash, or names with a slash ahead of each. -/
def cleanL (l : List UInt8) : Bool := l == [47] || (l.head? == some 47 && (splitL [] l.tail).all nameL)

theorem clean_join {ps : List (List UInt8)} (h0 : ps ≠ []) (h : ∀ p ∈ ps, nameL p = true) : cleanL (joinP ps) = true := by
  have hs := split_join0 ps (fun p hp => nameL_free (h p hp))
  cases ps with
  | nil => exact absurd rfl h0
  | cons p ps =>
    rw [joinP_cons] at hs ⊢
    rw [split_slash] at hs
    rw [cleanL, List.head?_cons, List.tail_cons, (List.cons.inj hs).2]
    simp only [beq_self_eq_true, Bool.true_and, Bool.or_eq_true]
    exact .inr (List.all_eq_true.2 h)

theorem clean_iff (l : List UInt8) : cleanL l = true ↔ l = [47] ∨ ∃ ps, ps ≠ [] ∧ (∀ p ∈ ps, nameL p = true) ∧ l = joinP ps := by
  constructor
  · intro h
    rw [cleanL, Bool.or_eq_true, Bool.and_eq_true, beq_iff_eq, beq_iff_eq] at h
    rcases h with h | ⟨h1, h2⟩
    · exact .inl h
    · refine .inr ⟨splitL [] l.tail, split_ne _ _, List.all_eq_true.1 h2, ?_⟩
      cases l with
      | nil => cases h1
      | cons b l =>
        rw [List.head?_cons] at h1
        rw [Option.some.inj h1, List.tail_cons, join_split]
        rfl
  · rintro (rfl | ⟨ps, h0, h, rfl⟩)
    · rfl
    · exact clean_join h0 h

/-- What the reference asks: the pieces are names, and the text is made of them. -/
theorem clean_pieces (l : List UInt8) : cleanL l = ((piecesL [] l).all nameL && (l == [47] || (decide (piecesL [] l ≠ []) && l == joinP (piecesL [] l)))) := by
  rw [Bool.eq_iff_iff]
  constructor
  · intro h
    rcases (clean_iff l).1 h with rfl | ⟨ps, h0, hn, rfl⟩
    · rfl
    · have hp := pieces_join (fun p hp => nameL_free (hn p hp)) (fun p hp => nameL_ne (hn p hp))
      rw [hp]
      simp only [Bool.and_eq_true, Bool.or_eq_true, beq_self_eq_true, decide_eq_true_eq, and_true]
      exact ⟨List.all_eq_true.2 hn, .inr h0⟩
  · intro h
    rw [Bool.and_eq_true, Bool.or_eq_true, Bool.and_eq_true, decide_eq_true_eq, beq_iff_eq, beq_iff_eq] at h
    obtain ⟨h1, h2 | ⟨h2, h3⟩⟩ := h
    · rw [h2]; rfl
    · rw [h3]
      exact clean_join h2 (List.all_eq_true.1 h1)

/-- The names of a clean path. -/
theorem clean_names {l : List UInt8} (h : cleanL l = true) : ∀ p ∈ piecesL [] l, nameL p = true := by
  rw [clean_pieces, Bool.and_eq_true] at h
  exact List.all_eq_true.1 h.1

theorem clean_is {l : List UInt8} (h : cleanL l = true) (hne : l ≠ [47]) : piecesL [] l ≠ [] ∧ l = joinP (piecesL [] l) := by
  rw [clean_pieces, Bool.and_eq_true, Bool.or_eq_true, Bool.and_eq_true, decide_eq_true_eq, beq_iff_eq, beq_iff_eq] at h
  rcases h.2 with h | h
  · exact absurd h hne
  · exact h

theorem joinP_last {ps : List (List UInt8)} {n : List UInt8} (hn : Free n) (h0 : n ≠ []) : (joinP (ps ++ [n])).getLast? ≠ some 47 := by
  rw [joinP_append, joinP_single]
  intro h
  have : (joinP ps ++ 47 :: n).getLast? = n.getLast? := by
    rcases List.eq_nil_or_concat n with rfl | ⟨m, b, rfl⟩
    · exact absurd rfl h0
    · rw [List.concat_eq_append, ← List.cons_append, ← List.append_assoc, List.getLast?_concat, List.getLast?_concat]
  rw [this] at h
  exact hn 47 (List.mem_of_getLast? h) rfl

end Go.Proofs.YtnjabpgbpgocnaaDoor.PAll

-- PureB
/- What the program's path functions compute, in plain words on lists of bytes. Condition: texts shorter than 2^32 bytes. -/
namespace Go.Proofs.YtnjabpgbpgocnaaDoor.PAll
open Go Go.RowKit Go.Proofs.YtnjabpgbpgocnaaDoorW.PrintWords Go.Proofs.YtnjabpgbpgocnaaDoorW.PrintLast Go.Proofs.YtnjabpgbpgocnaaDoorW.PrintMore
set_option linter.unusedVariables false
set_option linter.unusedSimpArgs false

theorem size_len (s : ByteArray) : s.size = s.data.toList.length := by rw [Array.length_toList]; rfl
theorem ba_ext {a b : ByteArray} (h : a.data.toList = b.data.toList) : a = b := by rw [← ofL_data a, ← ofL_data b, h]
theorem ofL_list (l : List UInt8) : (ofL l).data.toList = l := by simp [ofL]
theorem ofL_size (l : List UInt8) : (ofL l).size = l.length := by rw [size_len, ofL_list]
theorem app_list (a b : ByteArray) : (a ++ b).data.toList = a.data.toList ++ b.data.toList := by simp
theorem nil_list : (⟨#[]⟩ : ByteArray).data.toList = [] := rfl
theorem slash_list : (⟨#[47]⟩ : ByteArray).data.toList = [47] := rfl
theorem extract0_list (s : ByteArray) (n : Nat) : (s.extract 0 n).data.toList = s.data.toList.take n := by rw [Lib.extract_data]; simp
theorem extract1_list (s : ByteArray) (n : Nat) : (s.extract n s.size).data.toList = s.data.toList.drop n := Lib.extract_to_end s n

theorem bt_get (s : ByteArray) (i : Nat) (h : i < s.data.toList.length) : bt s (i : Int) = ((s.data.toList[i]'h).toNat : Int) := by
  have h' : i < s.size := by rw [size_len]; exact h
  unfold bt
  rw [dif_pos (by simpa using h')]
  rfl

theorem name_eq (s : ByteArray) : path_Name.f s = some (nameL s.data.toList) := by
  have hz := size_len s
  unfold path_Name.f
  rw [Lib.toList_data]
  by_cases h0 : s.data.toList = []
  · rw [if_pos h0, h0, nameL_nil]
  rw [if_neg h0]
  by_cases h12 : s.data.toList.length ≤ 12
  · rw [if_pos (by omega)]
    by_cases h1 : s.data.toList = [46]
    · rw [if_pos h1, h1]; rfl
    rw [if_neg h1]
    by_cases h2 : s.data.toList = [46, 46]
    · rw [if_pos h2, h2]; rfl
    rw [if_neg h2, strings_ContainsAny.f, if_pos ⟨rfl, by omega⟩, Option.bind_some, nameL, decide_eq_true ⟨h0, h12, h1, h2⟩, Bool.true_and]
  · rw [if_neg (by omega), nameL, decide_eq_false (fun h => h12 h.2.1), Bool.false_and]

theorem cut_none (s : ByteArray) (h : Lib.indexByte s.data.toList 47 = -1) : strings_Cut.f s ⟨#[47]⟩ = some (s, ⟨#[]⟩, false) := by
  unfold strings_Cut.f stringslite_Cut.f stringslite_Index.f
  rw [if_pos rfl, h]
  rfl

theorem cut_some (s : ByteArray) (o : Nat) (hs : s.size < 4294967296) (h : Lib.indexByte s.data.toList 47 = o) (ho : o < s.size) :
    strings_Cut.f s ⟨#[47]⟩ = some (s.extract 0 o, s.extract (o + 1) s.size, true) := by
  unfold strings_Cut.f stringslite_Cut.f stringslite_Index.f
  have e : wrap64 ((o : Int) + (((⟨#[47]⟩ : ByteArray).size : Nat) : Int)) = ((o + 1 : Nat) : Int) := by
    have : (⟨#[47]⟩ : ByteArray).size = 1 := rfl
    rw [this]; unfold wrap64; omega
  rw [if_pos rfl, h, Option.bind_some, if_pos (by omega), if_pos (by omega), if_pos (by omega), e, if_pos (by omega), if_pos (by omega)]
  rfl

theorem index_lt {s : ByteArray} {o : Nat} (h : Lib.indexByte s.data.toList 47 = o) : o < s.size := by
  have h1 := (Lib.indexByte_some h).1
  by_cases hlt : o < s.data.toList.length
  · rw [size_len]; exact hlt
  · rw [List.getElem?_eq_none (by omega)] at h1; cases h1

theorem clean_loop : ∀ (n : Nat) (r : ByteArray) (k : Nat), r.size ≤ n → r.size < 4294967296 → 3 * n + 3 ≤ k → path_Clean.l0 k r true = some ((splitL [] r.data.toList).all nameL) := by
  intro n
  induction n using Nat.strongRecOn with
  | ind n ih =>
    intro r k hn hs hk
    obtain ⟨k, rfl⟩ : ∃ j, k = j + 3 := ⟨k - 3, by omega⟩
    rw [path_Clean.l0, if_pos rfl, path_Clean.j1, Lib.toList_data]
    by_cases h0 : r.data.toList = []
    · rw [h0]; rfl
    have hb : (r.data.toList != []) = true := by simpa using h0
    rw [hb, if_pos rfl]
    have hge := Lib.indexByte_ge r.data.toList 47
    by_cases hi : Lib.indexByte r.data.toList 47 = -1
    · rw [cut_none r hi, Option.bind_some, name_eq, Option.bind_some, splitL_index_none hi]
      cases hname : nameL r.data.toList
      · simp [path_Clean.j2, hname]
      · simp [path_Clean.j2, hname]
    · obtain ⟨o, ho⟩ : ∃ o : Nat, Lib.indexByte r.data.toList 47 = o := ⟨(Lib.indexByte r.data.toList 47).toNat, by omega⟩
      have hlt := index_lt ho
      have hsz : (r.extract (o + 1) r.size).size < r.size := by
        rw [size_len, extract1_list, List.length_drop, ← size_len]; omega
      rw [cut_some r o hs ho hlt, Option.bind_some, name_eq, Option.bind_some, splitL_index_some ho, extract0_list]
      cases hname : nameL (r.data.toList.take o)
      · simp [path_Clean.j2, hname]
      · rw [if_pos rfl, if_pos rfl, Lib.toList_data, extract1_list, path_Clean.j2, List.all_cons, hname, Bool.true_and]
        by_cases ha : r.data.toList.drop (o + 1) = []
        · rw [ha]; rfl
        · have hb2 : (r.data.toList.drop (o + 1) == []) = false := by simpa using ha
          rw [hb2, if_neg (by simp), if_pos rfl, ih (n - 1) (by omega) (r.extract (o + 1) r.size) k (by omega) (by omega) (by omega), extract1_list]

theorem cutPrefix_yes (s : ByteArray) (h : s.data.toList.head? = some 47) : strings_CutPrefix.f s ⟨#[47]⟩ = some (s.extract 1 s.size, true) := by
  have h1 : 1 ≤ s.size := by
    rw [size_len]
    cases hl : s.data.toList with
    | nil => rw [hl] at h; cases h
    | cons a l => simp
  have e1 : (⟨#[47]⟩ : ByteArray).size = 1 := rfl
  have e2 : ((s.extract 0 1).toList == (⟨#[47]⟩ : ByteArray).toList) = true := by
    have := first_of s h1
    rw [Lib.toList_data (⟨#[47]⟩ : ByteArray), slash_list, this, decide_eq_true h]
  unfold strings_CutPrefix.f stringslite_CutPrefix.f stringslite_HasPrefix.f
  rw [e1, if_pos (by omega), if_pos (by omega), if_pos (by omega)]
  simp only [Option.bind_some]
  rw [show ((1 : Nat) : Int).toNat = 1 from rfl, e2, if_pos rfl, if_pos (by omega), if_pos (by omega)]
  rfl

theorem cutPrefix_no (s : ByteArray) (h : s.data.toList.head? ≠ some 47) : strings_CutPrefix.f s ⟨#[47]⟩ = some (s, false) := by
  have e1 : (⟨#[47]⟩ : ByteArray).size = 1 := rfl
  unfold strings_CutPrefix.f stringslite_CutPrefix.f stringslite_HasPrefix.f
  rw [e1]
  by_cases h1 : 1 ≤ s.size
  · have e2 : ((s.extract 0 1).toList == (⟨#[47]⟩ : ByteArray).toList) = false := by
      have := first_of s h1
      rw [Lib.toList_data (⟨#[47]⟩ : ByteArray), slash_list, this, decide_eq_false h]
    rw [if_pos (by omega), if_pos (by omega), if_pos (by omega)]
    simp only [Option.bind_some]
    rw [show ((1 : Nat) : Int).toNat = 1 from rfl, e2]
    rfl
  · rw [if_neg (by omega)]
    rfl

theorem pathClean_eq (s : ByteArray) (k : Nat) (hs : s.size < 4294967296) (hk : 3 * s.size + 3 ≤ k) : path_Clean.f k s = some (cleanL s.data.toList) := by
  unfold path_Clean.f
  rw [Lib.toList_data]
  by_cases h1 : s.data.toList = [47]
  · rw [if_pos h1, h1]; rfl
  rw [if_neg h1]
  have hb : (s.data.toList == [47]) = false := by simpa using h1
  by_cases h2 : s.data.toList.head? = some 47
  · have hz : (s.extract 1 s.size).size ≤ s.size := by rw [size_len, extract1_list, List.length_drop, ← size_len]; omega
    rw [cutPrefix_yes s h2, Option.bind_some, clean_loop s.size _ k hz (by omega) hk, cleanL, hb, Bool.false_or, h2, extract1_list, List.drop_one]
    simp
  · obtain ⟨k, rfl⟩ : ∃ j, k = j + 2 := ⟨k - 2, by omega⟩
    have h3 : (s.data.toList.head? == some 47) = false := by simpa using h2
    rw [cutPrefix_no s h2, Option.bind_some, path_Clean.l0, if_neg (by simp), path_Clean.j1, if_neg (by simp), cleanL, hb, h3]
    rfl

/-- A slash is put between only where the first does not end with one. -/
def joinL (a b : List UInt8) : List UInt8 := if a.getLast? = some 47 then a ++ b else a ++ 47 :: b

theorem hasSuffix_eq (s : ByteArray) (hs : s.size < 4294967296) : strings_HasSuffix.f s ⟨#[47]⟩ = some (decide (s.data.toList.getLast? = some 47)) := by
  have e1 : (⟨#[47]⟩ : ByteArray).size = 1 := rfl
  unfold strings_HasSuffix.f stringslite_HasSuffix.f
  rw [e1]
  by_cases h1 : 1 ≤ s.size
  · have e : wrap64 ((s.size : Int) - ((1 : Nat) : Int)) = ((s.size - 1 : Nat) : Int) := by unfold wrap64; omega
    rw [if_pos (by omega), e, if_pos (by omega), if_pos (by omega), Option.bind_some, Int.toNat_natCast, Lib.toList_data (⟨#[47]⟩ : ByteArray), slash_list, last_of]
  · have hl : s.data.toList = [] := List.length_eq_zero_iff.1 (by rw [← size_len]; omega)
    rw [if_neg (by omega), hl]
    rfl

theorem pathJoin_eq (a b : ByteArray) (ha : a.size < 4294967296) (hb : b.size < 4294967296) : path_Join.f a b = some (ofL (joinL a.data.toList b.data.toList)) := by
  have e1 : (⟨#[47]⟩ : ByteArray).size = 1 := rfl
  unfold path_Join.f
  rw [hasSuffix_eq a ha, Option.bind_some, joinL]
  by_cases h : a.data.toList.getLast? = some 47
  · rw [if_pos (decide_eq_true h), if_pos (by omega), if_pos h]
    exact congrArg some (ba_ext (by rw [app_list, ofL_list]))
  · rw [if_neg (by simpa using h), if_pos (by omega), if_pos (by rw [ByteArray.size_append, e1]; omega), if_neg h]
    exact congrArg some (ba_ext (by rw [app_list, app_list, ofL_list, slash_list]; simp))

end Go.Proofs.YtnjabpgbpgocnaaDoor.PAll

-- PureC
/- path.Parent, path.Under and path.Split in plain words on lists of bytes. Condition: texts shorter than 2^32 bytes. -/
namespace Go.Proofs.YtnjabpgbpgocnaaDoor.PAll
open Go Go.RowKit Go.Proofs.YtnjabpgbpgocnaaDoorW.PrintWords Go.Proofs.YtnjabpgbpgocnaaDoorW.PrintLast Go.Proofs.YtnjabpgbpgocnaaDoorW.PrintMore
set_option linter.unusedVariables false
set_option linter.unusedSimpArgs false

theorem split_eq (s : ByteArray) (hs : s.size < 4294967296) : path_Split.f s = some (piecesOf s, firstSlash s, lastSlash s) := by
  unfold path_Split.f
  rw [if_pos hs]

theorem last_loop (s : ByteArray) (a n : List UInt8) (hl : s.data.toList = a ++ 47 :: n) (hf : Free n) (hs : s.size < 4294967296) :
    ∀ (d k : Nat), a.length + d < s.size → d + 1 ≤ k → bytealg_LastIndexByteString.l0 k s 47 ((a.length + d : Nat) : Int) = some ((a.length : Nat) : Int) := by
  intro d
  induction d with
  | zero =>
    intro k hi hk
    obtain ⟨k, rfl⟩ : ∃ j, k = j + 1 := ⟨k - 1, by omega⟩
    have hlt : a.length + 0 < s.data.toList.length := by rw [← size_len]; exact hi
    have hb : bt s ((a.length + 0 : Nat) : Int) = 47 := by
      rw [bt_get s _ hlt]
      have : s.data.toList[a.length + 0]'hlt = 47 := by
        simp only [hl, Nat.add_zero]
        rw [List.getElem_append_right (Nat.le_refl _)]
        simp
      rw [this]; rfl
    rw [bytealg_LastIndexByteString.l0, if_pos (by omega), if_pos (by omega), if_pos (by omega), if_pos hb]
    rfl
  | succ d ih =>
    intro k hi hk
    obtain ⟨k, rfl⟩ : ∃ j, k = j + 1 := ⟨k - 1, by omega⟩
    have hlt : a.length + (d + 1) < s.data.toList.length := by rw [← size_len]; exact hi
    have hb : bt s ((a.length + (d + 1) : Nat) : Int) ≠ 47 := by
      rw [bt_get s _ hlt]
      have hd : d < n.length := by rw [hl] at hlt; simp at hlt; omega
      have : s.data.toList[a.length + (d + 1)]'hlt = n[d]'hd := by
        simp only [hl]
        rw [List.getElem_append_right (by omega)]
        simp
      rw [this]
      intro e
      refine hf _ (List.getElem_mem hd) ?_
      rw [← UInt8.toNat_inj]
      exact Int.ofNat.inj e
    have e : wrap64 (((a.length + (d + 1) : Nat) : Int) - 1) = ((a.length + d : Nat) : Int) := by unfold wrap64; omega
    rw [bytealg_LastIndexByteString.l0, if_pos (by omega), if_pos (by omega), if_pos (by omega), if_neg hb, e, ih k (by omega) (by omega)]

theorem lastIndex_eq (s : ByteArray) (a n : List UInt8) (hl : s.data.toList = a ++ 47 :: n) (hf : Free n) (hs : s.size < 4294967296) (k : Nat) (hk : s.size ≤ k) :
    strings_LastIndex.f k s ⟨#[47]⟩ = some ((a.length : Nat) : Int) := by
  have e1 : (⟨#[47]⟩ : ByteArray).size = 1 := rfl
  have hz : s.size = a.length + n.length + 1 := by rw [size_len, hl]; simp; omega
  have e2 : bt ⟨#[47]⟩ 0 = 47 := rfl
  have e : wrap64 ((s.size : Int) - 1) = ((a.length + n.length : Nat) : Int) := by unfold wrap64; omega
  unfold strings_LastIndex.f bytealg_LastIndexByteString.f
  rw [e1, if_neg (by omega), if_pos (by omega), if_pos (by omega), e2, e, last_loop s a n hl hf hs n.length k (by omega) (by omega)]
  rfl

/-- The directory and the last name of a clean path that is not the root. -/
def parentL (l : List UInt8) : List UInt8 × List UInt8 × Bool :=
  if cleanL l = true ∧ l ≠ [47] then (if (piecesL [] l).dropLast = [] then [47] else joinP (piecesL [] l).dropLast, (piecesL [] l).getLast?.getD [], true) else ([], [], false)

theorem parentL_no {l : List UInt8} (h : ¬ (cleanL l = true ∧ l ≠ [47])) : parentL l = ([], [], false) := by rw [parentL, if_neg h]
theorem parentL_join {qs : List (List UInt8)} {n : List UInt8} (h : ∀ p ∈ qs ++ [n], nameL p = true) :
    parentL (joinP (qs ++ [n])) = (if qs = [] then [47] else joinP qs, n, true) := by
  have hc := clean_join (ps := qs ++ [n]) (by simp) h
  have hp := pieces_join (ps := qs ++ [n]) (fun p hp => nameL_free (h p hp)) (fun p hp => nameL_ne (h p hp))
  have hne : joinP (qs ++ [n]) ≠ [47] := by
    intro e
    have := pieces_slash
    rw [← e, hp] at this
    simp at this
  rw [parentL, if_pos ⟨hc, hne⟩, hp, List.dropLast_concat, List.getLast?_concat]
  rfl

/-- A clean path that is not the root: the names ahead of the last, and the last. -/
theorem clean_snoc {l : List UInt8} (h : cleanL l = true) (hne : l ≠ [47]) : ∃ qs n, (∀ p ∈ qs ++ [n], nameL p = true) ∧ l = joinP (qs ++ [n]) := by
  obtain ⟨h1, h2⟩ := clean_is h hne
  have h3 := clean_names h
  rcases List.eq_nil_or_concat (piecesL [] l) with e | ⟨qs, n, e⟩
  · exact absurd e h1
  · rw [List.concat_eq_append] at e
    rw [e] at h2 h3
    exact ⟨qs, n, h3, h2⟩

theorem pathParent_eq (s : ByteArray) (k : Nat) (hs : s.size < 4294967296) (hk : 3 * s.size + 3 ≤ k) :
    path_Parent.f k s = some (ofL (parentL s.data.toList).1, ofL (parentL s.data.toList).2.1, (parentL s.data.toList).2.2) := by
  unfold path_Parent.f
  rw [Lib.toList_data]
  by_cases h1 : s.data.toList = [47]
  · rw [if_pos h1, parentL_no (fun h => h.2 h1)]; rfl
  rw [if_neg h1, pathClean_eq s k hs hk, Option.bind_some]
  by_cases hc : cleanL s.data.toList = true
  · obtain ⟨qs, n, hn, hl⟩ := clean_snoc hc h1
    have hl' : s.data.toList = joinP qs ++ 47 :: n := by rw [hl, joinP_append, joinP_single]
    have hfn : Free n := nameL_free (hn n (by simp))
    have hz : s.size = (joinP qs).length + n.length + 1 := by rw [size_len, hl']; simp; omega
    rw [if_pos hc, lastIndex_eq s _ n hl' hfn hs k (by omega), Option.bind_some]
    have e2 : wrap64 (((joinP qs).length : Int) + 1) = (((joinP qs).length + 1 : Nat) : Int) := by unfold wrap64; omega
    have e3 : mx ((joinP qs).length : Int) 1 = ((if qs = [] then 1 else (joinP qs).length : Nat) : Int) := by
      unfold mx
      cases qs with
      | nil => rfl
      | cons q qs =>
        have hq : 1 ≤ (joinP (q :: qs)).length := by rw [joinP_cons]; simp
        rw [if_neg (by omega), if_neg (by simp)]
    have hle : (if qs = [] then 1 else (joinP qs).length : Nat) ≤ s.size := by split <;> omega
    have hpar : parentL s.data.toList = (if qs = [] then [47] else joinP qs, n, true) := by rw [hl]; exact parentL_join hn
    rw [e3, e2, if_pos (by omega), if_pos (by omega), if_pos (by omega), if_pos (by omega), hpar]
    refine congrArg some (Prod.ext ?_ (Prod.ext ?_ rfl))
    · refine ba_ext ?_
      rw [ofL_list, Int.toNat_natCast, extract0_list, hl']
      show List.take _ _ = if qs = [] then [47] else joinP qs
      cases qs with
      | nil => rfl
      | cons q qs => rw [if_neg (by simp), if_neg (by simp), List.take_left]
    · refine ba_ext ?_
      rw [ofL_list, Int.toNat_natCast, extract1_list, hl']
      show List.drop _ _ = n
      rw [show joinP qs ++ 47 :: n = (joinP qs ++ [47]) ++ n by simp]
      exact List.drop_left' (by simp)
  · rw [if_neg hc, parentL_no (fun h => hc h.1)]; rfl

/-- The names of the second begin with those of the first. -/
def underL (a b : List UInt8) : Bool := cleanL a && cleanL b && (piecesL [] a).isPrefixOf (piecesL [] b)

theorem hasPrefix_eq (s t : ByteArray) : strings_HasPrefix.f s t = some (t.data.toList.isPrefixOf s.data.toList) := by
  unfold strings_HasPrefix.f stringslite_HasPrefix.f
  have hs := size_len s
  have ht := size_len t
  have key : ((s.extract 0 t.size).toList == t.toList) = true ↔ t.data.toList <+: s.data.toList := by
    rw [beq_iff_eq, Lib.toList_data, Lib.toList_data, extract0_list, ht, List.prefix_iff_eq_take]
    exact eq_comm
  by_cases h : t.size ≤ s.size
  · rw [if_pos (by omega), if_pos (by omega), if_pos (by omega), Int.toNat_natCast]
    refine congrArg some ?_
    rw [Bool.eq_iff_iff, key, List.isPrefixOf_iff_prefix]
  · rw [if_neg (by omega)]
    refine congrArg some ?_
    symm
    rw [Bool.eq_false_iff, ne_eq, List.isPrefixOf_iff_prefix]
    intro hp
    have := hp.length_le
    omega

theorem joinP_ne_slash {ps : List (List UInt8)} (hn : ∀ p ∈ ps, nameL p = true) (h0 : ps ≠ []) : joinP ps ≠ [47] := by
  intro e
  have hp := pieces_join (fun p hp => nameL_free (hn p hp)) (fun p hp => nameL_ne (hn p hp))
  rw [e, pieces_slash] at hp
  exact h0 hp.symm

theorem joinL_clean {ps : List (List UInt8)} (hn : ∀ p ∈ ps, nameL p = true) (h0 : ps ≠ []) (b : List UInt8) : joinL (joinP ps) b = joinP ps ++ 47 :: b := by
  rcases List.eq_nil_or_concat ps with e | ⟨qs, n, e⟩
  · exact absurd e h0
  · rw [List.concat_eq_append] at e
    have hnn := hn n (by rw [e]; simp)
    rw [joinL, if_neg (by rw [e]; exact joinP_last (nameL_free hnn) (nameL_ne hnn))]

theorem under_plain {a b : List UInt8} (ha : cleanL a = true) (hb : cleanL b = true) : (a = b ∨ joinL a [] <+: b) ↔ piecesL [] a <+: piecesL [] b := by
  rcases (clean_iff a).1 ha with rfl | ⟨ps, h0, hn, rfl⟩
  · rw [pieces_slash]
    refine ⟨fun _ => List.nil_prefix, fun _ => .inr ?_⟩
    have e : joinL [47] [] = [47] := rfl
    rw [e]
    rcases (clean_iff b).1 hb with rfl | ⟨qs, k0, kn, rfl⟩
    · exact List.prefix_refl _
    · cases qs with
      | nil => exact absurd rfl k0
      | cons q qs => rw [joinP_cons]; exact ⟨_, rfl⟩
  · have hf : ∀ p ∈ ps, Free p := fun p hp => nameL_free (hn p hp)
    have he : ∀ p ∈ ps, p ≠ [] := fun p hp => nameL_ne (hn p hp)
    rw [joinL_clean hn h0, pieces_join hf he]
    rcases (clean_iff b).1 hb with rfl | ⟨qs, k0, kn, rfl⟩
    · rw [pieces_slash]
      constructor
      · rintro (e | hp)
        · exact absurd e (joinP_ne_slash hn h0)
        · have := hp.length_le
          have h1 : 1 ≤ (joinP ps).length := by
            cases ps with
            | nil => exact absurd rfl h0
            | cons q qs => rw [joinP_cons]; simp
          simp only [List.length_append, List.length_singleton] at this
          omega
      · intro hp
        exact absurd (List.prefix_nil.1 hp) h0
    · have kf : ∀ p ∈ qs, Free p := fun p hp => nameL_free (kn p hp)
      have ke : ∀ p ∈ qs, p ≠ [] := fun p hp => nameL_ne (kn p hp)
      rw [pieces_join kf ke]
      constructor
      · rintro (e | ⟨t, ht⟩)
        · rw [joinP_inj hf kf e]
          exact List.prefix_refl _
        · have h1 := split_join0 qs kf
          rw [← ht, List.append_assoc, List.singleton_append, split_join ps t hf] at h1
          exact ⟨_, (List.cons.inj h1).2⟩
      · rintro ⟨r, rfl⟩
        cases r with
        | nil => rw [List.append_nil]; exact .inl rfl
        | cons q r => exact .inr ⟨q ++ joinP r, by rw [joinP_append, joinP_cons]; simp⟩

theorem pathUnder_eq (a b : ByteArray) (k : Nat) (ha : a.size < 4294967296) (hb : b.size < 4294967296) (hka : 3 * a.size + 3 ≤ k) (hkb : 3 * b.size + 3 ≤ k) :
    path_Under.f k a b = some (underL a.data.toList b.data.toList) := by
  unfold path_Under.f
  rw [pathClean_eq a k ha hka, Option.bind_some, underL]
  by_cases hca : cleanL a.data.toList = true
  · rw [if_pos hca, pathClean_eq b k hb hkb, Option.bind_some]
    by_cases hcb : cleanL b.data.toList = true
    · have key := under_plain hca hcb
      rw [if_pos hcb, hca, hcb, Lib.toList_data, Lib.toList_data, Bool.true_and, Bool.true_and]
      by_cases e : a.data.toList = b.data.toList
      · rw [if_pos e]
        refine congrArg some ?_
        symm
        rw [List.isPrefixOf_iff_prefix]
        exact key.1 (.inl e)
      · rw [if_neg e, pathJoin_eq a ⟨#[]⟩ ha (by decide), Option.bind_some, hasPrefix_eq, Option.bind_some, ofL_list, nil_list]
        refine congrArg some ?_
        rw [Bool.eq_iff_iff, List.isPrefixOf_iff_prefix, List.isPrefixOf_iff_prefix]
        exact ⟨fun h => key.1 (.inr h), fun h => (key.2 h).resolve_left e⟩
    · rw [if_neg hcb, Bool.eq_false_iff.2 hcb, Bool.and_false, Bool.false_and]
  · rw [if_neg hca, Bool.eq_false_iff.2 hca, Bool.false_and, Bool.false_and]

end Go.Proofs.YtnjabpgbpgocnaaDoor.PAll

-- PAllx47
namespace Go.Proofs.YtnjabpgbpgocnaaDoor.PAll
open Go.RowKit Go.Proofs.YtnjabpgbpgocnaaDoorW.PrintWords Go.Proofs.YtnjabpgbpgocnaaDoorW.PrintLast Go.Proofs.YtnjabpgbpgocnaaDoorW.PrintMore
attribute [local go_sem] max2_int min2_int max_two min_two max_three min_three max_four min_four   -- for this text's walks alone
set_option linter.unusedVariables false
set_option linter.unusedSimpArgs false

/-! ### kauditref04_Parent: function 33 -/
mutual
def kauditref04_Parent.j0 : Nat → ByteArray → Bool → Option (ByteArray × ByteArray × Bool)
  | 0, _, _ => none
  | k + 1, x0, x16 => if x16 = true then (some ((⟨#[]⟩ : ByteArray), (⟨#[]⟩ : ByteArray), false)) else ((kauditref04_Split.f k x0).bind fun bt197 => (kauditref04_Parent.l0 k bt197.1 (⟨#[47]⟩ : ByteArray) 0))
def kauditref04_Parent.l0 : Nat → List ByteArray → ByteArray → Int → Option (ByteArray × ByteArray × Bool)
  | 0, _, _, _ => none
  | k + 1, x5, x8, x9 => if (wrap64 (x9 + 1)) < (x5.length : Int) then (if 0 ≤ x9 then (if x9 < (x5.length : Int) then ((kauditref04_Join.f x8 (rdOf ByteArray.empty x5 x9)).bind fun t203 => (kauditref04_Parent.l0 k x5 t203 (wrap64 (x9 + 1)))) else (none)) else (none)) else (if 0 ≤ (wrap64 ((x5.length : Int) - 1)) then (if (wrap64 ((x5.length : Int) - 1)) < (x5.length : Int) then (some (x8, rdOf ByteArray.empty x5 (wrap64 ((x5.length : Int) - 1)), true)) else (none)) else (none))
end
def kauditref04_Parent.f (k : Nat) (a0 : ByteArray) : Option (ByteArray × ByteArray × Bool) := (kauditref04_Clean.f k a0).bind fun t196 => (if t196 = true then (kauditref04_Parent.j0 k a0 (a0.toList == ([47] : List UInt8))) else (kauditref04_Parent.j0 k a0 true))
theorem kauditref04_Parent.mono_l : ∀ k, (∀ y0 y1, LeO (kauditref04_Parent.j0 k y0 y1) (kauditref04_Parent.j0 (k + 1) y0 y1)) ∧ (∀ y0 y1 y2, LeO (kauditref04_Parent.l0 k y0 y1 y2) (kauditref04_Parent.l0 (k + 1) y0 y1 y2))
  | 0 => ⟨fun _ _ r h => by simp [kauditref04_Parent.j0] at h, fun _ _ _ r h => by simp [kauditref04_Parent.l0] at h⟩
  | k + 1 => by
    obtain ⟨ih0, ih1⟩ := kauditref04_Parent.mono_l k
    refine ⟨?_, ?_⟩
    · intro y0 y1
      unfold kauditref04_Parent.j0
      repeat' first
      | (with_reducible exact ih0 _ _)
      | (with_reducible exact ih1 _ _ _)
      | (with_reducible exact kauditref04_Clean.mono _ _)
      | (with_reducible exact kauditref04_Split.mono _ _)
      | (with_reducible exact LeO.refl _)
      | (with_reducible exact LeO.none _)
      | (with_reducible refine LeO.ite ?_ ?_)
      | (with_reducible refine LeO.bind ?_ (fun _ => ?_))
      | exact ih0 _ _
      | exact ih1 _ _ _
      | exact kauditref04_Clean.mono _ _
      | exact kauditref04_Split.mono _ _
      | exact LeO.none _
      | refine LeO.ite ?_ ?_
      | refine LeO.bind ?_ (fun _ => ?_)
    · intro y0 y1 y2
      unfold kauditref04_Parent.l0
      repeat' first
      | (with_reducible exact ih0 _ _)
      | (with_reducible exact ih1 _ _ _)
      | (with_reducible exact kauditref04_Clean.mono _ _)
      | (with_reducible exact kauditref04_Split.mono _ _)
      | (with_reducible exact LeO.refl _)
      | (with_reducible exact LeO.none _)
      | (with_reducible refine LeO.ite ?_ ?_)
      | (with_reducible refine LeO.bind ?_ (fun _ => ?_))
      | exact ih0 _ _
      | exact ih1 _ _ _
      | exact kauditref04_Clean.mono _ _
      | exact kauditref04_Split.mono _ _
      | exact LeO.none _
      | refine LeO.ite ?_ ?_
      | refine LeO.bind ?_ (fun _ => ?_)
theorem kauditref04_Parent.mono : ∀ a0 k, LeO (kauditref04_Parent.f k a0) (kauditref04_Parent.f (k + 1) a0) := by
  intro a0 k
  obtain ⟨ih0, ih1⟩ := kauditref04_Parent.mono_l k
  unfold kauditref04_Parent.f
  repeat' first
      | (with_reducible exact ih0 _ _)
      | (with_reducible exact ih1 _ _ _)
      | (with_reducible exact kauditref04_Clean.mono _ _)
      | (with_reducible exact kauditref04_Split.mono _ _)
      | (with_reducible exact LeO.refl _)
      | (with_reducible exact LeO.none _)
      | (with_reducible refine LeO.ite ?_ ?_)
      | (with_reducible refine LeO.bind ?_ (fun _ => ?_))
      | exact ih0 _ _
      | exact ih1 _ _ _
      | exact kauditref04_Clean.mono _ _
      | exact kauditref04_Split.mono _ _
      | exact LeO.none _
      | refine LeO.ite ?_ ?_
      | refine LeO.bind ?_ (fun _ => ?_)
set_option maxHeartbeats 8000000 in
set_option maxRecDepth 100000 in
theorem kauditref04_Parent.calls (k : Nat) (a0 : ByteArray) (r1 : ByteArray) (r2 : ByteArray) (r3 : Bool) (w : World) (h : kauditref04_Parent.f k a0 = some (r1, r2, r3)) :
    Calls Tryd.prog 33 #[.string a0] w fun e w' => e = .returned (.tuple #[.string r1, .string r2, .bool r3]) ∧ Below w.heap.size w w' := by
  have HB := Aside0.mk (Below.refl w.heap.size w)
  have H : ((kauditref04_Clean.f k a0).bind fun t196 => (if t196 = true then (kauditref04_Parent.j0 k a0 (a0.toList == ([47] : List UInt8))) else (kauditref04_Parent.j0 k a0 true))) = some (r1, r2, r3) := h
  clear h
  have HC2 := Aside0.mk H
  clear H
  go_enter Tryd.func33, Tryd.ntmps33
  go_upto_region 1 with (fail)
  repeat (go_quiet (fail); go_upto_region 1 with (fail))
  go_cut [16] (fun v16 wc => ∃ (kq : Nat) (x16_1 : Bool), v16 = .bool x16_1 ∧ Aside0 (kauditref04_Parent.j0 kq a0 x16_1 = some (r1, r2, r3)) ∧ Aside0 (kq ≤ k) ∧ Aside0 (Below w.heap.size w wc))
  case first =>
    have H := HC2.out
    clear HC2
    replace H := Option.bind_eq_some_iff.mp H
    obtain ⟨t196, A30, H⟩ := H
    replace H : (if t196 = true then (kauditref04_Parent.j0 k a0 (a0.toList == ([47] : List UInt8))) else (kauditref04_Parent.j0 k a0 true)) = some (r1, r2, r3) := H
    have A3 := Aside0.mk A30
    clear A30
    by_cases c4 : t196 = true
    · subst c4
      have H1 : (kauditref04_Parent.j0 k a0 (a0.toList == ([47] : List UInt8))) = some (r1, r2, r3) := by rw [if_pos rfl] at H; exact H
      clear H
      have H := H1
      clear H1
      have H' := Aside0.mk H
      clear H
      go_wp2_with (first | (go_at_call 35; (with_reducible refine (kauditref04_Clean.calls k a0 true _ A3.out).mono ?_); rintro e w5 ⟨rfl, hb⟩; have n0_ := Aside0.mk (below_step (by repeat (first | (with_reducible first | exact HB.out | apply below_alloc | apply pw_below_drewN | apply below_drew1) | exact HB.out)) hb); clear HB; have HB := n0_; clear n0_; (try clear hb); (try clear hb2); (try clear hk); (try clear hi)))
      repeat (go_quiet (first | (go_at_call 35; (with_reducible refine (kauditref04_Clean.calls k a0 true _ A3.out).mono ?_); rintro e w5 ⟨rfl, hb⟩; have n0_ := Aside0.mk (below_step (by repeat (first | (with_reducible first | exact HB.out | apply below_alloc | apply pw_below_drewN | apply below_drew1) | exact HB.out)) hb); clear HB; have HB := n0_; clear n0_; (try clear hb); (try clear hb2); (try clear hk); (try clear hi))); try go_wp2_with (first | (go_at_call 35; (with_reducible refine (kauditref04_Clean.calls k a0 true _ A3.out).mono ?_); rintro e w5 ⟨rfl, hb⟩; have n0_ := Aside0.mk (below_step (by repeat (first | (with_reducible first | exact HB.out | apply below_alloc | apply pw_below_drewN | apply below_drew1) | exact HB.out)) hb); clear HB; have HB := n0_; clear n0_; (try clear hb); (try clear hb2); (try clear hk); (try clear hi))))
      go_meet
      case rel => exact ⟨_, ((a0.toList == ([47] : List UInt8))), (by first | rfl | (simp; done) | (simp [*]; done)), H', ⟨by first | omega | exact Nat.le_refl _⟩, ⟨by repeat (first | (with_reducible first | exact HB.out | apply below_alloc | apply pw_below_drewN | apply below_drew1) | exact HB.out)⟩⟩
    · replace c4 := Bool.eq_false_iff.mpr c4
      subst c4
      have H1 : (kauditref04_Parent.j0 k a0 true) = some (r1, r2, r3) := by rw [if_neg (show ¬ (false = true) by decide)] at H; exact H
      clear H
      have H := H1
      clear H1
      have H' := Aside0.mk H
      clear H
      go_wp2_with (first | (go_at_call 35; (with_reducible refine (kauditref04_Clean.calls k a0 false _ A3.out).mono ?_); rintro e w6 ⟨rfl, hb⟩; have n0_ := Aside0.mk (below_step (by repeat (first | (with_reducible first | exact HB.out | apply below_alloc | apply pw_below_drewN | apply below_drew1) | exact HB.out)) hb); clear HB; have HB := n0_; clear n0_; (try clear hb); (try clear hb2); (try clear hk); (try clear hi)))
      repeat (go_quiet (first | (go_at_call 35; (with_reducible refine (kauditref04_Clean.calls k a0 false _ A3.out).mono ?_); rintro e w6 ⟨rfl, hb⟩; have n0_ := Aside0.mk (below_step (by repeat (first | (with_reducible first | exact HB.out | apply below_alloc | apply pw_below_drewN | apply below_drew1) | exact HB.out)) hb); clear HB; have HB := n0_; clear n0_; (try clear hb); (try clear hb2); (try clear hk); (try clear hi))); try go_wp2_with (first | (go_at_call 35; (with_reducible refine (kauditref04_Clean.calls k a0 false _ A3.out).mono ?_); rintro e w6 ⟨rfl, hb⟩; have n0_ := Aside0.mk (below_step (by repeat (first | (with_reducible first | exact HB.out | apply below_alloc | apply pw_below_drewN | apply below_drew1) | exact HB.out)) hb); clear HB; have HB := n0_; clear n0_; (try clear hb); (try clear hb2); (try clear hk); (try clear hi))))
      go_meet
      case rel => exact ⟨_, (true), (by first | rfl | (simp; done) | (simp [*]; done)), H', ⟨by first | omega | exact Nat.le_refl _⟩, ⟨by repeat (first | (with_reducible first | exact HB.out | apply below_alloc | apply pw_below_drewN | apply below_drew1) | exact HB.out)⟩⟩
  case rest =>
    clear HC2
    try clear p2
    try clear c3
    try clear c4
    obtain ⟨kq, x16_1, rfl, HA, HJ1, HB⟩ := hcut
    cases kq with
    | zero => exact absurd HA.out (by simp [kauditref04_Parent.j0])
    | succ kj1 =>
      have H := HA.out
      clear HA
      simp only [kauditref04_Parent.j0] at H
      by_cases c7 : x16_1 = true
      · subst c7
        have H1 : (some ((⟨#[]⟩ : ByteArray), (⟨#[]⟩ : ByteArray), false)) = some (r1, r2, r3) := by rw [if_pos rfl] at H; exact H
        clear H
        have H := H1
        clear H1
        simp only [Option.some.injEq, Prod.mk.injEq] at H
        obtain ⟨rfl, rfl, rfl⟩ := H
        go_wp2
        repeat (go_quiet (fail); try go_wp2)
        go_ret3
        exact ⟨by first | rfl | (simp [errW_none, errW_some] <;> rfl) | (simp [*, errW_none, errW_some] <;> rfl), by repeat (first | (with_reducible first | exact HB.out | apply below_alloc | apply pw_below_drewN | apply below_drew1) | exact HB.out)⟩
      · replace c7 := Bool.eq_false_iff.mpr c7
        subst c7
        have H1 : ((kauditref04_Split.f kj1 a0).bind fun bt197 => (kauditref04_Parent.l0 kj1 bt197.1 (⟨#[47]⟩ : ByteArray) 0)) = some (r1, r2, r3) := by rw [if_neg (show ¬ (false = true) by decide)] at H; exact H
        clear H
        have H := H1
        clear H1
        replace H := Option.bind_eq_some_iff.mp H
        obtain ⟨⟨t197, t198, t199⟩, A80, H⟩ := H
        replace H : (kauditref04_Parent.l0 kj1 t197 (⟨#[47]⟩ : ByteArray) 0) = some (r1, r2, r3) := H
        have A8 := Aside0.mk A80
        clear A80
        have H' := Aside0.mk H
        clear H
        go_wp2_with (first | (go_at_call 32; (with_reducible refine (kauditref04_Split.calls kj1 a0 t197 t198 t199 _ A8.out).mono ?_); rintro e w9 ⟨v200, rfl, ho0, hb⟩; have n0_ := Aside0.mk (Kd.R_lower ho0 (below_size (by repeat (first | (with_reducible first | exact HB.out | apply below_alloc | apply pw_below_drewN | apply below_drew1) | exact HB.out)))); have n1_ := Aside0.mk (below_step (by repeat (first | (with_reducible first | exact HB.out | apply below_alloc | apply pw_below_drewN | apply below_drew1) | exact HB.out)) hb); clear HB; have HO201 := n0_; have HB := n1_; clear n0_ n1_; (try clear hb); (try clear hb2); (try clear hk); (try clear hi); (try clear ho0)))
        repeat (go_quiet (first | (go_at_call 32; (with_reducible refine (kauditref04_Split.calls kj1 a0 t197 t198 t199 _ A8.out).mono ?_); rintro e w9 ⟨v200, rfl, ho0, hb⟩; have n0_ := Aside0.mk (Kd.R_lower ho0 (below_size (by repeat (first | (with_reducible first | exact HB.out | apply below_alloc | apply pw_below_drewN | apply below_drew1) | exact HB.out)))); have n1_ := Aside0.mk (below_step (by repeat (first | (with_reducible first | exact HB.out | apply below_alloc | apply pw_below_drewN | apply below_drew1) | exact HB.out)) hb); clear HB; have HO201 := n0_; have HB := n1_; clear n0_ n1_; (try clear hb); (try clear hb2); (try clear hk); (try clear hi); (try clear ho0))); try go_wp2_with (first | (go_at_call 32; (with_reducible refine (kauditref04_Split.calls kj1 a0 t197 t198 t199 _ A8.out).mono ?_); rintro e w9 ⟨v200, rfl, ho0, hb⟩; have n0_ := Aside0.mk (Kd.R_lower ho0 (below_size (by repeat (first | (with_reducible first | exact HB.out | apply below_alloc | apply pw_below_drewN | apply below_drew1) | exact HB.out)))); have n1_ := Aside0.mk (below_step (by repeat (first | (with_reducible first | exact HB.out | apply below_alloc | apply pw_below_drewN | apply below_drew1) | exact HB.out)) hb); clear HB; have HO201 := n0_; have HB := n1_; clear n0_ n1_; (try clear hb); (try clear hb2); (try clear hk); (try clear hi); (try clear ho0))))
        (first | go_loopg [8, 9] kj1 (fun kq v8 v9 w' => ∃ (x8_2 : ByteArray) (x9_2 : Int), v8 = .string x8_2 ∧ v9 = .int .i64 x9_2 ∧ Aside0 (kauditref04_Parent.l0 kq t197 x8_2 x9_2 = some (r1, r2, r3)) ∧ Aside0 (kq ≤ kj1) ∧ Aside0 (Kd.R Kd.string 9 w' w.heap.size (fun _ => True) v200 t197) ∧ Aside0 (Below w.heap.size w w')) | (go_simp; go_loopg [8, 9] kj1 (fun kq v8 v9 w' => ∃ (x8_2 : ByteArray) (x9_2 : Int), v8 = .string x8_2 ∧ v9 = .int .i64 x9_2 ∧ Aside0 (kauditref04_Parent.l0 kq t197 x8_2 x9_2 = some (r1, r2, r3)) ∧ Aside0 (kq ≤ kj1) ∧ Aside0 (Kd.R Kd.string 9 w' w.heap.size (fun _ => True) v200 t197) ∧ Aside0 (Below w.heap.size w w'))))
        case atStart => exact ⟨((⟨#[47]⟩ : ByteArray)), (0), (by first | rfl | (simp; done) | (simp [*]; done)), (by first | rfl | (simp; done) | (simp [*]; done)), H', ⟨Nat.le_refl _⟩, ⟨by (with_reducible repeat (first | apply Kd.R_alloc | apply Kd.R_drewN | apply Kd.R_drew)); exact HO201.out⟩, ⟨by repeat (first | (with_reducible first | exact HB.out | apply below_alloc | apply pw_below_drewN | apply below_drew1) | exact HB.out)⟩⟩
        case round =>
          clear H'
          try clear p2
          try clear c3
          try clear c4
          try clear c7
          try clear p2
          obtain ⟨x8_2, x9_2, rfl, rfl, HA, HK2, HO_5, HB⟩ := hrel
          cases gk with
          | zero => exact absurd HA.out (by simp [kauditref04_Parent.l0])
          | succ k2 =>
            have H := HA.out
            clear HA
            simp only [kauditref04_Parent.l0] at H
            by_cases c10 : (wrap64 (x9_2 + 1)) < (t197.length : Int)
            · rw [if_pos c10] at H
              have c10b0 : decide ((wrap64 (x9_2 + 1)) < (t197.length : Int)) = true := decide_eq_true c10
              clear c10
              by_cases c11 : 0 ≤ x9_2
              · rw [if_pos c11] at H
                have c11b0 : decide (0 ≤ x9_2) = true := decide_eq_true c11
                clear c11
                by_cases c12 : x9_2 < (t197.length : Int)
                · rw [if_pos c12] at H
                  have c12b0 : decide (x9_2 < (t197.length : Int)) = true := decide_eq_true c12
                  clear c12
                  replace H := Option.bind_eq_some_iff.mp H
                  obtain ⟨t203, A130, H⟩ := H
                  replace H : (kauditref04_Parent.l0 k2 t197 t203 (wrap64 (x9_2 + 1))) = some (r1, r2, r3) := H
                  have A13 := Aside0.mk A130
                  clear A130
                  have H' := Aside0.mk H
                  clear H
                  obtain ⟨Ao14, co14, eo14⟩ := Kd.R_slice HO_5.out
                  subst eo14
                  have p202 : 0 ≤ (x9_2 : Int) := of_decide_eq_true (by first | (with_reducible assumption) | assumption)
                  have q202 : x9_2 < (t197.length : Int) := of_decide_eq_true (by first | (with_reducible assumption) | assumption)
                  obtain ⟨ad202, e202, hx202_0⟩ := Kd.at_string (Kd.R_reads' HO_5.out).2.2 x9_2 p202 q202
                  cases e202
                  replace p202 := eq_true p202
                  replace q202 := eq_true q202
                  go_wp2_with (first | (go_at_call 22; (with_reducible refine (kauditref04_Join.calls x8_2 (rdOf ByteArray.empty t197 x9_2) t203 _ A13.out).mono ?_); rintro e w' ⟨rfl, ⟨nd, rfl⟩⟩; (try first | exact ⟨rfl, _, World.drewN_drewN _ _ _⟩ | exact ⟨rfl, _, Eq.trans (World.drewN_drewN _ _ _) (congrArg (World.drewN _) (Nat.add_assoc _ _ _))⟩)))
                  repeat (go_quiet (first | (go_at_call 22; (with_reducible refine (kauditref04_Join.calls x8_2 (rdOf ByteArray.empty t197 x9_2) t203 _ A13.out).mono ?_); rintro e w' ⟨rfl, ⟨nd, rfl⟩⟩; (try first | exact ⟨rfl, _, World.drewN_drewN _ _ _⟩ | exact ⟨rfl, _, Eq.trans (World.drewN_drewN _ _ _) (congrArg (World.drewN _) (Nat.add_assoc _ _ _))⟩))); try go_wp2_with (first | (go_at_call 22; (with_reducible refine (kauditref04_Join.calls x8_2 (rdOf ByteArray.empty t197 x9_2) t203 _ A13.out).mono ?_); rintro e w' ⟨rfl, ⟨nd, rfl⟩⟩; (try first | exact ⟨rfl, _, World.drewN_drewN _ _ _⟩ | exact ⟨rfl, _, Eq.trans (World.drewN_drewN _ _ _) (congrArg (World.drewN _) (Nat.add_assoc _ _ _))⟩))))
                  go_roundg k2
                  case measure => have := HJ1.out; have := HK2.out; omega
                  case rel => exact ⟨(t203), (wrap64 (x9_2 + 1)), (by first | rfl | (simp; done) | (simp [*]; done)), (by first | rfl | (simp; done) | (simp [*]; done)), H', ⟨by have := HJ1.out; have := HK2.out; omega⟩, ⟨by (with_reducible repeat (first | apply Kd.R_alloc | apply Kd.R_drewN | apply Kd.R_drew)); exact HO_5.out⟩, ⟨by repeat (first | (with_reducible first | exact HB.out | apply below_alloc | apply pw_below_drewN | apply below_drew1) | exact HB.out)⟩⟩
                · rw [if_neg c12] at H
                  exact absurd H (by simp)
              · rw [if_neg c11] at H
                exact absurd H (by simp)
            · rw [if_neg c10] at H
              have c10b0 : decide ((wrap64 (x9_2 + 1)) < (t197.length : Int)) = false := decide_eq_false c10
              clear c10
              obtain ⟨ji15, hji15⟩ : ∃ j_ : Int, (wrap64 ((t197.length : Int) - 1)) = j_ := ⟨_, rfl⟩
              replace H : (if 0 ≤ (ji15) then (if (ji15) < (t197.length : Int) then (some (x8_2, rdOf ByteArray.empty t197 (ji15), true)) else (none)) else (none)) = some (r1, r2, r3) := by first | (rw [hji15] at H; exact H) | (simp only [hji15] at H ⊢; exact H)
              have hji15w : (IntKind.i64.wrap ((t197.length : Int) - 1)) = ji15 := (i64_w _).trans hji15
              by_cases c16 : 0 ≤ (ji15)
              · rw [if_pos c16] at H
                have c16b0 : decide (0 ≤ (ji15)) = true := decide_eq_true c16
                clear c16
                by_cases c17 : (ji15) < (t197.length : Int)
                · rw [if_pos c17] at H
                  have c17b0 : decide ((ji15) < (t197.length : Int)) = true := decide_eq_true c17
                  clear c17
                  simp only [Option.some.injEq, Prod.mk.injEq] at H
                  obtain ⟨rfl, rfl, rfl⟩ := H
                  obtain ⟨Ao18, co18, eo18⟩ := Kd.R_slice HO_5.out
                  subst eo18
                  have p204 : 0 ≤ ((ji15) : Int) := of_decide_eq_true (by first | (with_reducible assumption) | assumption)
                  have q204 : (ji15) < (t197.length : Int) := of_decide_eq_true (by first | (with_reducible assumption) | assumption)
                  obtain ⟨ad204, e204, hx204_0⟩ := Kd.at_string (Kd.R_reads' HO_5.out).2.2 (ji15) p204 q204
                  cases e204
                  replace p204 := eq_true p204
                  replace q204 := eq_true q204
                  go_wp2
                  repeat (go_quiet (fail); try go_wp2)
                  go_ret3
                  exact ⟨by first | rfl | (simp [errW_none, errW_some] <;> rfl) | (simp only [← hji15]; first | rfl | (simp [errW_none, errW_some] <;> rfl)) | (simp [*, errW_none, errW_some] <;> rfl), by repeat (first | (with_reducible first | exact HB.out | apply below_alloc | apply pw_below_drewN | apply below_drew1) | exact HB.out)⟩
                · rw [if_neg c17] at H
                  exact absurd H (by simp)
              · rw [if_neg c16] at H
                exact absurd H (by simp)

end Go.Proofs.YtnjabpgbpgocnaaDoor.PAll

-- PAllx48
namespace Go.Proofs.YtnjabpgbpgocnaaDoor.PAll
open Go.RowKit Go.Proofs.YtnjabpgbpgocnaaDoorW.PrintWords Go.Proofs.YtnjabpgbpgocnaaDoorW.PrintLast Go.Proofs.YtnjabpgbpgocnaaDoorW.PrintMore
attribute [local go_sem] max2_int min2_int max_two min_two max_three min_three max_four min_four   -- for this text's walks alone
set_option linter.unusedVariables false
set_option linter.unusedSimpArgs false

/-! ### kauditlaw04_same: function 36 -/
def kauditlaw04_same.l0 : Nat → List ByteArray → List ByteArray → Int → Option (Bool)
  | 0, _, _, _ => none
  | k + 1, x0, x1, x5 => if x5 < (x0.length : Int) then (if 0 ≤ x5 then (if x5 < (x1.length : Int) then (if (rdOf ByteArray.empty x0 x5).toList = (rdOf ByteArray.empty x1 x5).toList then (kauditlaw04_same.l0 k x0 x1 (wrap64 (x5 + 1))) else (some false)) else (none)) else (none)) else (some true)
def kauditlaw04_same.f (k : Nat) (l0 : List ByteArray) (l1 : List ByteArray) : Option (Bool) := if (l0.length : Int) = (l1.length : Int) then (kauditlaw04_same.l0 k l0 l1 0) else (some false)
theorem kauditlaw04_same.mono_l : ∀ k, (∀ y0 y1 y2, LeO (kauditlaw04_same.l0 k y0 y1 y2) (kauditlaw04_same.l0 (k + 1) y0 y1 y2))
  | 0 => fun _ _ _ r h => by simp [kauditlaw04_same.l0] at h
  | k + 1 => by
    have ih0 := kauditlaw04_same.mono_l k
    · intro y0 y1 y2
      unfold kauditlaw04_same.l0
      repeat' first
      | (with_reducible exact ih0 _ _ _)
      | (with_reducible exact LeO.refl _)
      | (with_reducible exact LeO.none _)
      | (with_reducible refine LeO.ite ?_ ?_)
      | (with_reducible refine LeO.bind ?_ (fun _ => ?_))
      | exact ih0 _ _ _
      | exact LeO.none _
      | refine LeO.ite ?_ ?_
      | refine LeO.bind ?_ (fun _ => ?_)
theorem kauditlaw04_same.mono : ∀ a0 a1 k, LeO (kauditlaw04_same.f k a0 a1) (kauditlaw04_same.f (k + 1) a0 a1) := by
  intro a0 a1 k
  have ih0 := kauditlaw04_same.mono_l k
  unfold kauditlaw04_same.f
  repeat' first
      | (with_reducible exact ih0 _ _ _)
      | (with_reducible exact LeO.refl _)
      | (with_reducible exact LeO.none _)
      | (with_reducible refine LeO.ite ?_ ?_)
      | (with_reducible refine LeO.bind ?_ (fun _ => ?_))
      | exact ih0 _ _ _
      | exact LeO.none _
      | refine LeO.ite ?_ ?_
      | refine LeO.bind ?_ (fun _ => ?_)
set_option maxHeartbeats 8000000 in
set_option maxRecDepth 100000 in
theorem kauditlaw04_same.calls (k : Nat) (A0 : Option Addr) (c0 : Nat) (l0 : List ByteArray) (A1 : Option Addr) (c1 : Nat) (l1 : List ByteArray) (r : Bool) (w : World) (hr0 : Kd.C Kd.string w A0 l0.length l0) (hc0 : l0.length ≤ c0) (hr1 : Kd.C Kd.string w A1 l1.length l1) (hc1 : l1.length ≤ c1) (h : kauditlaw04_same.f k l0 l1 = some r) :
    Calls Tryd.prog 36 #[.slice A0 l0.length c0, .slice A1 l1.length c1] w fun e w' => e = .returned (.bool r) ∧ Drawn0 w w' := by
  have HR0 := Aside0.mk hr0
  have HC0 := Aside0.mk hc0
  clear hr0 hc0
  have HR1 := Aside0.mk hr1
  have HC1 := Aside0.mk hc1
  clear hr1 hc1
  have H : (if (l0.length : Int) = (l1.length : Int) then (kauditlaw04_same.l0 k l0 l1 0) else (some false)) = some r := h
  clear h
  by_cases c3 : (l0.length : Int) = (l1.length : Int)
  · rw [if_pos c3] at H
    have c3b0 : ((l0.length : Int) == (l1.length : Int)) = true := beq_iff_eq.mpr c3
    have c3b1 : ((l0.length : Int) != (l1.length : Int)) = false := bne_eq_false_iff_eq.mpr c3
    have c3b2 : (l0.length == l1.length) = true := by first | simpa using c3 | (simp at c3 ⊢; omega)
    clear c3
    have H' := Aside0.mk H
    clear H
    go_enter Tryd.func36, Tryd.ntmps36
    go_wp2
    repeat (go_quiet (fail); try go_wp2)
    (first | go_loopg [5] k (fun kq v5 w' => ∃ (x5_1 : Int), v5 = .int .i64 x5_1 ∧ Aside0 (kauditlaw04_same.l0 kq l0 l1 x5_1 = some r) ∧ Aside0 (kq ≤ k) ∧ Drawn0 w w') | (go_simp; go_loopg [5] k (fun kq v5 w' => ∃ (x5_1 : Int), v5 = .int .i64 x5_1 ∧ Aside0 (kauditlaw04_same.l0 kq l0 l1 x5_1 = some r) ∧ Aside0 (kq ≤ k) ∧ Drawn0 w w')))
    case atStart => exact ⟨(0), (by first | rfl | (simp; done) | (simp [*]; done)), H', ⟨Nat.le_refl _⟩, by repeat (first | exact Drawn0.refl _ | apply Drawn0.step)⟩
    case round =>
      clear H'
      try clear c1
      try clear p2
      try clear c3
      try clear c3b0
      try clear c3b1
      try clear c3b2
      obtain ⟨x5_1, rfl, HA, HK1, ⟨m1, rfl⟩⟩ := hrel
      cases gk with
      | zero => exact absurd HA.out (by simp [kauditlaw04_same.l0])
      | succ k1 =>
        have H := HA.out
        clear HA
        simp only [kauditlaw04_same.l0] at H
        by_cases c4 : x5_1 < (l0.length : Int)
        · rw [if_pos c4] at H
          have c4b0 : decide (x5_1 < (l0.length : Int)) = true := decide_eq_true c4
          clear c4
          by_cases c5 : 0 ≤ x5_1
          · rw [if_pos c5] at H
            have c5b0 : decide (0 ≤ x5_1) = true := decide_eq_true c5
            clear c5
            by_cases c6 : x5_1 < (l1.length : Int)
            · rw [if_pos c6] at H
              have c6b0 : decide (x5_1 < (l1.length : Int)) = true := decide_eq_true c6
              clear c6
              by_cases c7 : (rdOf ByteArray.empty l0 x5_1).toList = (rdOf ByteArray.empty l1 x5_1).toList
              · rw [if_pos c7] at H
                have c7b0 : ((rdOf ByteArray.empty l0 x5_1).toList == (rdOf ByteArray.empty l1 x5_1).toList) = true := beq_iff_eq.mpr c7
                have c7b1 : ((rdOf ByteArray.empty l0 x5_1).toList != (rdOf ByteArray.empty l1 x5_1).toList) = false := bne_eq_false_iff_eq.mpr c7
                clear c7
                have H' := Aside0.mk H
                clear H
                have p205 : 0 ≤ (x5_1 : Int) := of_decide_eq_true (by first | (with_reducible assumption) | assumption)
                have q205 : x5_1 < (l0.length : Int) := of_decide_eq_true (by first | (with_reducible assumption) | assumption)
                obtain ⟨ad205, e205, hx205_0⟩ := Kd.at_string HR0.out x5_1 p205 q205
                cases e205
                replace p205 := eq_true p205
                replace q205 := eq_true q205
                have p206 : 0 ≤ (x5_1 : Int) := of_decide_eq_true (by first | (with_reducible assumption) | assumption)
                have q206 : x5_1 < (l1.length : Int) := of_decide_eq_true (by first | (with_reducible assumption) | assumption)
                obtain ⟨ad206, e206, hx206_0⟩ := Kd.at_string HR1.out x5_1 p206 q206
                cases e206
                replace p206 := eq_true p206
                replace q206 := eq_true q206
                go_wp2
                repeat (go_quiet (fail); try go_wp2)
                go_roundg k1
                case measure => have := HK1.out; omega
                case rel => exact ⟨(wrap64 (x5_1 + 1)), (by first | rfl | (simp; done) | (simp [*]; done)), H', ⟨by have := HK1.out; omega⟩, by repeat (first | exact Drawn0.refl _ | apply Drawn0.step)⟩
              · rw [if_neg c7] at H
                have c7b0 : ((rdOf ByteArray.empty l0 x5_1).toList == (rdOf ByteArray.empty l1 x5_1).toList) = false := beq_eq_false_iff_ne.mpr c7
                have c7b1 : ((rdOf ByteArray.empty l0 x5_1).toList != (rdOf ByteArray.empty l1 x5_1).toList) = true := bne_iff_ne.mpr c7
                obtain rfl := Option.some.inj H
                have p205 : 0 ≤ (x5_1 : Int) := of_decide_eq_true (by first | (with_reducible assumption) | assumption)
                have q205 : x5_1 < (l0.length : Int) := of_decide_eq_true (by first | (with_reducible assumption) | assumption)
                obtain ⟨ad205, e205, hx205_0⟩ := Kd.at_string HR0.out x5_1 p205 q205
                cases e205
                replace p205 := eq_true p205
                replace q205 := eq_true q205
                have p206 : 0 ≤ (x5_1 : Int) := of_decide_eq_true (by first | (with_reducible assumption) | assumption)
                have q206 : x5_1 < (l1.length : Int) := of_decide_eq_true (by first | (with_reducible assumption) | assumption)
                obtain ⟨ad206, e206, hx206_0⟩ := Kd.at_string HR1.out x5_1 p206 q206
                cases e206
                replace p206 := eq_true p206
                replace q206 := eq_true q206
                go_wp2
                repeat (go_quiet (fail); try go_wp2)
                go_ret
                exact ⟨by first | rfl | (simp; done) | (simp [*]; done), by repeat (first | exact Drawn0.refl _ | apply Drawn0.step)⟩
            · rw [if_neg c6] at H
              exact absurd H (by simp)
          · rw [if_neg c5] at H
            exact absurd H (by simp)
        · rw [if_neg c4] at H
          have c4b0 : decide (x5_1 < (l0.length : Int)) = false := decide_eq_false c4
          clear c4
          obtain rfl := Option.some.inj H
          go_wp2
          repeat (go_quiet (fail); try go_wp2)
          go_ret
          exact ⟨by first | rfl | (simp; done) | (simp [*]; done), by repeat (first | exact Drawn0.refl _ | apply Drawn0.step)⟩
  · rw [if_neg c3] at H
    have c3b0 : ((l0.length : Int) == (l1.length : Int)) = false := beq_eq_false_iff_ne.mpr c3
    have c3b1 : ((l0.length : Int) != (l1.length : Int)) = true := bne_iff_ne.mpr c3
    have c3b2 : (l0.length == l1.length) = false := by first | simpa using c3 | (simp at c3 ⊢; omega)
    obtain rfl := Option.some.inj H
    go_enter Tryd.func36, Tryd.ntmps36
    go_wp2
    repeat (go_quiet (fail); try go_wp2)
    go_ret
    exact ⟨by first | rfl | (simp; done) | (simp [*]; done), by repeat (first | exact Drawn0.refl _ | apply Drawn0.step)⟩

end Go.Proofs.YtnjabpgbpgocnaaDoor.PAll

-- PAllx49
namespace Go.Proofs.YtnjabpgbpgocnaaDoor.PAll
open Go.RowKit Go.Proofs.YtnjabpgbpgocnaaDoorW.PrintWords Go.Proofs.YtnjabpgbpgocnaaDoorW.PrintLast Go.Proofs.YtnjabpgbpgocnaaDoorW.PrintMore
attribute [local go_sem] max2_int min2_int max_two min_two max_three min_three max_four min_four   -- for this text's walks alone
set_option linter.unusedVariables false
set_option linter.unusedSimpArgs false

/-! ### kauditlaw04_agrees: function 18 -/
def kauditlaw04_agrees.f (k : Nat) (a0 : ByteArray) : Option (Bool) := (path_Split.f a0).bind fun bt207 => ((kauditref04_Split.f k a0).bind fun bt212 => ((path_Parent.f k a0).bind fun bt217 => ((kauditref04_Parent.f k a0).bind fun bt220 => ((path_Name.f a0).bind fun t223 => ((kauditref04_Name.f k a0).bind fun t224 => (if (t223 == t224) = true then ((path_Clean.f k a0).bind fun t225 => ((kauditref04_Clean.f k a0).bind fun t226 => (if (t225 == t226) = true then ((kauditlaw04_same.f k bt207.1 bt212.1).bind fun t227 => (if t227 = true then (if (bt207.2.1 == bt212.2.1) = true then (if (bt207.2.2 == bt212.2.2) = true then (if bt217.1.toList = bt220.1.toList then (if bt217.2.1.toList = bt220.2.1.toList then (some (bt217.2.2 == bt220.2.2)) else (some false)) else (some false)) else (some false)) else (some false)) else (some false))) else (some false)))) else (some false)))))))
theorem kauditlaw04_agrees.mono : ∀ a0 k, LeO (kauditlaw04_agrees.f k a0) (kauditlaw04_agrees.f (k + 1) a0) := by
  intro a0 k
  unfold kauditlaw04_agrees.f
  repeat' first
      | (with_reducible exact kauditlaw04_same.mono _ _ _)
      | (with_reducible exact kauditref04_Clean.mono _ _)
      | (with_reducible exact kauditref04_Name.mono _ _)
      | (with_reducible exact kauditref04_Parent.mono _ _)
      | (with_reducible exact kauditref04_Split.mono _ _)
      | (with_reducible exact path_Clean.mono _ _)
      | (with_reducible exact path_Parent.mono _ _)
      | (with_reducible exact LeO.refl _)
      | (with_reducible exact LeO.none _)
      | (with_reducible refine LeO.ite ?_ ?_)
      | (with_reducible refine LeO.bind ?_ (fun _ => ?_))
      | exact kauditlaw04_same.mono _ _ _
      | exact kauditref04_Clean.mono _ _
      | exact kauditref04_Name.mono _ _
      | exact kauditref04_Parent.mono _ _
      | exact kauditref04_Split.mono _ _
      | exact path_Clean.mono _ _
      | exact path_Parent.mono _ _
      | exact LeO.none _
      | refine LeO.ite ?_ ?_
      | refine LeO.bind ?_ (fun _ => ?_)
set_option maxHeartbeats 8000000 in
set_option maxRecDepth 100000 in
theorem kauditlaw04_agrees.calls (k : Nat) (a0 : ByteArray) (r : Bool) (w : World) (h : kauditlaw04_agrees.f k a0 = some r) :
    Calls Tryd.prog 18 #[.string a0] w fun e w' => e = .returned (.bool r) ∧ Below w.heap.size w w' := by
  have HB := Aside0.mk (Below.refl w.heap.size w)
  have H : ((path_Split.f a0).bind fun bt207 => ((kauditref04_Split.f k a0).bind fun bt212 => ((path_Parent.f k a0).bind fun bt217 => ((kauditref04_Parent.f k a0).bind fun bt220 => ((path_Name.f a0).bind fun t223 => ((kauditref04_Name.f k a0).bind fun t224 => (if (t223 == t224) = true then ((path_Clean.f k a0).bind fun t225 => ((kauditref04_Clean.f k a0).bind fun t226 => (if (t225 == t226) = true then ((kauditlaw04_same.f k bt207.1 bt212.1).bind fun t227 => (if t227 = true then (if (bt207.2.1 == bt212.2.1) = true then (if (bt207.2.2 == bt212.2.2) = true then (if bt217.1.toList = bt220.1.toList then (if bt217.2.1.toList = bt220.2.1.toList then (some (bt217.2.2 == bt220.2.2)) else (some false)) else (some false)) else (some false)) else (some false)) else (some false))) else (some false)))) else (some false)))))))) = some r := h
  clear h
  replace H := Option.bind_eq_some_iff.mp H
  obtain ⟨⟨t207, t208, t209⟩, A20, H⟩ := H
  replace H : ((kauditref04_Split.f k a0).bind fun bt212 => ((path_Parent.f k a0).bind fun bt217 => ((kauditref04_Parent.f k a0).bind fun bt220 => ((path_Name.f a0).bind fun t223 => ((kauditref04_Name.f k a0).bind fun t224 => (if (t223 == t224) = true then ((path_Clean.f k a0).bind fun t225 => ((kauditref04_Clean.f k a0).bind fun t226 => (if (t225 == t226) = true then ((kauditlaw04_same.f k t207 bt212.1).bind fun t227 => (if t227 = true then (if (t208 == bt212.2.1) = true then (if (t209 == bt212.2.2) = true then (if bt217.1.toList = bt220.1.toList then (if bt217.2.1.toList = bt220.2.1.toList then (some (bt217.2.2 == bt220.2.2)) else (some false)) else (some false)) else (some false)) else (some false)) else (some false))) else (some false)))) else (some false))))))) = some r := H
  have A2 := Aside0.mk A20
  clear A20
  replace H := Option.bind_eq_some_iff.mp H
  obtain ⟨⟨t212, t213, t214⟩, A30, H⟩ := H
  replace H : ((path_Parent.f k a0).bind fun bt217 => ((kauditref04_Parent.f k a0).bind fun bt220 => ((path_Name.f a0).bind fun t223 => ((kauditref04_Name.f k a0).bind fun t224 => (if (t223 == t224) = true then ((path_Clean.f k a0).bind fun t225 => ((kauditref04_Clean.f k a0).bind fun t226 => (if (t225 == t226) = true then ((kauditlaw04_same.f k t207 t212).bind fun t227 => (if t227 = true then (if (t208 == t213) = true then (if (t209 == t214) = true then (if bt217.1.toList = bt220.1.toList then (if bt217.2.1.toList = bt220.2.1.toList then (some (bt217.2.2 == bt220.2.2)) else (some false)) else (some false)) else (some false)) else (some false)) else (some false))) else (some false)))) else (some false)))))) = some r := H
  have A3 := Aside0.mk A30
  clear A30
  replace H := Option.bind_eq_some_iff.mp H
  obtain ⟨⟨t217, t218, t219⟩, A40, H⟩ := H
  replace H : ((kauditref04_Parent.f k a0).bind fun bt220 => ((path_Name.f a0).bind fun t223 => ((kauditref04_Name.f k a0).bind fun t224 => (if (t223 == t224) = true then ((path_Clean.f k a0).bind fun t225 => ((kauditref04_Clean.f k a0).bind fun t226 => (if (t225 == t226) = true then ((kauditlaw04_same.f k t207 t212).bind fun t227 => (if t227 = true then (if (t208 == t213) = true then (if (t209 == t214) = true then (if t217.toList = bt220.1.toList then (if t218.toList = bt220.2.1.toList then (some (t219 == bt220.2.2)) else (some false)) else (some false)) else (some false)) else (some false)) else (some false))) else (some false)))) else (some false))))) = some r := H
  have A4 := Aside0.mk A40
  clear A40
  replace H := Option.bind_eq_some_iff.mp H
  obtain ⟨⟨t220, t221, t222⟩, A50, H⟩ := H
  replace H : ((path_Name.f a0).bind fun t223 => ((kauditref04_Name.f k a0).bind fun t224 => (if (t223 == t224) = true then ((path_Clean.f k a0).bind fun t225 => ((kauditref04_Clean.f k a0).bind fun t226 => (if (t225 == t226) = true then ((kauditlaw04_same.f k t207 t212).bind fun t227 => (if t227 = true then (if (t208 == t213) = true then (if (t209 == t214) = true then (if t217.toList = t220.toList then (if t218.toList = t221.toList then (some (t219 == t222)) else (some false)) else (some false)) else (some false)) else (some false)) else (some false))) else (some false)))) else (some false)))) = some r := H
  have A5 := Aside0.mk A50
  clear A50
  replace H := Option.bind_eq_some_iff.mp H
  obtain ⟨t223, A60, H⟩ := H
  replace H : ((kauditref04_Name.f k a0).bind fun t224 => (if (t223 == t224) = true then ((path_Clean.f k a0).bind fun t225 => ((kauditref04_Clean.f k a0).bind fun t226 => (if (t225 == t226) = true then ((kauditlaw04_same.f k t207 t212).bind fun t227 => (if t227 = true then (if (t208 == t213) = true then (if (t209 == t214) = true then (if t217.toList = t220.toList then (if t218.toList = t221.toList then (some (t219 == t222)) else (some false)) else (some false)) else (some false)) else (some false)) else (some false))) else (some false)))) else (some false))) = some r := H
  have A6 := Aside0.mk A60
  clear A60
  replace H := Option.bind_eq_some_iff.mp H
  obtain ⟨t224, A70, H⟩ := H
  replace H : (if (t223 == t224) = true then ((path_Clean.f k a0).bind fun t225 => ((kauditref04_Clean.f k a0).bind fun t226 => (if (t225 == t226) = true then ((kauditlaw04_same.f k t207 t212).bind fun t227 => (if t227 = true then (if (t208 == t213) = true then (if (t209 == t214) = true then (if t217.toList = t220.toList then (if t218.toList = t221.toList then (some (t219 == t222)) else (some false)) else (some false)) else (some false)) else (some false)) else (some false))) else (some false)))) else (some false)) = some r := H
  have A7 := Aside0.mk A70
  clear A70
  by_cases c8 : (t223 == t224) = true
  · rw [if_pos c8] at H
    have c8b0 : (t223 == t224) = true := c8
    (try (have c8b1 : decide (t223 = t224) = true := by simpa using c8))
    (try (have c8b2 : (t223 == t224) = true := by simpa using c8))
    clear c8
    replace H := Option.bind_eq_some_iff.mp H
    obtain ⟨t225, A90, H⟩ := H
    replace H : ((kauditref04_Clean.f k a0).bind fun t226 => (if (t225 == t226) = true then ((kauditlaw04_same.f k t207 t212).bind fun t227 => (if t227 = true then (if (t208 == t213) = true then (if (t209 == t214) = true then (if t217.toList = t220.toList then (if t218.toList = t221.toList then (some (t219 == t222)) else (some false)) else (some false)) else (some false)) else (some false)) else (some false))) else (some false))) = some r := H
    have A9 := Aside0.mk A90
    clear A90
    replace H := Option.bind_eq_some_iff.mp H
    obtain ⟨t226, A100, H⟩ := H
    replace H : (if (t225 == t226) = true then ((kauditlaw04_same.f k t207 t212).bind fun t227 => (if t227 = true then (if (t208 == t213) = true then (if (t209 == t214) = true then (if t217.toList = t220.toList then (if t218.toList = t221.toList then (some (t219 == t222)) else (some false)) else (some false)) else (some false)) else (some false)) else (some false))) else (some false)) = some r := H
    have A10 := Aside0.mk A100
    clear A100
    by_cases c11 : (t225 == t226) = true
    · rw [if_pos c11] at H
      have c11b0 : (t225 == t226) = true := c11
      (try (have c11b1 : decide (t225 = t226) = true := by simpa using c11))
      (try (have c11b2 : (t225 == t226) = true := by simpa using c11))
      clear c11
      replace H := Option.bind_eq_some_iff.mp H
      obtain ⟨t227, A120, H⟩ := H
      replace H : (if t227 = true then (if (t208 == t213) = true then (if (t209 == t214) = true then (if t217.toList = t220.toList then (if t218.toList = t221.toList then (some (t219 == t222)) else (some false)) else (some false)) else (some false)) else (some false)) else (some false)) = some r := H
      have A12 := Aside0.mk A120
      clear A120
      by_cases c13 : t227 = true
      · subst c13
        have H1 : (if (t208 == t213) = true then (if (t209 == t214) = true then (if t217.toList = t220.toList then (if t218.toList = t221.toList then (some (t219 == t222)) else (some false)) else (some false)) else (some false)) else (some false)) = some r := by rw [if_pos rfl] at H; exact H
        clear H
        have H := H1
        clear H1
        by_cases c14 : (t208 == t213) = true
        · rw [if_pos c14] at H
          have c14b0 : (t208 == t213) = true := c14
          (try (have c14b1 : decide (t208 = t213) = true := by simpa using c14))
          (try (have c14b2 : (t208 == t213) = true := by simpa using c14))
          clear c14
          by_cases c15 : (t209 == t214) = true
          · rw [if_pos c15] at H
            have c15b0 : (t209 == t214) = true := c15
            (try (have c15b1 : decide (t209 = t214) = true := by simpa using c15))
            (try (have c15b2 : (t209 == t214) = true := by simpa using c15))
            clear c15
            by_cases c16 : t217.toList = t220.toList
            · rw [if_pos c16] at H
              have c16b0 : (t217.toList == t220.toList) = true := beq_iff_eq.mpr c16
              have c16b1 : (t217.toList != t220.toList) = false := bne_eq_false_iff_eq.mpr c16
              clear c16
              by_cases c17 : t218.toList = t221.toList
              · rw [if_pos c17] at H
                have c17b0 : (t218.toList == t221.toList) = true := beq_iff_eq.mpr c17
                have c17b1 : (t218.toList != t221.toList) = false := bne_eq_false_iff_eq.mpr c17
                clear c17
                obtain rfl := Option.some.inj H
                go_enter Tryd.func18, Tryd.ntmps18
                go_wp2_with (first | ((with_reducible refine gate_callee (f := 19) rfl ?_); refine goesL_ (some 17) rfl rfl Tryd.func19 (by kernel_rfl) rfl #[.string a0] rfl (by (try simp only [List.map_toArray, List.map_cons, List.map_nil]); first | done | rfl | (simp only [List.length_drop, List.length_take]; rfl)) ?_; (with_reducible refine (path_Split.calls a0 t207 t208 t209 _ A2.out).mono ?_); rintro e w18 ⟨v210, rfl, ho0, hb⟩; refine ⟨_, rfl, ?_⟩; have n0_ := Aside0.mk (Kd.R_lower ho0 (below_size (by repeat (first | (with_reducible first | exact HB.out | apply below_alloc | apply pw_below_drewN | apply below_drew1) | exact HB.out)))); have n1_ := Aside0.mk (below_step (by repeat (first | (with_reducible first | exact HB.out | apply below_alloc | apply pw_below_drewN | apply below_drew1) | exact HB.out)) hb); clear HB; have HO211 := n0_; have HB := n1_; clear n0_ n1_; (try clear hb); (try clear hb2); (try clear hk); (try clear hi); (try clear ho0)) | ((with_reducible refine gate_callee (f := 32) rfl ?_); refine goesL_ (some 23) rfl rfl Tryd.func32 (by kernel_rfl) rfl #[.string a0] rfl (by (try simp only [List.map_toArray, List.map_cons, List.map_nil]); first | done | rfl | (simp only [List.length_drop, List.length_take]; rfl)) ?_; (with_reducible refine (kauditref04_Split.calls k a0 t212 t213 t214 _ A3.out).mono ?_); rintro e w19 ⟨v215, rfl, ho0, hb⟩; refine ⟨_, rfl, ?_⟩; have n0_ := Aside0.mk (Kd.R_elder' (by (with_reducible repeat (first | apply Kd.R_alloc | apply Kd.R_drewN | apply Kd.R_drew)); exact HO211.out) (Kd.R_base ho0) hb); have n1_ := Aside0.mk (Kd.R_lower (Kd.R_new' ho0 (Kd.R_lt (by (with_reducible repeat (first | apply Kd.R_alloc | apply Kd.R_drewN | apply Kd.R_drew)); exact HO211.out))) (below_size (by repeat (first | (with_reducible first | exact HB.out | apply below_alloc | apply pw_below_drewN | apply below_drew1) | exact HB.out)))); have n2_ := Aside0.mk (below_step (by repeat (first | (with_reducible first | exact HB.out | apply below_alloc | apply pw_below_drewN | apply below_drew1) | exact HB.out)) hb); clear HO211; clear HB; have HO211 := n0_; have HO216 := n1_; have HB := n2_; clear n0_ n1_ n2_; (try clear hb); (try clear hb2); (try clear hk); (try clear hi); (try clear ho0)) | ((with_reducible refine gate_callee (f := 21) rfl ?_); refine goesL_ (some 29) rfl rfl Tryd.func21 (by kernel_rfl) rfl #[.string a0] rfl (by (try simp only [List.map_toArray, List.map_cons, List.map_nil]); first | done | rfl | (simp only [List.length_drop, List.length_take]; rfl)) ?_; (with_reducible refine (path_Parent.calls k a0 t217 t218 t219 _ A4.out).mono ?_); rintro e w20 ⟨rfl, hb⟩; refine ⟨_, rfl, ?_⟩; have n0_ := Aside0.mk (Kd.R_below (by (with_reducible repeat (first | apply Kd.R_alloc | apply Kd.R_drewN | apply Kd.R_drew)); exact HO211.out) hb); have n1_ := Aside0.mk (Kd.R_below (by (with_reducible repeat (first | apply Kd.R_alloc | apply Kd.R_drewN | apply Kd.R_drew)); exact HO216.out) hb); have n2_ := Aside0.mk (below_step (by repeat (first | (with_reducible first | exact HB.out | apply below_alloc | apply pw_below_drewN | apply below_drew1) | exact HB.out)) hb); clear HO211; clear HO216; clear HB; have HO211 := n0_; have HO216 := n1_; have HB := n2_; clear n0_ n1_ n2_; (try clear hb); (try clear hb2); (try clear hk); (try clear hi)) | ((with_reducible refine gate_callee (f := 33) rfl ?_); refine goesL_ (some 35) rfl rfl Tryd.func33 (by kernel_rfl) rfl #[.string a0] rfl (by (try simp only [List.map_toArray, List.map_cons, List.map_nil]); first | done | rfl | (simp only [List.length_drop, List.length_take]; rfl)) ?_; (with_reducible refine (kauditref04_Parent.calls k a0 t220 t221 t222 _ A5.out).mono ?_); rintro e w21 ⟨rfl, hb⟩; refine ⟨_, rfl, ?_⟩; have n0_ := Aside0.mk (Kd.R_below (by (with_reducible repeat (first | apply Kd.R_alloc | apply Kd.R_drewN | apply Kd.R_drew)); exact HO211.out) hb); have n1_ := Aside0.mk (Kd.R_below (by (with_reducible repeat (first | apply Kd.R_alloc | apply Kd.R_drewN | apply Kd.R_drew)); exact HO216.out) hb); have n2_ := Aside0.mk (below_step (by repeat (first | (with_reducible first | exact HB.out | apply below_alloc | apply pw_below_drewN | apply below_drew1) | exact HB.out)) hb); clear HO211; clear HO216; clear HB; have HO211 := n0_; have HO216 := n1_; have HB := n2_; clear n0_ n1_ n2_; (try clear hb); (try clear hb2); (try clear hk); (try clear hi)) | ((with_reducible refine gate_callee (f := 16) rfl ?_); refine goesL_ (some 40) rfl rfl Tryd.func16 (by kernel_rfl) rfl #[.string a0] rfl (by (try simp only [List.map_toArray, List.map_cons, List.map_nil]); first | done | rfl | (simp only [List.length_drop, List.length_take]; rfl)) ?_; (with_reducible refine (path_Name.calls a0 t223 _ A6.out).mono ?_); rintro e w22 ⟨rfl, hb⟩; refine ⟨_, rfl, ?_⟩; have n0_ := Aside0.mk (Kd.R_below (by (with_reducible repeat (first | apply Kd.R_alloc | apply Kd.R_drewN | apply Kd.R_drew)); exact HO211.out) hb); have n1_ := Aside0.mk (Kd.R_below (by (with_reducible repeat (first | apply Kd.R_alloc | apply Kd.R_drewN | apply Kd.R_drew)); exact HO216.out) hb); have n2_ := Aside0.mk (below_step (by repeat (first | (with_reducible first | exact HB.out | apply below_alloc | apply pw_below_drewN | apply below_drew1) | exact HB.out)) hb); clear HO211; clear HO216; clear HB; have HO211 := n0_; have HO216 := n1_; have HB := n2_; clear n0_ n1_ n2_; (try clear hb); (try clear hb2); (try clear hk); (try clear hi)) | ((with_reducible refine gate_callee (f := 34) rfl ?_); refine goesL_ (some 42) rfl rfl Tryd.func34 (by kernel_rfl) rfl #[.string a0] rfl (by (try simp only [List.map_toArray, List.map_cons, List.map_nil]); first | done | rfl | (simp only [List.length_drop, List.length_take]; rfl)) ?_; (with_reducible refine (kauditref04_Name.calls k a0 t224 _ A7.out).mono ?_); rintro e w' ⟨rfl, ⟨nd, rfl⟩⟩; refine ⟨_, rfl, ?_⟩) | (go_at_call 17; (with_reducible refine (path_Clean.calls k a0 t225 _ A9.out).mono ?_); rintro e w23 ⟨rfl, hb⟩; have n0_ := Aside0.mk (Kd.R_below (by (with_reducible repeat (first | apply Kd.R_alloc | apply Kd.R_drewN | apply Kd.R_drew)); exact HO211.out) hb); have n1_ := Aside0.mk (Kd.R_below (by (with_reducible repeat (first | apply Kd.R_alloc | apply Kd.R_drewN | apply Kd.R_drew)); exact HO216.out) hb); have n2_ := Aside0.mk (below_step (by repeat (first | (with_reducible first | exact HB.out | apply below_alloc | apply pw_below_drewN | apply below_drew1) | exact HB.out)) hb); clear HO211; clear HO216; clear HB; have HO211 := n0_; have HO216 := n1_; have HB := n2_; clear n0_ n1_ n2_; (try clear hb); (try clear hb2); (try clear hk); (try clear hi)) | (go_at_call 35; (with_reducible refine (kauditref04_Clean.calls k a0 t226 _ A10.out).mono ?_); rintro e w24 ⟨rfl, hb⟩; have n0_ := Aside0.mk (Kd.R_below (by (with_reducible repeat (first | apply Kd.R_alloc | apply Kd.R_drewN | apply Kd.R_drew)); exact HO211.out) hb); have n1_ := Aside0.mk (Kd.R_below (by (with_reducible repeat (first | apply Kd.R_alloc | apply Kd.R_drewN | apply Kd.R_drew)); exact HO216.out) hb); have n2_ := Aside0.mk (below_step (by repeat (first | (with_reducible first | exact HB.out | apply below_alloc | apply pw_below_drewN | apply below_drew1) | exact HB.out)) hb); clear HO211; clear HO216; clear HB; have HO211 := n0_; have HO216 := n1_; have HB := n2_; clear n0_ n1_ n2_; (try clear hb); (try clear hb2); (try clear hk); (try clear hi); obtain ⟨Ao25, co25, eo25⟩ := Kd.R_slice HO211.out; subst eo25; obtain ⟨Ao26, co26, eo26⟩ := Kd.R_slice HO216.out; subst eo26) | (go_at_call 36; (with_reducible refine (kauditlaw04_same.calls k _ _ t207 _ _ t212 true _ ?side1 ?side2 ?side3 ?side4 A12.out).mono ?_); (case side1 => repeat (first | exact (Kd.R_reads' HO211.out).2.2 | (with_reducible refine Kd.C_alloc ?_ _) | (with_reducible refine Kd.C_drewN ?_ _) | (with_reducible refine Kd.C_drew ?_))); (case side2 => exact (Kd.R_reads' HO211.out).2.1); (case side3 => repeat (first | exact (Kd.R_reads' HO216.out).2.2 | (with_reducible refine Kd.C_alloc ?_ _) | (with_reducible refine Kd.C_drewN ?_ _) | (with_reducible refine Kd.C_drew ?_))); (case side4 => exact (Kd.R_reads' HO216.out).2.1); rintro e w' ⟨rfl, ⟨nd, rfl⟩⟩))
                go_ret
                exact ⟨by first | rfl | (simp [errW_none, errW_some] <;> rfl) | (simp [*, errW_none, errW_some] <;> rfl), by repeat (first | (with_reducible first | exact HB.out | apply below_alloc | apply pw_below_drewN | apply below_drew1) | exact HB.out)⟩
              · rw [if_neg c17] at H
                have c17b0 : (t218.toList == t221.toList) = false := beq_eq_false_iff_ne.mpr c17
                have c17b1 : (t218.toList != t221.toList) = true := bne_iff_ne.mpr c17
                obtain rfl := Option.some.inj H
                go_enter Tryd.func18, Tryd.ntmps18
                go_wp2_with (first | ((with_reducible refine gate_callee (f := 19) rfl ?_); refine goesL_ (some 17) rfl rfl Tryd.func19 (by kernel_rfl) rfl #[.string a0] rfl (by (try simp only [List.map_toArray, List.map_cons, List.map_nil]); first | done | rfl | (simp only [List.length_drop, List.length_take]; rfl)) ?_; (with_reducible refine (path_Split.calls a0 t207 t208 t209 _ A2.out).mono ?_); rintro e w27 ⟨v210, rfl, ho0, hb⟩; refine ⟨_, rfl, ?_⟩; have n0_ := Aside0.mk (Kd.R_lower ho0 (below_size (by repeat (first | (with_reducible first | exact HB.out | apply below_alloc | apply pw_below_drewN | apply below_drew1) | exact HB.out)))); have n1_ := Aside0.mk (below_step (by repeat (first | (with_reducible first | exact HB.out | apply below_alloc | apply pw_below_drewN | apply below_drew1) | exact HB.out)) hb); clear HB; have HO211 := n0_; have HB := n1_; clear n0_ n1_; (try clear hb); (try clear hb2); (try clear hk); (try clear hi); (try clear ho0)) | ((with_reducible refine gate_callee (f := 32) rfl ?_); refine goesL_ (some 23) rfl rfl Tryd.func32 (by kernel_rfl) rfl #[.string a0] rfl (by (try simp only [List.map_toArray, List.map_cons, List.map_nil]); first | done | rfl | (simp only [List.length_drop, List.length_take]; rfl)) ?_; (with_reducible refine (kauditref04_Split.calls k a0 t212 t213 t214 _ A3.out).mono ?_); rintro e w28 ⟨v215, rfl, ho0, hb⟩; refine ⟨_, rfl, ?_⟩; have n0_ := Aside0.mk (Kd.R_elder' (by (with_reducible repeat (first | apply Kd.R_alloc | apply Kd.R_drewN | apply Kd.R_drew)); exact HO211.out) (Kd.R_base ho0) hb); have n1_ := Aside0.mk (Kd.R_lower (Kd.R_new' ho0 (Kd.R_lt (by (with_reducible repeat (first | apply Kd.R_alloc | apply Kd.R_drewN | apply Kd.R_drew)); exact HO211.out))) (below_size (by repeat (first | (with_reducible first | exact HB.out | apply below_alloc | apply pw_below_drewN | apply below_drew1) | exact HB.out)))); have n2_ := Aside0.mk (below_step (by repeat (first | (with_reducible first | exact HB.out | apply below_alloc | apply pw_below_drewN | apply below_drew1) | exact HB.out)) hb); clear HO211; clear HB; have HO211 := n0_; have HO216 := n1_; have HB := n2_; clear n0_ n1_ n2_; (try clear hb); (try clear hb2); (try clear hk); (try clear hi); (try clear ho0)) | ((with_reducible refine gate_callee (f := 21) rfl ?_); refine goesL_ (some 29) rfl rfl Tryd.func21 (by kernel_rfl) rfl #[.string a0] rfl (by (try simp only [List.map_toArray, List.map_cons, List.map_nil]); first | done | rfl | (simp only [List.length_drop, List.length_take]; rfl)) ?_; (with_reducible refine (path_Parent.calls k a0 t217 t218 t219 _ A4.out).mono ?_); rintro e w29 ⟨rfl, hb⟩; refine ⟨_, rfl, ?_⟩; have n0_ := Aside0.mk (Kd.R_below (by (with_reducible repeat (first | apply Kd.R_alloc | apply Kd.R_drewN | apply Kd.R_drew)); exact HO211.out) hb); have n1_ := Aside0.mk (Kd.R_below (by (with_reducible repeat (first | apply Kd.R_alloc | apply Kd.R_drewN | apply Kd.R_drew)); exact HO216.out) hb); have n2_ := Aside0.mk (below_step (by repeat (first | (with_reducible first | exact HB.out | apply below_alloc | apply pw_below_drewN | apply below_drew1) | exact HB.out)) hb); clear HO211; clear HO216; clear HB; have HO211 := n0_; have HO216 := n1_; have HB := n2_; clear n0_ n1_ n2_; (try clear hb); (try clear hb2); (try clear hk); (try clear hi)) | ((with_reducible refine gate_callee (f := 33) rfl ?_); refine goesL_ (some 35) rfl rfl Tryd.func33 (by kernel_rfl) rfl #[.string a0] rfl (by (try simp only [List.map_toArray, List.map_cons, List.map_nil]); first | done | rfl | (simp only [List.length_drop, List.length_take]; rfl)) ?_; (with_reducible refine (kauditref04_Parent.calls k a0 t220 t221 t222 _ A5.out).mono ?_); rintro e w30 ⟨rfl, hb⟩; refine ⟨_, rfl, ?_⟩; have n0_ := Aside0.mk (Kd.R_below (by (with_reducible repeat (first | apply Kd.R_alloc | apply Kd.R_drewN | apply Kd.R_drew)); exact HO211.out) hb); have n1_ := Aside0.mk (Kd.R_below (by (with_reducible repeat (first | apply Kd.R_alloc | apply Kd.R_drewN | apply Kd.R_drew)); exact HO216.out) hb); have n2_ := Aside0.mk (below_step (by repeat (first | (with_reducible first | exact HB.out | apply below_alloc | apply pw_below_drewN | apply below_drew1) | exact HB.out)) hb); clear HO211; clear HO216; clear HB; have HO211 := n0_; have HO216 := n1_; have HB := n2_; clear n0_ n1_ n2_; (try clear hb); (try clear hb2); (try clear hk); (try clear hi)) | ((with_reducible refine gate_callee (f := 16) rfl ?_); refine goesL_ (some 40) rfl rfl Tryd.func16 (by kernel_rfl) rfl #[.string a0] rfl (by (try simp only [List.map_toArray, List.map_cons, List.map_nil]); first | done | rfl | (simp only [List.length_drop, List.length_take]; rfl)) ?_; (with_reducible refine (path_Name.calls a0 t223 _ A6.out).mono ?_); rintro e w31 ⟨rfl, hb⟩; refine ⟨_, rfl, ?_⟩; have n0_ := Aside0.mk (Kd.R_below (by (with_reducible repeat (first | apply Kd.R_alloc | apply Kd.R_drewN | apply Kd.R_drew)); exact HO211.out) hb); have n1_ := Aside0.mk (Kd.R_below (by (with_reducible repeat (first | apply Kd.R_alloc | apply Kd.R_drewN | apply Kd.R_drew)); exact HO216.out) hb); have n2_ := Aside0.mk (below_step (by repeat (first | (with_reducible first | exact HB.out | apply below_alloc | apply pw_below_drewN | apply below_drew1) | exact HB.out)) hb); clear HO211; clear HO216; clear HB; have HO211 := n0_; have HO216 := n1_; have HB := n2_; clear n0_ n1_ n2_; (try clear hb); (try clear hb2); (try clear hk); (try clear hi)) | ((with_reducible refine gate_callee (f := 34) rfl ?_); refine goesL_ (some 42) rfl rfl Tryd.func34 (by kernel_rfl) rfl #[.string a0] rfl (by (try simp only [List.map_toArray, List.map_cons, List.map_nil]); first | done | rfl | (simp only [List.length_drop, List.length_take]; rfl)) ?_; (with_reducible refine (kauditref04_Name.calls k a0 t224 _ A7.out).mono ?_); rintro e w' ⟨rfl, ⟨nd, rfl⟩⟩; refine ⟨_, rfl, ?_⟩) | (go_at_call 17; (with_reducible refine (path_Clean.calls k a0 t225 _ A9.out).mono ?_); rintro e w32 ⟨rfl, hb⟩; have n0_ := Aside0.mk (Kd.R_below (by (with_reducible repeat (first | apply Kd.R_alloc | apply Kd.R_drewN | apply Kd.R_drew)); exact HO211.out) hb); have n1_ := Aside0.mk (Kd.R_below (by (with_reducible repeat (first | apply Kd.R_alloc | apply Kd.R_drewN | apply Kd.R_drew)); exact HO216.out) hb); have n2_ := Aside0.mk (below_step (by repeat (first | (with_reducible first | exact HB.out | apply below_alloc | apply pw_below_drewN | apply below_drew1) | exact HB.out)) hb); clear HO211; clear HO216; clear HB; have HO211 := n0_; have HO216 := n1_; have HB := n2_; clear n0_ n1_ n2_; (try clear hb); (try clear hb2); (try clear hk); (try clear hi)) | (go_at_call 35; (with_reducible refine (kauditref04_Clean.calls k a0 t226 _ A10.out).mono ?_); rintro e w33 ⟨rfl, hb⟩; have n0_ := Aside0.mk (Kd.R_below (by (with_reducible repeat (first | apply Kd.R_alloc | apply Kd.R_drewN | apply Kd.R_drew)); exact HO211.out) hb); have n1_ := Aside0.mk (Kd.R_below (by (with_reducible repeat (first | apply Kd.R_alloc | apply Kd.R_drewN | apply Kd.R_drew)); exact HO216.out) hb); have n2_ := Aside0.mk (below_step (by repeat (first | (with_reducible first | exact HB.out | apply below_alloc | apply pw_below_drewN | apply below_drew1) | exact HB.out)) hb); clear HO211; clear HO216; clear HB; have HO211 := n0_; have HO216 := n1_; have HB := n2_; clear n0_ n1_ n2_; (try clear hb); (try clear hb2); (try clear hk); (try clear hi); obtain ⟨Ao34, co34, eo34⟩ := Kd.R_slice HO211.out; subst eo34; obtain ⟨Ao35, co35, eo35⟩ := Kd.R_slice HO216.out; subst eo35) | (go_at_call 36; (with_reducible refine (kauditlaw04_same.calls k _ _ t207 _ _ t212 true _ ?side1 ?side2 ?side3 ?side4 A12.out).mono ?_); (case side1 => repeat (first | exact (Kd.R_reads' HO211.out).2.2 | (with_reducible refine Kd.C_alloc ?_ _) | (with_reducible refine Kd.C_drewN ?_ _) | (with_reducible refine Kd.C_drew ?_))); (case side2 => exact (Kd.R_reads' HO211.out).2.1); (case side3 => repeat (first | exact (Kd.R_reads' HO216.out).2.2 | (with_reducible refine Kd.C_alloc ?_ _) | (with_reducible refine Kd.C_drewN ?_ _) | (with_reducible refine Kd.C_drew ?_))); (case side4 => exact (Kd.R_reads' HO216.out).2.1); rintro e w' ⟨rfl, ⟨nd, rfl⟩⟩))
                go_ret
                exact ⟨by first | rfl | (simp [errW_none, errW_some] <;> rfl) | (simp [*, errW_none, errW_some] <;> rfl), by repeat (first | (with_reducible first | exact HB.out | apply below_alloc | apply pw_below_drewN | apply below_drew1) | exact HB.out)⟩
            · rw [if_neg c16] at H
              have c16b0 : (t217.toList == t220.toList) = false := beq_eq_false_iff_ne.mpr c16
              have c16b1 : (t217.toList != t220.toList) = true := bne_iff_ne.mpr c16
              obtain rfl := Option.some.inj H
              go_enter Tryd.func18, Tryd.ntmps18
              go_wp2_with (first | ((with_reducible refine gate_callee (f := 19) rfl ?_); refine goesL_ (some 17) rfl rfl Tryd.func19 (by kernel_rfl) rfl #[.string a0] rfl (by (try simp only [List.map_toArray, List.map_cons, List.map_nil]); first | done | rfl | (simp only [List.length_drop, List.length_take]; rfl)) ?_; (with_reducible refine (path_Split.calls a0 t207 t208 t209 _ A2.out).mono ?_); rintro e w36 ⟨v210, rfl, ho0, hb⟩; refine ⟨_, rfl, ?_⟩; have n0_ := Aside0.mk (Kd.R_lower ho0 (below_size (by repeat (first | (with_reducible first | exact HB.out | apply below_alloc | apply pw_below_drewN | apply below_drew1) | exact HB.out)))); have n1_ := Aside0.mk (below_step (by repeat (first | (with_reducible first | exact HB.out | apply below_alloc | apply pw_below_drewN | apply below_drew1) | exact HB.out)) hb); clear HB; have HO211 := n0_; have HB := n1_; clear n0_ n1_; (try clear hb); (try clear hb2); (try clear hk); (try clear hi); (try clear ho0)) | ((with_reducible refine gate_callee (f := 32) rfl ?_); refine goesL_ (some 23) rfl rfl Tryd.func32 (by kernel_rfl) rfl #[.string a0] rfl (by (try simp only [List.map_toArray, List.map_cons, List.map_nil]); first | done | rfl | (simp only [List.length_drop, List.length_take]; rfl)) ?_; (with_reducible refine (kauditref04_Split.calls k a0 t212 t213 t214 _ A3.out).mono ?_); rintro e w37 ⟨v215, rfl, ho0, hb⟩; refine ⟨_, rfl, ?_⟩; have n0_ := Aside0.mk (Kd.R_elder' (by (with_reducible repeat (first | apply Kd.R_alloc | apply Kd.R_drewN | apply Kd.R_drew)); exact HO211.out) (Kd.R_base ho0) hb); have n1_ := Aside0.mk (Kd.R_lower (Kd.R_new' ho0 (Kd.R_lt (by (with_reducible repeat (first | apply Kd.R_alloc | apply Kd.R_drewN | apply Kd.R_drew)); exact HO211.out))) (below_size (by repeat (first | (with_reducible first | exact HB.out | apply below_alloc | apply pw_below_drewN | apply below_drew1) | exact HB.out)))); have n2_ := Aside0.mk (below_step (by repeat (first | (with_reducible first | exact HB.out | apply below_alloc | apply pw_below_drewN | apply below_drew1) | exact HB.out)) hb); clear HO211; clear HB; have HO211 := n0_; have HO216 := n1_; have HB := n2_; clear n0_ n1_ n2_; (try clear hb); (try clear hb2); (try clear hk); (try clear hi); (try clear ho0)) | ((with_reducible refine gate_callee (f := 21) rfl ?_); refine goesL_ (some 29) rfl rfl Tryd.func21 (by kernel_rfl) rfl #[.string a0] rfl (by (try simp only [List.map_toArray, List.map_cons, List.map_nil]); first | done | rfl | (simp only [List.length_drop, List.length_take]; rfl)) ?_; (with_reducible refine (path_Parent.calls k a0 t217 t218 t219 _ A4.out).mono ?_); rintro e w38 ⟨rfl, hb⟩; refine ⟨_, rfl, ?_⟩; have n0_ := Aside0.mk (Kd.R_below (by (with_reducible repeat (first | apply Kd.R_alloc | apply Kd.R_drewN | apply Kd.R_drew)); exact HO211.out) hb); have n1_ := Aside0.mk (Kd.R_below (by (with_reducible repeat (first | apply Kd.R_alloc | apply Kd.R_drewN | apply Kd.R_drew)); exact HO216.out) hb); have n2_ := Aside0.mk (below_step (by repeat (first | (with_reducible first | exact HB.out | apply below_alloc | apply pw_below_drewN | apply below_drew1) | exact HB.out)) hb); clear HO211; clear HO216; clear HB; have HO211 := n0_; have HO216 := n1_; have HB := n2_; clear n0_ n1_ n2_; (try clear hb); (try clear hb2); (try clear hk); (try clear hi)) | ((with_reducible refine gate_callee (f := 33) rfl ?_); refine goesL_ (some 35) rfl rfl Tryd.func33 (by kernel_rfl) rfl #[.string a0] rfl (by (try simp only [List.map_toArray, List.map_cons, List.map_nil]); first | done | rfl | (simp only [List.length_drop, List.length_take]; rfl)) ?_; (with_reducible refine (kauditref04_Parent.calls k a0 t220 t221 t222 _ A5.out).mono ?_); rintro e w39 ⟨rfl, hb⟩; refine ⟨_, rfl, ?_⟩; have n0_ := Aside0.mk (Kd.R_below (by (with_reducible repeat (first | apply Kd.R_alloc | apply Kd.R_drewN | apply Kd.R_drew)); exact HO211.out) hb); have n1_ := Aside0.mk (Kd.R_below (by (with_reducible repeat (first | apply Kd.R_alloc | apply Kd.R_drewN | apply Kd.R_drew)); exact HO216.out) hb); have n2_ := Aside0.mk (below_step (by repeat (first | (with_reducible first | exact HB.out | apply below_alloc | apply pw_below_drewN | apply below_drew1) | exact HB.out)) hb); clear HO211; clear HO216; clear HB; have HO211 := n0_; have HO216 := n1_; have HB := n2_; clear n0_ n1_ n2_; (try clear hb); (try clear hb2); (try clear hk); (try clear hi)) | ((with_reducible refine gate_callee (f := 16) rfl ?_); refine goesL_ (some 40) rfl rfl Tryd.func16 (by kernel_rfl) rfl #[.string a0] rfl (by (try simp only [List.map_toArray, List.map_cons, List.map_nil]); first | done | rfl | (simp only [List.length_drop, List.length_take]; rfl)) ?_; (with_reducible refine (path_Name.calls a0 t223 _ A6.out).mono ?_); rintro e w40 ⟨rfl, hb⟩; refine ⟨_, rfl, ?_⟩; have n0_ := Aside0.mk (Kd.R_below (by (with_reducible repeat (first | apply Kd.R_alloc | apply Kd.R_drewN | apply Kd.R_drew)); exact HO211.out) hb); have n1_ := Aside0.mk (Kd.R_below (by (with_reducible repeat (first | apply Kd.R_alloc | apply Kd.R_drewN | apply Kd.R_drew)); exact HO216.out) hb); have n2_ := Aside0.mk (below_step (by repeat (first | (with_reducible first | exact HB.out | apply below_alloc | apply pw_below_drewN | apply below_drew1) | exact HB.out)) hb); clear HO211; clear HO216; clear HB; have HO211 := n0_; have HO216 := n1_; have HB := n2_; clear n0_ n1_ n2_; (try clear hb); (try clear hb2); (try clear hk); (try clear hi)) | ((with_reducible refine gate_callee (f := 34) rfl ?_); refine goesL_ (some 42) rfl rfl Tryd.func34 (by kernel_rfl) rfl #[.string a0] rfl (by (try simp only [List.map_toArray, List.map_cons, List.map_nil]); first | done | rfl | (simp only [List.length_drop, List.length_take]; rfl)) ?_; (with_reducible refine (kauditref04_Name.calls k a0 t224 _ A7.out).mono ?_); rintro e w' ⟨rfl, ⟨nd, rfl⟩⟩; refine ⟨_, rfl, ?_⟩) | (go_at_call 17; (with_reducible refine (path_Clean.calls k a0 t225 _ A9.out).mono ?_); rintro e w41 ⟨rfl, hb⟩; have n0_ := Aside0.mk (Kd.R_below (by (with_reducible repeat (first | apply Kd.R_alloc | apply Kd.R_drewN | apply Kd.R_drew)); exact HO211.out) hb); have n1_ := Aside0.mk (Kd.R_below (by (with_reducible repeat (first | apply Kd.R_alloc | apply Kd.R_drewN | apply Kd.R_drew)); exact HO216.out) hb); have n2_ := Aside0.mk (below_step (by repeat (first | (with_reducible first | exact HB.out | apply below_alloc | apply pw_below_drewN | apply below_drew1) | exact HB.out)) hb); clear HO211; clear HO216; clear HB; have HO211 := n0_; have HO216 := n1_; have HB := n2_; clear n0_ n1_ n2_; (try clear hb); (try clear hb2); (try clear hk); (try clear hi)) | (go_at_call 35; (with_reducible refine (kauditref04_Clean.calls k a0 t226 _ A10.out).mono ?_); rintro e w42 ⟨rfl, hb⟩; have n0_ := Aside0.mk (Kd.R_below (by (with_reducible repeat (first | apply Kd.R_alloc | apply Kd.R_drewN | apply Kd.R_drew)); exact HO211.out) hb); have n1_ := Aside0.mk (Kd.R_below (by (with_reducible repeat (first | apply Kd.R_alloc | apply Kd.R_drewN | apply Kd.R_drew)); exact HO216.out) hb); have n2_ := Aside0.mk (below_step (by repeat (first | (with_reducible first | exact HB.out | apply below_alloc | apply pw_below_drewN | apply below_drew1) | exact HB.out)) hb); clear HO211; clear HO216; clear HB; have HO211 := n0_; have HO216 := n1_; have HB := n2_; clear n0_ n1_ n2_; (try clear hb); (try clear hb2); (try clear hk); (try clear hi); obtain ⟨Ao43, co43, eo43⟩ := Kd.R_slice HO211.out; subst eo43; obtain ⟨Ao44, co44, eo44⟩ := Kd.R_slice HO216.out; subst eo44) | (go_at_call 36; (with_reducible refine (kauditlaw04_same.calls k _ _ t207 _ _ t212 true _ ?side1 ?side2 ?side3 ?side4 A12.out).mono ?_); (case side1 => repeat (first | exact (Kd.R_reads' HO211.out).2.2 | (with_reducible refine Kd.C_alloc ?_ _) | (with_reducible refine Kd.C_drewN ?_ _) | (with_reducible refine Kd.C_drew ?_))); (case side2 => exact (Kd.R_reads' HO211.out).2.1); (case side3 => repeat (first | exact (Kd.R_reads' HO216.out).2.2 | (with_reducible refine Kd.C_alloc ?_ _) | (with_reducible refine Kd.C_drewN ?_ _) | (with_reducible refine Kd.C_drew ?_))); (case side4 => exact (Kd.R_reads' HO216.out).2.1); rintro e w' ⟨rfl, ⟨nd, rfl⟩⟩))
              go_ret
              exact ⟨by first | rfl | (simp [errW_none, errW_some] <;> rfl) | (simp [*, errW_none, errW_some] <;> rfl), by repeat (first | (with_reducible first | exact HB.out | apply below_alloc | apply pw_below_drewN | apply below_drew1) | exact HB.out)⟩
          · rw [if_neg c15] at H
            have c15b0 : (t209 == t214) = false := by simpa using c15
            (try (have c15b1 : decide (t209 = t214) = false := by simpa using c15))
            (try (have c15b2 : (t209 == t214) = false := by simpa using c15))
            (try (have c15b3 : ¬ (t209 = t214) := by simpa using c15))
            clear c15
            obtain rfl := Option.some.inj H
            go_enter Tryd.func18, Tryd.ntmps18
            go_wp2_with (first | ((with_reducible refine gate_callee (f := 19) rfl ?_); refine goesL_ (some 17) rfl rfl Tryd.func19 (by kernel_rfl) rfl #[.string a0] rfl (by (try simp only [List.map_toArray, List.map_cons, List.map_nil]); first | done | rfl | (simp only [List.length_drop, List.length_take]; rfl)) ?_; (with_reducible refine (path_Split.calls a0 t207 t208 t209 _ A2.out).mono ?_); rintro e w45 ⟨v210, rfl, ho0, hb⟩; refine ⟨_, rfl, ?_⟩; have n0_ := Aside0.mk (Kd.R_lower ho0 (below_size (by repeat (first | (with_reducible first | exact HB.out | apply below_alloc | apply pw_below_drewN | apply below_drew1) | exact HB.out)))); have n1_ := Aside0.mk (below_step (by repeat (first | (with_reducible first | exact HB.out | apply below_alloc | apply pw_below_drewN | apply below_drew1) | exact HB.out)) hb); clear HB; have HO211 := n0_; have HB := n1_; clear n0_ n1_; (try clear hb); (try clear hb2); (try clear hk); (try clear hi); (try clear ho0)) | ((with_reducible refine gate_callee (f := 32) rfl ?_); refine goesL_ (some 23) rfl rfl Tryd.func32 (by kernel_rfl) rfl #[.string a0] rfl (by (try simp only [List.map_toArray, List.map_cons, List.map_nil]); first | done | rfl | (simp only [List.length_drop, List.length_take]; rfl)) ?_; (with_reducible refine (kauditref04_Split.calls k a0 t212 t213 t214 _ A3.out).mono ?_); rintro e w46 ⟨v215, rfl, ho0, hb⟩; refine ⟨_, rfl, ?_⟩; have n0_ := Aside0.mk (Kd.R_elder' (by (with_reducible repeat (first | apply Kd.R_alloc | apply Kd.R_drewN | apply Kd.R_drew)); exact HO211.out) (Kd.R_base ho0) hb); have n1_ := Aside0.mk (Kd.R_lower (Kd.R_new' ho0 (Kd.R_lt (by (with_reducible repeat (first | apply Kd.R_alloc | apply Kd.R_drewN | apply Kd.R_drew)); exact HO211.out))) (below_size (by repeat (first | (with_reducible first | exact HB.out | apply below_alloc | apply pw_below_drewN | apply below_drew1) | exact HB.out)))); have n2_ := Aside0.mk (below_step (by repeat (first | (with_reducible first | exact HB.out | apply below_alloc | apply pw_below_drewN | apply below_drew1) | exact HB.out)) hb); clear HO211; clear HB; have HO211 := n0_; have HO216 := n1_; have HB := n2_; clear n0_ n1_ n2_; (try clear hb); (try clear hb2); (try clear hk); (try clear hi); (try clear ho0)) | ((with_reducible refine gate_callee (f := 21) rfl ?_); refine goesL_ (some 29) rfl rfl Tryd.func21 (by kernel_rfl) rfl #[.string a0] rfl (by (try simp only [List.map_toArray, List.map_cons, List.map_nil]); first | done | rfl | (simp only [List.length_drop, List.length_take]; rfl)) ?_; (with_reducible refine (path_Parent.calls k a0 t217 t218 t219 _ A4.out).mono ?_); rintro e w47 ⟨rfl, hb⟩; refine ⟨_, rfl, ?_⟩; have n0_ := Aside0.mk (Kd.R_below (by (with_reducible repeat (first | apply Kd.R_alloc | apply Kd.R_drewN | apply Kd.R_drew)); exact HO211.out) hb); have n1_ := Aside0.mk (Kd.R_below (by (with_reducible repeat (first | apply Kd.R_alloc | apply Kd.R_drewN | apply Kd.R_drew)); exact HO216.out) hb); have n2_ := Aside0.mk (below_step (by repeat (first | (with_reducible first | exact HB.out | apply below_alloc | apply pw_below_drewN | apply below_drew1) | exact HB.out)) hb); clear HO211; clear HO216; clear HB; have HO211 := n0_; have HO216 := n1_; have HB := n2_; clear n0_ n1_ n2_; (try clear hb); (try clear hb2); (try clear hk); (try clear hi)) | ((with_reducible refine gate_callee (f := 33) rfl ?_); refine goesL_ (some 35) rfl rfl Tryd.func33 (by kernel_rfl) rfl #[.string a0] rfl (by (try simp only [List.map_toArray, List.map_cons, List.map_nil]); first | done | rfl | (simp only [List.length_drop, List.length_take]; rfl)) ?_; (with_reducible refine (kauditref04_Parent.calls k a0 t220 t221 t222 _ A5.out).mono ?_); rintro e w48 ⟨rfl, hb⟩; refine ⟨_, rfl, ?_⟩; have n0_ := Aside0.mk (Kd.R_below (by (with_reducible repeat (first | apply Kd.R_alloc | apply Kd.R_drewN | apply Kd.R_drew)); exact HO211.out) hb); have n1_ := Aside0.mk (Kd.R_below (by (with_reducible repeat (first | apply Kd.R_alloc | apply Kd.R_drewN | apply Kd.R_drew)); exact HO216.out) hb); have n2_ := Aside0.mk (below_step (by repeat (first | (with_reducible first | exact HB.out | apply below_alloc | apply pw_below_drewN | apply below_drew1) | exact HB.out)) hb); clear HO211; clear HO216; clear HB; have HO211 := n0_; have HO216 := n1_; have HB := n2_; clear n0_ n1_ n2_; (try clear hb); (try clear hb2); (try clear hk); (try clear hi)) | ((with_reducible refine gate_callee (f := 16) rfl ?_); refine goesL_ (some 40) rfl rfl Tryd.func16 (by kernel_rfl) rfl #[.string a0] rfl (by (try simp only [List.map_toArray, List.map_cons, List.map_nil]); first | done | rfl | (simp only [List.length_drop, List.length_take]; rfl)) ?_; (with_reducible refine (path_Name.calls a0 t223 _ A6.out).mono ?_); rintro e w49 ⟨rfl, hb⟩; refine ⟨_, rfl, ?_⟩; have n0_ := Aside0.mk (Kd.R_below (by (with_reducible repeat (first | apply Kd.R_alloc | apply Kd.R_drewN | apply Kd.R_drew)); exact HO211.out) hb); have n1_ := Aside0.mk (Kd.R_below (by (with_reducible repeat (first | apply Kd.R_alloc | apply Kd.R_drewN | apply Kd.R_drew)); exact HO216.out) hb); have n2_ := Aside0.mk (below_step (by repeat (first | (with_reducible first | exact HB.out | apply below_alloc | apply pw_below_drewN | apply below_drew1) | exact HB.out)) hb); clear HO211; clear HO216; clear HB; have HO211 := n0_; have HO216 := n1_; have HB := n2_; clear n0_ n1_ n2_; (try clear hb); (try clear hb2); (try clear hk); (try clear hi)) | ((with_reducible refine gate_callee (f := 34) rfl ?_); refine goesL_ (some 42) rfl rfl Tryd.func34 (by kernel_rfl) rfl #[.string a0] rfl (by (try simp only [List.map_toArray, List.map_cons, List.map_nil]); first | done | rfl | (simp only [List.length_drop, List.length_take]; rfl)) ?_; (with_reducible refine (kauditref04_Name.calls k a0 t224 _ A7.out).mono ?_); rintro e w' ⟨rfl, ⟨nd, rfl⟩⟩; refine ⟨_, rfl, ?_⟩) | (go_at_call 17; (with_reducible refine (path_Clean.calls k a0 t225 _ A9.out).mono ?_); rintro e w50 ⟨rfl, hb⟩; have n0_ := Aside0.mk (Kd.R_below (by (with_reducible repeat (first | apply Kd.R_alloc | apply Kd.R_drewN | apply Kd.R_drew)); exact HO211.out) hb); have n1_ := Aside0.mk (Kd.R_below (by (with_reducible repeat (first | apply Kd.R_alloc | apply Kd.R_drewN | apply Kd.R_drew)); exact HO216.out) hb); have n2_ := Aside0.mk (below_step (by repeat (first | (with_reducible first | exact HB.out | apply below_alloc | apply pw_below_drewN | apply below_drew1) | exact HB.out)) hb); clear HO211; clear HO216; clear HB; have HO211 := n0_; have HO216 := n1_; have HB := n2_; clear n0_ n1_ n2_; (try clear hb); (try clear hb2); (try clear hk); (try clear hi)) | (go_at_call 35; (with_reducible refine (kauditref04_Clean.calls k a0 t226 _ A10.out).mono ?_); rintro e w51 ⟨rfl, hb⟩; have n0_ := Aside0.mk (Kd.R_below (by (with_reducible repeat (first | apply Kd.R_alloc | apply Kd.R_drewN | apply Kd.R_drew)); exact HO211.out) hb); have n1_ := Aside0.mk (Kd.R_below (by (with_reducible repeat (first | apply Kd.R_alloc | apply Kd.R_drewN | apply Kd.R_drew)); exact HO216.out) hb); have n2_ := Aside0.mk (below_step (by repeat (first | (with_reducible first | exact HB.out | apply below_alloc | apply pw_below_drewN | apply below_drew1) | exact HB.out)) hb); clear HO211; clear HO216; clear HB; have HO211 := n0_; have HO216 := n1_; have HB := n2_; clear n0_ n1_ n2_; (try clear hb); (try clear hb2); (try clear hk); (try clear hi); obtain ⟨Ao52, co52, eo52⟩ := Kd.R_slice HO211.out; subst eo52; obtain ⟨Ao53, co53, eo53⟩ := Kd.R_slice HO216.out; subst eo53) | (go_at_call 36; (with_reducible refine (kauditlaw04_same.calls k _ _ t207 _ _ t212 true _ ?side1 ?side2 ?side3 ?side4 A12.out).mono ?_); (case side1 => repeat (first | exact (Kd.R_reads' HO211.out).2.2 | (with_reducible refine Kd.C_alloc ?_ _) | (with_reducible refine Kd.C_drewN ?_ _) | (with_reducible refine Kd.C_drew ?_))); (case side2 => exact (Kd.R_reads' HO211.out).2.1); (case side3 => repeat (first | exact (Kd.R_reads' HO216.out).2.2 | (with_reducible refine Kd.C_alloc ?_ _) | (with_reducible refine Kd.C_drewN ?_ _) | (with_reducible refine Kd.C_drew ?_))); (case side4 => exact (Kd.R_reads' HO216.out).2.1); rintro e w' ⟨rfl, ⟨nd, rfl⟩⟩))
            go_ret
            exact ⟨by first | rfl | (simp [errW_none, errW_some] <;> rfl) | (simp [*, errW_none, errW_some] <;> rfl), by repeat (first | (with_reducible first | exact HB.out | apply below_alloc | apply pw_below_drewN | apply below_drew1) | exact HB.out)⟩
        · rw [if_neg c14] at H
          have c14b0 : (t208 == t213) = false := by simpa using c14
          (try (have c14b1 : decide (t208 = t213) = false := by simpa using c14))
          (try (have c14b2 : (t208 == t213) = false := by simpa using c14))
          (try (have c14b3 : ¬ (t208 = t213) := by simpa using c14))
          clear c14
          obtain rfl := Option.some.inj H
          go_enter Tryd.func18, Tryd.ntmps18
          go_wp2_with (first | ((with_reducible refine gate_callee (f := 19) rfl ?_); refine goesL_ (some 17) rfl rfl Tryd.func19 (by kernel_rfl) rfl #[.string a0] rfl (by (try simp only [List.map_toArray, List.map_cons, List.map_nil]); first | done | rfl | (simp only [List.length_drop, List.length_take]; rfl)) ?_; (with_reducible refine (path_Split.calls a0 t207 t208 t209 _ A2.out).mono ?_); rintro e w54 ⟨v210, rfl, ho0, hb⟩; refine ⟨_, rfl, ?_⟩; have n0_ := Aside0.mk (Kd.R_lower ho0 (below_size (by repeat (first | (with_reducible first | exact HB.out | apply below_alloc | apply pw_below_drewN | apply below_drew1) | exact HB.out)))); have n1_ := Aside0.mk (below_step (by repeat (first | (with_reducible first | exact HB.out | apply below_alloc | apply pw_below_drewN | apply below_drew1) | exact HB.out)) hb); clear HB; have HO211 := n0_; have HB := n1_; clear n0_ n1_; (try clear hb); (try clear hb2); (try clear hk); (try clear hi); (try clear ho0)) | ((with_reducible refine gate_callee (f := 32) rfl ?_); refine goesL_ (some 23) rfl rfl Tryd.func32 (by kernel_rfl) rfl #[.string a0] rfl (by (try simp only [List.map_toArray, List.map_cons, List.map_nil]); first | done | rfl | (simp only [List.length_drop, List.length_take]; rfl)) ?_; (with_reducible refine (kauditref04_Split.calls k a0 t212 t213 t214 _ A3.out).mono ?_); rintro e w55 ⟨v215, rfl, ho0, hb⟩; refine ⟨_, rfl, ?_⟩; have n0_ := Aside0.mk (Kd.R_elder' (by (with_reducible repeat (first | apply Kd.R_alloc | apply Kd.R_drewN | apply Kd.R_drew)); exact HO211.out) (Kd.R_base ho0) hb); have n1_ := Aside0.mk (Kd.R_lower (Kd.R_new' ho0 (Kd.R_lt (by (with_reducible repeat (first | apply Kd.R_alloc | apply Kd.R_drewN | apply Kd.R_drew)); exact HO211.out))) (below_size (by repeat (first | (with_reducible first | exact HB.out | apply below_alloc | apply pw_below_drewN | apply below_drew1) | exact HB.out)))); have n2_ := Aside0.mk (below_step (by repeat (first | (with_reducible first | exact HB.out | apply below_alloc | apply pw_below_drewN | apply below_drew1) | exact HB.out)) hb); clear HO211; clear HB; have HO211 := n0_; have HO216 := n1_; have HB := n2_; clear n0_ n1_ n2_; (try clear hb); (try clear hb2); (try clear hk); (try clear hi); (try clear ho0)) | ((with_reducible refine gate_callee (f := 21) rfl ?_); refine goesL_ (some 29) rfl rfl Tryd.func21 (by kernel_rfl) rfl #[.string a0] rfl (by (try simp only [List.map_toArray, List.map_cons, List.map_nil]); first | done | rfl | (simp only [List.length_drop, List.length_take]; rfl)) ?_; (with_reducible refine (path_Parent.calls k a0 t217 t218 t219 _ A4.out).mono ?_); rintro e w56 ⟨rfl, hb⟩; refine ⟨_, rfl, ?_⟩; have n0_ := Aside0.mk (Kd.R_below (by (with_reducible repeat (first | apply Kd.R_alloc | apply Kd.R_drewN | apply Kd.R_drew)); exact HO211.out) hb); have n1_ := Aside0.mk (Kd.R_below (by (with_reducible repeat (first | apply Kd.R_alloc | apply Kd.R_drewN | apply Kd.R_drew)); exact HO216.out) hb); have n2_ := Aside0.mk (below_step (by repeat (first | (with_reducible first | exact HB.out | apply below_alloc | apply pw_below_drewN | apply below_drew1) | exact HB.out)) hb); clear HO211; clear HO216; clear HB; have HO211 := n0_; have HO216 := n1_; have HB := n2_; clear n0_ n1_ n2_; (try clear hb); (try clear hb2); (try clear hk); (try clear hi)) | ((with_reducible refine gate_callee (f := 33) rfl ?_); refine goesL_ (some 35) rfl rfl Tryd.func33 (by kernel_rfl) rfl #[.string a0] rfl (by (try simp only [List.map_toArray, List.map_cons, List.map_nil]); first | done | rfl | (simp only [List.length_drop, List.length_take]; rfl)) ?_; (with_reducible refine (kauditref04_Parent.calls k a0 t220 t221 t222 _ A5.out).mono ?_); rintro e w57 ⟨rfl, hb⟩; refine ⟨_, rfl, ?_⟩; have n0_ := Aside0.mk (Kd.R_below (by (with_reducible repeat (first | apply Kd.R_alloc | apply Kd.R_drewN | apply Kd.R_drew)); exact HO211.out) hb); have n1_ := Aside0.mk (Kd.R_below (by (with_reducible repeat (first | apply Kd.R_alloc | apply Kd.R_drewN | apply Kd.R_drew)); exact HO216.out) hb); have n2_ := Aside0.mk (below_step (by repeat (first | (with_reducible first | exact HB.out | apply below_alloc | apply pw_below_drewN | apply below_drew1) | exact HB.out)) hb); clear HO211; clear HO216; clear HB; have HO211 := n0_; have HO216 := n1_; have HB := n2_; clear n0_ n1_ n2_; (try clear hb); (try clear hb2); (try clear hk); (try clear hi)) | ((with_reducible refine gate_callee (f := 16) rfl ?_); refine goesL_ (some 40) rfl rfl Tryd.func16 (by kernel_rfl) rfl #[.string a0] rfl (by (try simp only [List.map_toArray, List.map_cons, List.map_nil]); first | done | rfl | (simp only [List.length_drop, List.length_take]; rfl)) ?_; (with_reducible refine (path_Name.calls a0 t223 _ A6.out).mono ?_); rintro e w58 ⟨rfl, hb⟩; refine ⟨_, rfl, ?_⟩; have n0_ := Aside0.mk (Kd.R_below (by (with_reducible repeat (first | apply Kd.R_alloc | apply Kd.R_drewN | apply Kd.R_drew)); exact HO211.out) hb); have n1_ := Aside0.mk (Kd.R_below (by (with_reducible repeat (first | apply Kd.R_alloc | apply Kd.R_drewN | apply Kd.R_drew)); exact HO216.out) hb); have n2_ := Aside0.mk (below_step (by repeat (first | (with_reducible first | exact HB.out | apply below_alloc | apply pw_below_drewN | apply below_drew1) | exact HB.out)) hb); clear HO211; clear HO216; clear HB; have HO211 := n0_; have HO216 := n1_; have HB := n2_; clear n0_ n1_ n2_; (try clear hb); (try clear hb2); (try clear hk); (try clear hi)) | ((with_reducible refine gate_callee (f := 34) rfl ?_); refine goesL_ (some 42) rfl rfl Tryd.func34 (by kernel_rfl) rfl #[.string a0] rfl (by (try simp only [List.map_toArray, List.map_cons, List.map_nil]); first | done | rfl | (simp only [List.length_drop, List.length_take]; rfl)) ?_; (with_reducible refine (kauditref04_Name.calls k a0 t224 _ A7.out).mono ?_); rintro e w' ⟨rfl, ⟨nd, rfl⟩⟩; refine ⟨_, rfl, ?_⟩) | (go_at_call 17; (with_reducible refine (path_Clean.calls k a0 t225 _ A9.out).mono ?_); rintro e w59 ⟨rfl, hb⟩; have n0_ := Aside0.mk (Kd.R_below (by (with_reducible repeat (first | apply Kd.R_alloc | apply Kd.R_drewN | apply Kd.R_drew)); exact HO211.out) hb); have n1_ := Aside0.mk (Kd.R_below (by (with_reducible repeat (first | apply Kd.R_alloc | apply Kd.R_drewN | apply Kd.R_drew)); exact HO216.out) hb); have n2_ := Aside0.mk (below_step (by repeat (first | (with_reducible first | exact HB.out | apply below_alloc | apply pw_below_drewN | apply below_drew1) | exact HB.out)) hb); clear HO211; clear HO216; clear HB; have HO211 := n0_; have HO216 := n1_; have HB := n2_; clear n0_ n1_ n2_; (try clear hb); (try clear hb2); (try clear hk); (try clear hi)) | (go_at_call 35; (with_reducible refine (kauditref04_Clean.calls k a0 t226 _ A10.out).mono ?_); rintro e w60 ⟨rfl, hb⟩; have n0_ := Aside0.mk (Kd.R_below (by (with_reducible repeat (first | apply Kd.R_alloc | apply Kd.R_drewN | apply Kd.R_drew)); exact HO211.out) hb); have n1_ := Aside0.mk (Kd.R_below (by (with_reducible repeat (first | apply Kd.R_alloc | apply Kd.R_drewN | apply Kd.R_drew)); exact HO216.out) hb); have n2_ := Aside0.mk (below_step (by repeat (first | (with_reducible first | exact HB.out | apply below_alloc | apply pw_below_drewN | apply below_drew1) | exact HB.out)) hb); clear HO211; clear HO216; clear HB; have HO211 := n0_; have HO216 := n1_; have HB := n2_; clear n0_ n1_ n2_; (try clear hb); (try clear hb2); (try clear hk); (try clear hi); obtain ⟨Ao61, co61, eo61⟩ := Kd.R_slice HO211.out; subst eo61; obtain ⟨Ao62, co62, eo62⟩ := Kd.R_slice HO216.out; subst eo62) | (go_at_call 36; (with_reducible refine (kauditlaw04_same.calls k _ _ t207 _ _ t212 true _ ?side1 ?side2 ?side3 ?side4 A12.out).mono ?_); (case side1 => repeat (first | exact (Kd.R_reads' HO211.out).2.2 | (with_reducible refine Kd.C_alloc ?_ _) | (with_reducible refine Kd.C_drewN ?_ _) | (with_reducible refine Kd.C_drew ?_))); (case side2 => exact (Kd.R_reads' HO211.out).2.1); (case side3 => repeat (first | exact (Kd.R_reads' HO216.out).2.2 | (with_reducible refine Kd.C_alloc ?_ _) | (with_reducible refine Kd.C_drewN ?_ _) | (with_reducible refine Kd.C_drew ?_))); (case side4 => exact (Kd.R_reads' HO216.out).2.1); rintro e w' ⟨rfl, ⟨nd, rfl⟩⟩))
          go_ret
          exact ⟨by first | rfl | (simp [errW_none, errW_some] <;> rfl) | (simp [*, errW_none, errW_some] <;> rfl), by repeat (first | (with_reducible first | exact HB.out | apply below_alloc | apply pw_below_drewN | apply below_drew1) | exact HB.out)⟩
      · replace c13 := Bool.eq_false_iff.mpr c13
        subst c13
        have H1 : (some false) = some r := by rw [if_neg (show ¬ (false = true) by decide)] at H; exact H
        clear H
        have H := H1
        clear H1
        obtain rfl := Option.some.inj H
        go_enter Tryd.func18, Tryd.ntmps18
        go_wp2_with (first | ((with_reducible refine gate_callee (f := 19) rfl ?_); refine goesL_ (some 17) rfl rfl Tryd.func19 (by kernel_rfl) rfl #[.string a0] rfl (by (try simp only [List.map_toArray, List.map_cons, List.map_nil]); first | done | rfl | (simp only [List.length_drop, List.length_take]; rfl)) ?_; (with_reducible refine (path_Split.calls a0 t207 t208 t209 _ A2.out).mono ?_); rintro e w63 ⟨v210, rfl, ho0, hb⟩; refine ⟨_, rfl, ?_⟩; have n0_ := Aside0.mk (Kd.R_lower ho0 (below_size (by repeat (first | (with_reducible first | exact HB.out | apply below_alloc | apply pw_below_drewN | apply below_drew1) | exact HB.out)))); have n1_ := Aside0.mk (below_step (by repeat (first | (with_reducible first | exact HB.out | apply below_alloc | apply pw_below_drewN | apply below_drew1) | exact HB.out)) hb); clear HB; have HO211 := n0_; have HB := n1_; clear n0_ n1_; (try clear hb); (try clear hb2); (try clear hk); (try clear hi); (try clear ho0)) | ((with_reducible refine gate_callee (f := 32) rfl ?_); refine goesL_ (some 23) rfl rfl Tryd.func32 (by kernel_rfl) rfl #[.string a0] rfl (by (try simp only [List.map_toArray, List.map_cons, List.map_nil]); first | done | rfl | (simp only [List.length_drop, List.length_take]; rfl)) ?_; (with_reducible refine (kauditref04_Split.calls k a0 t212 t213 t214 _ A3.out).mono ?_); rintro e w64 ⟨v215, rfl, ho0, hb⟩; refine ⟨_, rfl, ?_⟩; have n0_ := Aside0.mk (Kd.R_elder' (by (with_reducible repeat (first | apply Kd.R_alloc | apply Kd.R_drewN | apply Kd.R_drew)); exact HO211.out) (Kd.R_base ho0) hb); have n1_ := Aside0.mk (Kd.R_lower (Kd.R_new' ho0 (Kd.R_lt (by (with_reducible repeat (first | apply Kd.R_alloc | apply Kd.R_drewN | apply Kd.R_drew)); exact HO211.out))) (below_size (by repeat (first | (with_reducible first | exact HB.out | apply below_alloc | apply pw_below_drewN | apply below_drew1) | exact HB.out)))); have n2_ := Aside0.mk (below_step (by repeat (first | (with_reducible first | exact HB.out | apply below_alloc | apply pw_below_drewN | apply below_drew1) | exact HB.out)) hb); clear HO211; clear HB; have HO211 := n0_; have HO216 := n1_; have HB := n2_; clear n0_ n1_ n2_; (try clear hb); (try clear hb2); (try clear hk); (try clear hi); (try clear ho0)) | ((with_reducible refine gate_callee (f := 21) rfl ?_); refine goesL_ (some 29) rfl rfl Tryd.func21 (by kernel_rfl) rfl #[.string a0] rfl (by (try simp only [List.map_toArray, List.map_cons, List.map_nil]); first | done | rfl | (simp only [List.length_drop, List.length_take]; rfl)) ?_; (with_reducible refine (path_Parent.calls k a0 t217 t218 t219 _ A4.out).mono ?_); rintro e w65 ⟨rfl, hb⟩; refine ⟨_, rfl, ?_⟩; have n0_ := Aside0.mk (Kd.R_below (by (with_reducible repeat (first | apply Kd.R_alloc | apply Kd.R_drewN | apply Kd.R_drew)); exact HO211.out) hb); have n1_ := Aside0.mk (Kd.R_below (by (with_reducible repeat (first | apply Kd.R_alloc | apply Kd.R_drewN | apply Kd.R_drew)); exact HO216.out) hb); have n2_ := Aside0.mk (below_step (by repeat (first | (with_reducible first | exact HB.out | apply below_alloc | apply pw_below_drewN | apply below_drew1) | exact HB.out)) hb); clear HO211; clear HO216; clear HB; have HO211 := n0_; have HO216 := n1_; have HB := n2_; clear n0_ n1_ n2_; (try clear hb); (try clear hb2); (try clear hk); (try clear hi)) | ((with_reducible refine gate_callee (f := 33) rfl ?_); refine goesL_ (some 35) rfl rfl Tryd.func33 (by kernel_rfl) rfl #[.string a0] rfl (by (try simp only [List.map_toArray, List.map_cons, List.map_nil]); first | done | rfl | (simp only [List.length_drop, List.length_take]; rfl)) ?_; (with_reducible refine (kauditref04_Parent.calls k a0 t220 t221 t222 _ A5.out).mono ?_); rintro e w66 ⟨rfl, hb⟩; refine ⟨_, rfl, ?_⟩; have n0_ := Aside0.mk (Kd.R_below (by (with_reducible repeat (first | apply Kd.R_alloc | apply Kd.R_drewN | apply Kd.R_drew)); exact HO211.out) hb); have n1_ := Aside0.mk (Kd.R_below (by (with_reducible repeat (first | apply Kd.R_alloc | apply Kd.R_drewN | apply Kd.R_drew)); exact HO216.out) hb); have n2_ := Aside0.mk (below_step (by repeat (first | (with_reducible first | exact HB.out | apply below_alloc | apply pw_below_drewN | apply below_drew1) | exact HB.out)) hb); clear HO211; clear HO216; clear HB; have HO211 := n0_; have HO216 := n1_; have HB := n2_; clear n0_ n1_ n2_; (try clear hb); (try clear hb2); (try clear hk); (try clear hi)) | ((with_reducible refine gate_callee (f := 16) rfl ?_); refine goesL_ (some 40) rfl rfl Tryd.func16 (by kernel_rfl) rfl #[.string a0] rfl (by (try simp only [List.map_toArray, List.map_cons, List.map_nil]); first | done | rfl | (simp only [List.length_drop, List.length_take]; rfl)) ?_; (with_reducible refine (path_Name.calls a0 t223 _ A6.out).mono ?_); rintro e w67 ⟨rfl, hb⟩; refine ⟨_, rfl, ?_⟩; have n0_ := Aside0.mk (Kd.R_below (by (with_reducible repeat (first | apply Kd.R_alloc | apply Kd.R_drewN | apply Kd.R_drew)); exact HO211.out) hb); have n1_ := Aside0.mk (Kd.R_below (by (with_reducible repeat (first | apply Kd.R_alloc | apply Kd.R_drewN | apply Kd.R_drew)); exact HO216.out) hb); have n2_ := Aside0.mk (below_step (by repeat (first | (with_reducible first | exact HB.out | apply below_alloc | apply pw_below_drewN | apply below_drew1) | exact HB.out)) hb); clear HO211; clear HO216; clear HB; have HO211 := n0_; have HO216 := n1_; have HB := n2_; clear n0_ n1_ n2_; (try clear hb); (try clear hb2); (try clear hk); (try clear hi)) | ((with_reducible refine gate_callee (f := 34) rfl ?_); refine goesL_ (some 42) rfl rfl Tryd.func34 (by kernel_rfl) rfl #[.string a0] rfl (by (try simp only [List.map_toArray, List.map_cons, List.map_nil]); first | done | rfl | (simp only [List.length_drop, List.length_take]; rfl)) ?_; (with_reducible refine (kauditref04_Name.calls k a0 t224 _ A7.out).mono ?_); rintro e w' ⟨rfl, ⟨nd, rfl⟩⟩; refine ⟨_, rfl, ?_⟩) | (go_at_call 17; (with_reducible refine (path_Clean.calls k a0 t225 _ A9.out).mono ?_); rintro e w68 ⟨rfl, hb⟩; have n0_ := Aside0.mk (Kd.R_below (by (with_reducible repeat (first | apply Kd.R_alloc | apply Kd.R_drewN | apply Kd.R_drew)); exact HO211.out) hb); have n1_ := Aside0.mk (Kd.R_below (by (with_reducible repeat (first | apply Kd.R_alloc | apply Kd.R_drewN | apply Kd.R_drew)); exact HO216.out) hb); have n2_ := Aside0.mk (below_step (by repeat (first | (with_reducible first | exact HB.out | apply below_alloc | apply pw_below_drewN | apply below_drew1) | exact HB.out)) hb); clear HO211; clear HO216; clear HB; have HO211 := n0_; have HO216 := n1_; have HB := n2_; clear n0_ n1_ n2_; (try clear hb); (try clear hb2); (try clear hk); (try clear hi)) | (go_at_call 35; (with_reducible refine (kauditref04_Clean.calls k a0 t226 _ A10.out).mono ?_); rintro e w69 ⟨rfl, hb⟩; have n0_ := Aside0.mk (Kd.R_below (by (with_reducible repeat (first | apply Kd.R_alloc | apply Kd.R_drewN | apply Kd.R_drew)); exact HO211.out) hb); have n1_ := Aside0.mk (Kd.R_below (by (with_reducible repeat (first | apply Kd.R_alloc | apply Kd.R_drewN | apply Kd.R_drew)); exact HO216.out) hb); have n2_ := Aside0.mk (below_step (by repeat (first | (with_reducible first | exact HB.out | apply below_alloc | apply pw_below_drewN | apply below_drew1) | exact HB.out)) hb); clear HO211; clear HO216; clear HB; have HO211 := n0_; have HO216 := n1_; have HB := n2_; clear n0_ n1_ n2_; (try clear hb); (try clear hb2); (try clear hk); (try clear hi); obtain ⟨Ao70, co70, eo70⟩ := Kd.R_slice HO211.out; subst eo70; obtain ⟨Ao71, co71, eo71⟩ := Kd.R_slice HO216.out; subst eo71) | (go_at_call 36; (with_reducible refine (kauditlaw04_same.calls k _ _ t207 _ _ t212 false _ ?side1 ?side2 ?side3 ?side4 A12.out).mono ?_); (case side1 => repeat (first | exact (Kd.R_reads' HO211.out).2.2 | (with_reducible refine Kd.C_alloc ?_ _) | (with_reducible refine Kd.C_drewN ?_ _) | (with_reducible refine Kd.C_drew ?_))); (case side2 => exact (Kd.R_reads' HO211.out).2.1); (case side3 => repeat (first | exact (Kd.R_reads' HO216.out).2.2 | (with_reducible refine Kd.C_alloc ?_ _) | (with_reducible refine Kd.C_drewN ?_ _) | (with_reducible refine Kd.C_drew ?_))); (case side4 => exact (Kd.R_reads' HO216.out).2.1); rintro e w' ⟨rfl, ⟨nd, rfl⟩⟩))
        go_ret
        exact ⟨by first | rfl | (simp [errW_none, errW_some] <;> rfl) | (simp [*, errW_none, errW_some] <;> rfl), by repeat (first | (with_reducible first | exact HB.out | apply below_alloc | apply pw_below_drewN | apply below_drew1) | exact HB.out)⟩
    · rw [if_neg c11] at H
      have c11b0 : (t225 == t226) = false := by simpa using c11
      (try (have c11b1 : decide (t225 = t226) = false := by simpa using c11))
      (try (have c11b2 : (t225 == t226) = false := by simpa using c11))
      (try (have c11b3 : ¬ (t225 = t226) := by simpa using c11))
      clear c11
      obtain rfl := Option.some.inj H
      go_enter Tryd.func18, Tryd.ntmps18
      go_wp2_with (first | ((with_reducible refine gate_callee (f := 19) rfl ?_); refine goesL_ (some 17) rfl rfl Tryd.func19 (by kernel_rfl) rfl #[.string a0] rfl (by (try simp only [List.map_toArray, List.map_cons, List.map_nil]); first | done | rfl | (simp only [List.length_drop, List.length_take]; rfl)) ?_; (with_reducible refine (path_Split.calls a0 t207 t208 t209 _ A2.out).mono ?_); rintro e w72 ⟨v210, rfl, ho0, hb⟩; refine ⟨_, rfl, ?_⟩; have n0_ := Aside0.mk (Kd.R_lower ho0 (below_size (by repeat (first | (with_reducible first | exact HB.out | apply below_alloc | apply pw_below_drewN | apply below_drew1) | exact HB.out)))); have n1_ := Aside0.mk (below_step (by repeat (first | (with_reducible first | exact HB.out | apply below_alloc | apply pw_below_drewN | apply below_drew1) | exact HB.out)) hb); clear HB; have HO211 := n0_; have HB := n1_; clear n0_ n1_; (try clear hb); (try clear hb2); (try clear hk); (try clear hi); (try clear ho0)) | ((with_reducible refine gate_callee (f := 32) rfl ?_); refine goesL_ (some 23) rfl rfl Tryd.func32 (by kernel_rfl) rfl #[.string a0] rfl (by (try simp only [List.map_toArray, List.map_cons, List.map_nil]); first | done | rfl | (simp only [List.length_drop, List.length_take]; rfl)) ?_; (with_reducible refine (kauditref04_Split.calls k a0 t212 t213 t214 _ A3.out).mono ?_); rintro e w73 ⟨v215, rfl, ho0, hb⟩; refine ⟨_, rfl, ?_⟩; have n0_ := Aside0.mk (Kd.R_elder' (by (with_reducible repeat (first | apply Kd.R_alloc | apply Kd.R_drewN | apply Kd.R_drew)); exact HO211.out) (Kd.R_base ho0) hb); have n1_ := Aside0.mk (Kd.R_lower (Kd.R_new' ho0 (Kd.R_lt (by (with_reducible repeat (first | apply Kd.R_alloc | apply Kd.R_drewN | apply Kd.R_drew)); exact HO211.out))) (below_size (by repeat (first | (with_reducible first | exact HB.out | apply below_alloc | apply pw_below_drewN | apply below_drew1) | exact HB.out)))); have n2_ := Aside0.mk (below_step (by repeat (first | (with_reducible first | exact HB.out | apply below_alloc | apply pw_below_drewN | apply below_drew1) | exact HB.out)) hb); clear HO211; clear HB; have HO211 := n0_; have HO216 := n1_; have HB := n2_; clear n0_ n1_ n2_; (try clear hb); (try clear hb2); (try clear hk); (try clear hi); (try clear ho0)) | ((with_reducible refine gate_callee (f := 21) rfl ?_); refine goesL_ (some 29) rfl rfl Tryd.func21 (by kernel_rfl) rfl #[.string a0] rfl (by (try simp only [List.map_toArray, List.map_cons, List.map_nil]); first | done | rfl | (simp only [List.length_drop, List.length_take]; rfl)) ?_; (with_reducible refine (path_Parent.calls k a0 t217 t218 t219 _ A4.out).mono ?_); rintro e w74 ⟨rfl, hb⟩; refine ⟨_, rfl, ?_⟩; have n0_ := Aside0.mk (Kd.R_below (by (with_reducible repeat (first | apply Kd.R_alloc | apply Kd.R_drewN | apply Kd.R_drew)); exact HO211.out) hb); have n1_ := Aside0.mk (Kd.R_below (by (with_reducible repeat (first | apply Kd.R_alloc | apply Kd.R_drewN | apply Kd.R_drew)); exact HO216.out) hb); have n2_ := Aside0.mk (below_step (by repeat (first | (with_reducible first | exact HB.out | apply below_alloc | apply pw_below_drewN | apply below_drew1) | exact HB.out)) hb); clear HO211; clear HO216; clear HB; have HO211 := n0_; have HO216 := n1_; have HB := n2_; clear n0_ n1_ n2_; (try clear hb); (try clear hb2); (try clear hk); (try clear hi)) | ((with_reducible refine gate_callee (f := 33) rfl ?_); refine goesL_ (some 35) rfl rfl Tryd.func33 (by kernel_rfl) rfl #[.string a0] rfl (by (try simp only [List.map_toArray, List.map_cons, List.map_nil]); first | done | rfl | (simp only [List.length_drop, List.length_take]; rfl)) ?_; (with_reducible refine (kauditref04_Parent.calls k a0 t220 t221 t222 _ A5.out).mono ?_); rintro e w75 ⟨rfl, hb⟩; refine ⟨_, rfl, ?_⟩; have n0_ := Aside0.mk (Kd.R_below (by (with_reducible repeat (first | apply Kd.R_alloc | apply Kd.R_drewN | apply Kd.R_drew)); exact HO211.out) hb); have n1_ := Aside0.mk (Kd.R_below (by (with_reducible repeat (first | apply Kd.R_alloc | apply Kd.R_drewN | apply Kd.R_drew)); exact HO216.out) hb); have n2_ := Aside0.mk (below_step (by repeat (first | (with_reducible first | exact HB.out | apply below_alloc | apply pw_below_drewN | apply below_drew1) | exact HB.out)) hb); clear HO211; clear HO216; clear HB; have HO211 := n0_; have HO216 := n1_; have HB := n2_; clear n0_ n1_ n2_; (try clear hb); (try clear hb2); (try clear hk); (try clear hi)) | ((with_reducible refine gate_callee (f := 16) rfl ?_); refine goesL_ (some 40) rfl rfl Tryd.func16 (by kernel_rfl) rfl #[.string a0] rfl (by (try simp only [List.map_toArray, List.map_cons, List.map_nil]); first | done | rfl | (simp only [List.length_drop, List.length_take]; rfl)) ?_; (with_reducible refine (path_Name.calls a0 t223 _ A6.out).mono ?_); rintro e w76 ⟨rfl, hb⟩; refine ⟨_, rfl, ?_⟩; have n0_ := Aside0.mk (Kd.R_below (by (with_reducible repeat (first | apply Kd.R_alloc | apply Kd.R_drewN | apply Kd.R_drew)); exact HO211.out) hb); have n1_ := Aside0.mk (Kd.R_below (by (with_reducible repeat (first | apply Kd.R_alloc | apply Kd.R_drewN | apply Kd.R_drew)); exact HO216.out) hb); have n2_ := Aside0.mk (below_step (by repeat (first | (with_reducible first | exact HB.out | apply below_alloc | apply pw_below_drewN | apply below_drew1) | exact HB.out)) hb); clear HO211; clear HO216; clear HB; have HO211 := n0_; have HO216 := n1_; have HB := n2_; clear n0_ n1_ n2_; (try clear hb); (try clear hb2); (try clear hk); (try clear hi)) | ((with_reducible refine gate_callee (f := 34) rfl ?_); refine goesL_ (some 42) rfl rfl Tryd.func34 (by kernel_rfl) rfl #[.string a0] rfl (by (try simp only [List.map_toArray, List.map_cons, List.map_nil]); first | done | rfl | (simp only [List.length_drop, List.length_take]; rfl)) ?_; (with_reducible refine (kauditref04_Name.calls k a0 t224 _ A7.out).mono ?_); rintro e w' ⟨rfl, ⟨nd, rfl⟩⟩; refine ⟨_, rfl, ?_⟩) | (go_at_call 17; (with_reducible refine (path_Clean.calls k a0 t225 _ A9.out).mono ?_); rintro e w77 ⟨rfl, hb⟩; have n0_ := Aside0.mk (Kd.R_below (by (with_reducible repeat (first | apply Kd.R_alloc | apply Kd.R_drewN | apply Kd.R_drew)); exact HO211.out) hb); have n1_ := Aside0.mk (Kd.R_below (by (with_reducible repeat (first | apply Kd.R_alloc | apply Kd.R_drewN | apply Kd.R_drew)); exact HO216.out) hb); have n2_ := Aside0.mk (below_step (by repeat (first | (with_reducible first | exact HB.out | apply below_alloc | apply pw_below_drewN | apply below_drew1) | exact HB.out)) hb); clear HO211; clear HO216; clear HB; have HO211 := n0_; have HO216 := n1_; have HB := n2_; clear n0_ n1_ n2_; (try clear hb); (try clear hb2); (try clear hk); (try clear hi)) | (go_at_call 35; (with_reducible refine (kauditref04_Clean.calls k a0 t226 _ A10.out).mono ?_); rintro e w78 ⟨rfl, hb⟩; have n0_ := Aside0.mk (Kd.R_below (by (with_reducible repeat (first | apply Kd.R_alloc | apply Kd.R_drewN | apply Kd.R_drew)); exact HO211.out) hb); have n1_ := Aside0.mk (Kd.R_below (by (with_reducible repeat (first | apply Kd.R_alloc | apply Kd.R_drewN | apply Kd.R_drew)); exact HO216.out) hb); have n2_ := Aside0.mk (below_step (by repeat (first | (with_reducible first | exact HB.out | apply below_alloc | apply pw_below_drewN | apply below_drew1) | exact HB.out)) hb); clear HO211; clear HO216; clear HB; have HO211 := n0_; have HO216 := n1_; have HB := n2_; clear n0_ n1_ n2_; (try clear hb); (try clear hb2); (try clear hk); (try clear hi)))
      go_ret
      exact ⟨by first | rfl | (simp [errW_none, errW_some] <;> rfl) | (simp [*, errW_none, errW_some] <;> rfl), by repeat (first | (with_reducible first | exact HB.out | apply below_alloc | apply pw_below_drewN | apply below_drew1) | exact HB.out)⟩
  · rw [if_neg c8] at H
    have c8b0 : (t223 == t224) = false := by simpa using c8
    (try (have c8b1 : decide (t223 = t224) = false := by simpa using c8))
    (try (have c8b2 : (t223 == t224) = false := by simpa using c8))
    (try (have c8b3 : ¬ (t223 = t224) := by simpa using c8))
    clear c8
    obtain rfl := Option.some.inj H
    go_enter Tryd.func18, Tryd.ntmps18
    go_wp2_with (first | ((with_reducible refine gate_callee (f := 19) rfl ?_); refine goesL_ (some 17) rfl rfl Tryd.func19 (by kernel_rfl) rfl #[.string a0] rfl (by (try simp only [List.map_toArray, List.map_cons, List.map_nil]); first | done | rfl | (simp only [List.length_drop, List.length_take]; rfl)) ?_; (with_reducible refine (path_Split.calls a0 t207 t208 t209 _ A2.out).mono ?_); rintro e w79 ⟨v210, rfl, ho0, hb⟩; refine ⟨_, rfl, ?_⟩; have n0_ := Aside0.mk (Kd.R_lower ho0 (below_size (by repeat (first | (with_reducible first | exact HB.out | apply below_alloc | apply pw_below_drewN | apply below_drew1) | exact HB.out)))); have n1_ := Aside0.mk (below_step (by repeat (first | (with_reducible first | exact HB.out | apply below_alloc | apply pw_below_drewN | apply below_drew1) | exact HB.out)) hb); clear HB; have HO211 := n0_; have HB := n1_; clear n0_ n1_; (try clear hb); (try clear hb2); (try clear hk); (try clear hi); (try clear ho0)) | ((with_reducible refine gate_callee (f := 32) rfl ?_); refine goesL_ (some 23) rfl rfl Tryd.func32 (by kernel_rfl) rfl #[.string a0] rfl (by (try simp only [List.map_toArray, List.map_cons, List.map_nil]); first | done | rfl | (simp only [List.length_drop, List.length_take]; rfl)) ?_; (with_reducible refine (kauditref04_Split.calls k a0 t212 t213 t214 _ A3.out).mono ?_); rintro e w80 ⟨v215, rfl, ho0, hb⟩; refine ⟨_, rfl, ?_⟩; have n0_ := Aside0.mk (Kd.R_elder' (by (with_reducible repeat (first | apply Kd.R_alloc | apply Kd.R_drewN | apply Kd.R_drew)); exact HO211.out) (Kd.R_base ho0) hb); have n1_ := Aside0.mk (Kd.R_lower (Kd.R_new' ho0 (Kd.R_lt (by (with_reducible repeat (first | apply Kd.R_alloc | apply Kd.R_drewN | apply Kd.R_drew)); exact HO211.out))) (below_size (by repeat (first | (with_reducible first | exact HB.out | apply below_alloc | apply pw_below_drewN | apply below_drew1) | exact HB.out)))); have n2_ := Aside0.mk (below_step (by repeat (first | (with_reducible first | exact HB.out | apply below_alloc | apply pw_below_drewN | apply below_drew1) | exact HB.out)) hb); clear HO211; clear HB; have HO211 := n0_; have HO216 := n1_; have HB := n2_; clear n0_ n1_ n2_; (try clear hb); (try clear hb2); (try clear hk); (try clear hi); (try clear ho0)) | ((with_reducible refine gate_callee (f := 21) rfl ?_); refine goesL_ (some 29) rfl rfl Tryd.func21 (by kernel_rfl) rfl #[.string a0] rfl (by (try simp only [List.map_toArray, List.map_cons, List.map_nil]); first | done | rfl | (simp only [List.length_drop, List.length_take]; rfl)) ?_; (with_reducible refine (path_Parent.calls k a0 t217 t218 t219 _ A4.out).mono ?_); rintro e w81 ⟨rfl, hb⟩; refine ⟨_, rfl, ?_⟩; have n0_ := Aside0.mk (Kd.R_below (by (with_reducible repeat (first | apply Kd.R_alloc | apply Kd.R_drewN | apply Kd.R_drew)); exact HO211.out) hb); have n1_ := Aside0.mk (Kd.R_below (by (with_reducible repeat (first | apply Kd.R_alloc | apply Kd.R_drewN | apply Kd.R_drew)); exact HO216.out) hb); have n2_ := Aside0.mk (below_step (by repeat (first | (with_reducible first | exact HB.out | apply below_alloc | apply pw_below_drewN | apply below_drew1) | exact HB.out)) hb); clear HO211; clear HO216; clear HB; have HO211 := n0_; have HO216 := n1_; have HB := n2_; clear n0_ n1_ n2_; (try clear hb); (try clear hb2); (try clear hk); (try clear hi)) | ((with_reducible refine gate_callee (f := 33) rfl ?_); refine goesL_ (some 35) rfl rfl Tryd.func33 (by kernel_rfl) rfl #[.string a0] rfl (by (try simp only [List.map_toArray, List.map_cons, List.map_nil]); first | done | rfl | (simp only [List.length_drop, List.length_take]; rfl)) ?_; (with_reducible refine (kauditref04_Parent.calls k a0 t220 t221 t222 _ A5.out).mono ?_); rintro e w82 ⟨rfl, hb⟩; refine ⟨_, rfl, ?_⟩; have n0_ := Aside0.mk (Kd.R_below (by (with_reducible repeat (first | apply Kd.R_alloc | apply Kd.R_drewN | apply Kd.R_drew)); exact HO211.out) hb); have n1_ := Aside0.mk (Kd.R_below (by (with_reducible repeat (first | apply Kd.R_alloc | apply Kd.R_drewN | apply Kd.R_drew)); exact HO216.out) hb); have n2_ := Aside0.mk (below_step (by repeat (first | (with_reducible first | exact HB.out | apply below_alloc | apply pw_below_drewN | apply below_drew1) | exact HB.out)) hb); clear HO211; clear HO216; clear HB; have HO211 := n0_; have HO216 := n1_; have HB := n2_; clear n0_ n1_ n2_; (try clear hb); (try clear hb2); (try clear hk); (try clear hi)) | ((with_reducible refine gate_callee (f := 16) rfl ?_); refine goesL_ (some 40) rfl rfl Tryd.func16 (by kernel_rfl) rfl #[.string a0] rfl (by (try simp only [List.map_toArray, List.map_cons, List.map_nil]); first | done | rfl | (simp only [List.length_drop, List.length_take]; rfl)) ?_; (with_reducible refine (path_Name.calls a0 t223 _ A6.out).mono ?_); rintro e w83 ⟨rfl, hb⟩; refine ⟨_, rfl, ?_⟩; have n0_ := Aside0.mk (Kd.R_below (by (with_reducible repeat (first | apply Kd.R_alloc | apply Kd.R_drewN | apply Kd.R_drew)); exact HO211.out) hb); have n1_ := Aside0.mk (Kd.R_below (by (with_reducible repeat (first | apply Kd.R_alloc | apply Kd.R_drewN | apply Kd.R_drew)); exact HO216.out) hb); have n2_ := Aside0.mk (below_step (by repeat (first | (with_reducible first | exact HB.out | apply below_alloc | apply pw_below_drewN | apply below_drew1) | exact HB.out)) hb); clear HO211; clear HO216; clear HB; have HO211 := n0_; have HO216 := n1_; have HB := n2_; clear n0_ n1_ n2_; (try clear hb); (try clear hb2); (try clear hk); (try clear hi)) | ((with_reducible refine gate_callee (f := 34) rfl ?_); refine goesL_ (some 42) rfl rfl Tryd.func34 (by kernel_rfl) rfl #[.string a0] rfl (by (try simp only [List.map_toArray, List.map_cons, List.map_nil]); first | done | rfl | (simp only [List.length_drop, List.length_take]; rfl)) ?_; (with_reducible refine (kauditref04_Name.calls k a0 t224 _ A7.out).mono ?_); rintro e w' ⟨rfl, ⟨nd, rfl⟩⟩; refine ⟨_, rfl, ?_⟩))
    go_ret
    exact ⟨by first | rfl | (simp [errW_none, errW_some] <;> rfl) | (simp [*, errW_none, errW_some] <;> rfl), by repeat (first | (with_reducible first | exact HB.out | apply below_alloc | apply pw_below_drewN | apply below_drew1) | exact HB.out)⟩

end Go.Proofs.YtnjabpgbpgocnaaDoor.PAll

-- PureE
/- What the reference's functions compute, in plain words on lists of bytes: the same as the program's. Condition: texts of at most 100000 bytes. -/
namespace Go.Proofs.YtnjabpgbpgocnaaDoor.PAll
open Go Go.RowKit Go.Proofs.YtnjabpgbpgocnaaDoorW.PrintWords Go.Proofs.YtnjabpgbpgocnaaDoorW.PrintLast Go.Proofs.YtnjabpgbpgocnaaDoorW.PrintMore
set_option linter.unusedVariables false
set_option linter.unusedSimpArgs false

theorem rdOf_map (ps : List (List UInt8)) (i : Nat) (h : i < ps.length) : rdOf ByteArray.empty (ps.map ofL) (i : Int) = ofL (ps[i]'h) := by
  rw [rdOf, Int.toNat_natCast, List.getD_eq_getElem?_getD, List.getElem?_map, List.getElem?_eq_getElem h]
  rfl

/-! ### Name -/
theorem refName_loop (s : ByteArray) (hs : s.size ≤ 1000) : ∀ (d i k : Nat), i + d = s.size → d + 1 ≤ k → kauditref04_Name.l0 k s (i : Int) = some (!((s.data.toList.drop i).any badByte)) := by
  intro d
  induction d with
  | zero =>
    intro i k hi hk
    obtain ⟨k, rfl⟩ : ∃ j, k = j + 1 := ⟨k - 1, by omega⟩
    rw [kauditref04_Name.l0, if_neg (by omega), List.drop_eq_nil_of_le (by rw [← size_len]; omega)]
    rfl
  | succ d ih =>
    intro i k hi hk
    obtain ⟨k, rfl⟩ : ∃ j, k = j + 1 := ⟨k - 1, by omega⟩
    have hlt : i < s.data.toList.length := by rw [← size_len]; omega
    have e2 : wrap64 ((i : Int) + 1) = ((i + 1 : Nat) : Int) := by unfold wrap64; omega
    have hb := bt_get s i hlt
    have heq : ∀ n : UInt8, (bt s (i : Int) = (n.toNat : Int)) ↔ s.data.toList[i]'hlt = n := fun n => by
      rw [hb, ← UInt8.toNat_inj]
      exact ⟨fun h => Int.ofNat.inj h, fun h => by rw [h]⟩
    have h0 := heq 0
    have h47 := heq 47
    rw [show (((0 : UInt8).toNat : Nat) : Int) = 0 from rfl] at h0
    rw [show (((47 : UInt8).toNat : Nat) : Int) = 47 from rfl] at h47
    rw [kauditref04_Name.l0, if_pos (by omega), if_pos (by omega), List.drop_eq_getElem_cons hlt, List.any_cons]
    by_cases c0 : bt s (i : Int) = 0
    · rw [if_pos c0, h0.1 c0]; rfl
    · rw [if_neg c0]
      by_cases c47 : bt s (i : Int) = 47
      · rw [if_pos c47, h47.1 c47]; rfl
      · have hbad : badByte (s.data.toList[i]'hlt) = false := by
          rw [badByte, Bool.or_eq_false_iff, beq_eq_false_iff_ne, beq_eq_false_iff_ne]
          exact ⟨fun h => c47 (h47.2 h), fun h => c0 (h0.2 h)⟩
        rw [if_neg c47, e2, ih (i + 1) k (by omega) (by omega), hbad, Bool.false_or]

theorem refName_eq (s : ByteArray) (k : Nat) (hk : 15 ≤ k) : kauditref04_Name.f k s = some (nameL s.data.toList) := by
  obtain ⟨k, rfl⟩ : ∃ j, k = j + 1 := ⟨k - 1, by omega⟩
  have hz := size_len s
  unfold kauditref04_Name.f
  rw [Lib.toList_data]
  by_cases h0 : s.data.toList = []
  · rw [if_pos (by rw [hz, h0]; decide), kauditref04_Name.j0, if_pos rfl, h0, nameL_nil]
  · have h1 : 1 ≤ s.data.toList.length := List.length_pos_iff.2 h0
    rw [if_neg (by omega)]
    by_cases h12 : s.data.toList.length ≤ 12
    · rw [if_neg (by omega)]
      by_cases h1 : s.data.toList = [46]
      · rw [if_pos h1, kauditref04_Name.j0, if_pos rfl, h1]; rfl
      · rw [if_neg h1, kauditref04_Name.j0]
        by_cases h2 : s.data.toList = [46, 46]
        · rw [h2]; rfl
        · rw [show (s.data.toList == [46, 46]) = false by simpa using h2, if_neg (by simp)]
          have hl := refName_loop s (by omega) s.size 0 k (by omega) (by omega)
          rw [show ((0 : Nat) : Int) = 0 from rfl] at hl
          rw [hl, List.drop_zero, nameL, decide_eq_true ⟨h0, h12, h1, h2⟩, Bool.true_and]
    · rw [if_pos (by omega), kauditref04_Name.j0, if_pos rfl, nameL, decide_eq_false (fun h => h12 h.2.1), Bool.false_and]

/-! ### Split -/
theorem piecesL_free : ∀ (l cur : List UInt8), Free l → piecesL cur l = if cur ++ l = [] then [] else [cur ++ l]
  | [], cur, _ => by rw [piecesL, List.append_nil]
  | b :: l, cur, h => by
    have hb : b ≠ 47 := h b (by simp)
    rw [piecesL, if_neg hb, piecesL_free l _ (fun x hx => h x (by simp [hx])), List.append_assoc, List.singleton_append]

theorem first_bt (s : ByteArray) (h0 : 0 < s.size) : (bt s 0 == 47) = firstSlash s := by
  have hl : 0 < s.data.toList.length := by rw [← size_len]; exact h0
  have hb := bt_get s 0 hl
  rw [show ((0 : Nat) : Int) = 0 from rfl] at hb
  rw [hb, firstSlash, List.head?_eq_getElem?, List.getElem?_eq_getElem hl, Bool.eq_iff_iff, decide_eq_true_eq, beq_iff_eq]
  constructor
  · intro h; congr 1; rw [← UInt8.toNat_inj]; exact Int.ofNat.inj h
  · intro h; rw [Option.some.inj h]; rfl
theorem last_bt (s : ByteArray) (h0 : 0 < s.size) : (bt s ((s.size - 1 : Nat) : Int) == 47) = lastSlash s := by
  have hlt : s.size - 1 < s.data.toList.length := by rw [← size_len]; omega
  rw [bt_get s _ hlt, lastSlash, List.getLast?_eq_getElem?, ← size_len, List.getElem?_eq_getElem hlt, Bool.eq_iff_iff, decide_eq_true_eq, beq_iff_eq]
  constructor
  · intro h; congr 1; rw [← UInt8.toNat_inj]; exact Int.ofNat.inj h
  · intro h; rw [Option.some.inj h]; rfl

theorem refSplit_end (s : ByteArray) (out : List ByteArray) (u : Int) (k : Nat) (hs : s.size ≤ 100000) (hk : 1 ≤ k) :
    kauditref04_Split.l0 k s out u ((s.size + 1 : Nat) : Int) = some (out, firstSlash s, lastSlash s) := by
  obtain ⟨k, rfl⟩ : ∃ j, k = j + 1 := ⟨k - 1, by omega⟩
  rw [kauditref04_Split.l0, if_neg (by omega)]
  by_cases h0 : 0 < s.size
  · have e : wrap64 ((s.size : Int) - 1) = ((s.size - 1 : Nat) : Int) := by unfold wrap64; omega
    rw [if_pos (by omega), if_pos (by omega), e, if_pos (by omega), if_pos (by omega), first_bt s h0, last_bt s h0]
  · have hl : s.data.toList = [] := List.length_eq_zero_iff.1 (by rw [← size_len]; omega)
    have hfirst : firstSlash s = false := by unfold firstSlash; rw [hl]; rfl
    have hlast : lastSlash s = false := by unfold lastSlash; rw [hl]; rfl
    rw [if_neg (by omega), hfirst, hlast]

theorem refSplit_loop (s : ByteArray) (hs : s.size ≤ 100000) : ∀ (d i from_ k : Nat) (out : List ByteArray), i + d = s.size → from_ ≤ i → out.length ≤ i → Free ((s.data.toList.drop from_).take (i - from_)) → 2 * d + 4 ≤ k →
    kauditref04_Split.l0 k s out (from_ : Int) (i : Int) = some (out ++ (piecesL ((s.data.toList.drop from_).take (i - from_)) (s.data.toList.drop i)).map ofL, firstSlash s, lastSlash s) := by
  intro d
  induction d with
  | zero =>
    intro i from_ k out hi hf ho hfree hk
    obtain rfl : i = s.size := by omega
    obtain ⟨k, rfl⟩ : ∃ j, k = j + 2 := ⟨k - 2, by omega⟩
    have e2 : wrap64 ((s.size : Int) + 1) = ((s.size + 1 : Nat) : Int) := by unfold wrap64; omega
    have hd : s.data.toList.drop s.size = [] := List.drop_eq_nil_of_le (by rw [← size_len]; omega)
    have hx : (s.extract from_ s.size).data.toList = (s.data.toList.drop from_).take (s.size - from_) := Lib.extract_data s from_ s.size
    rw [kauditref04_Split.l0, if_pos (by omega), if_pos rfl, kauditref04_Split.j1, if_pos rfl, hd]
    by_cases h : from_ < s.size
    · have hne : (s.data.toList.drop from_).take (s.size - from_) ≠ [] := by
        intro e
        have := congrArg List.length e
        rw [List.length_take, List.length_drop, ← size_len] at this
        simp at this
        omega
      rw [if_pos (by omega), if_pos (by omega), if_pos (by omega), if_pos (by omega), if_pos (by omega), e2, refSplit_end s _ _ k hs (by omega), piecesL, if_neg hne, Int.toNat_natCast, Int.toNat_natCast, List.map_singleton, ← hx, ofL_data]
    · obtain rfl : from_ = s.size := by omega
      rw [if_neg (by omega), e2, refSplit_end s _ _ k hs (by omega), Nat.sub_self, List.take_zero, piecesL, if_pos rfl, List.map_nil, List.append_nil]
  | succ d ih =>
    intro i from_ k out hi hf ho hfree hk
    obtain ⟨k, rfl⟩ : ∃ j, k = j + 2 := ⟨k - 2, by omega⟩
    have hlt : i < s.data.toList.length := by rw [← size_len]; omega
    have e2 : wrap64 ((i : Int) + 1) = ((i + 1 : Nat) : Int) := by unfold wrap64; omega
    have hb := bt_get s i hlt
    have h47 : (bt s (i : Int) = 47) ↔ s.data.toList[i]'hlt = 47 := by
      rw [hb, ← UInt8.toNat_inj]
      exact ⟨fun h => Int.ofNat.inj h, fun h => by rw [h]; rfl⟩
    have hx : (s.extract from_ i).data.toList = (s.data.toList.drop from_).take (i - from_) := Lib.extract_data s from_ i
    have hstep : (s.data.toList.drop from_).take (i + 1 - from_) = (s.data.toList.drop from_).take (i - from_) ++ [s.data.toList[i]'hlt] := by
      rw [show i + 1 - from_ = (i - from_) + 1 by omega, List.take_succ_eq_append_getElem (by rw [List.length_drop]; omega), List.getElem_drop]
      congr 3
      omega
    rw [kauditref04_Split.l0, if_pos (by omega), if_neg (by omega), if_pos (by omega), if_pos (by omega), kauditref04_Split.j1, List.drop_eq_getElem_cons hlt]
    by_cases c : bt s (i : Int) = 47
    · rw [if_pos (by simpa using c), h47.1 c, piecesL, if_pos rfl]
      have hnext : (s.data.toList.drop (i + 1)).take (i + 1 - (i + 1)) = [] := by simp
      have ih' := fun o ho' => ih (i + 1) (i + 1) k o (by omega) (Nat.le_refl _) ho' (by rw [hnext]; exact free_nil) (by omega)
      rw [hnext] at ih'
      by_cases h : from_ < i
      · have hne : (s.data.toList.drop from_).take (i - from_) ≠ [] := by
          intro e
          have := congrArg List.length e
          rw [List.length_take, List.length_drop] at this
          simp at this
          omega
        rw [if_pos (by omega), if_pos (by omega), if_pos (by omega), if_pos (by omega), if_pos (by omega), e2, ih' _ (by simp; omega), if_neg hne, Int.toNat_natCast, Int.toNat_natCast, List.map_cons, ← hx, ofL_data, List.append_assoc]
        rfl
      · obtain rfl : from_ = i := by omega
        rw [if_neg (by omega), e2, ih' _ (by omega), Nat.sub_self, List.take_zero, if_pos rfl]
    · have hne : s.data.toList[i]'hlt ≠ 47 := fun h => c (h47.2 h)
      rw [if_neg (by simpa using c), e2, ih (i + 1) from_ k out (by omega) (by omega) (by omega) ?_ (by omega), piecesL, if_neg hne, hstep]
      rw [hstep]
      intro x hx'
      rcases List.mem_append.1 hx' with hx' | hx'
      · exact hfree x hx'
      · rw [List.mem_singleton.1 hx']; exact hne

theorem refSplit_eq (s : ByteArray) (k : Nat) (hs : s.size ≤ 100000) (hk : 2 * s.size + 4 ≤ k) : kauditref04_Split.f k s = some (piecesOf s, firstSlash s, lastSlash s) := by
  have h := refSplit_loop s hs s.size 0 0 k [] (by omega) (Nat.le_refl _) (by simp) (by simp; exact free_nil) hk
  unfold kauditref04_Split.f
  rw [show ((0 : Nat) : Int) = 0 from rfl] at h
  rw [h]
  simp only [Nat.sub_self, List.take_zero, List.drop_zero, List.nil_append]
  rfl

end Go.Proofs.YtnjabpgbpgocnaaDoor.PAll

-- PAllx1
namespace Go.Proofs.YtnjabpgbpgocnaaDoor.PAll
open Go.RowKit Go.Proofs.YtnjabpgbpgocnaaDoorW.PrintWords Go.Proofs.YtnjabpgbpgocnaaDoorW.PrintLast Go.Proofs.YtnjabpgbpgocnaaDoorW.PrintMore
attribute [local go_sem] max2_int min2_int max_two min_two max_three min_three max_four min_four   -- for this text's walks alone
set_option linter.unusedVariables false
set_option linter.unusedSimpArgs false

/-- A state of type 39 at block g of W; what its slices lead to came in by w0. -/
def IsS39 (w0 W : World) (g : Nat) (f0 : List Int) (f1 : Int) : Prop := ∃ A0 c0, W.heap[g]? = some (.cells #[.slice A0 f0.length c0, .int .i64 f1] 39 (0, 0)) ∧ w0.heap.size ≤ g ∧ Kd.C (Kd.int .i64) w0 A0 f0.length f0
theorem IsS39.grown {w0 W : World} {g : Nat} {f0 : List Int} {f1 : Int} {W1 : World} {row : Option Nat} (h : IsS39 w0 W g f0 f1) (hw : W.grownBy W1 row) (hne : some g ≠ row) : IsS39 w0 W1 g f0 f1 := by
  obtain ⟨A0, c0, hb, hg, hr0⟩ := h
  exact ⟨A0, c0, blk_grown hb hw hne, hg, hr0⟩
theorem IsS39.own_neN {w0 W : World} {g : Nat} {f0 : List Int} {f1 : Int} {α : Type} {d : Kd α} {e : Nat} {base : Nat} {ok : Nat → Prop} {v : Value} {xs : List α} (h : IsS39 w0 W g f0 f1) (ho : Kd.N d e W base ok v xs) (ht : e ≠ 39) : some g ≠ v.ownBlock := by
  obtain ⟨A0, c0, hb, hg, hr0⟩ := h
  exact Kd.N_ne ho hb ht
theorem IsS39.fresh {w0 W : World} {g : Nat} {f0 : List Int} {f1 : Int} (h : IsS39 w0 W g f0 f1) : ∀ k, W.heap.size ≤ k → k ≠ g := by
  obtain ⟨A0, c0, hb, hg, hr0⟩ := h
  exact Kd.freshB hb
theorem IsS39.kept {w0 W : World} {g : Nat} {f0 : List Int} {f1 : Int} {W1 : World} {S : Nat → Prop} (h : IsS39 w0 W g f0 f1) (hk : Kept W W1 S) (hne : ¬ S g) : IsS39 w0 W1 g f0 f1 := by
  obtain ⟨A0, c0, hb, hg, hr0⟩ := h
  exact ⟨A0, c0, blk_kept hb hk hne, hg, hr0⟩
theorem IsS39.below {w0 W : World} {g : Nat} {f0 : List Int} {f1 : Int} {W1 : World} (h : IsS39 w0 W g f0 f1) (hw : Below W.heap.size W W1) : IsS39 w0 W1 g f0 f1 := h.grown (grown_of_below hw none) (by simp)
theorem IsS39.alloc {w0 W : World} {g : Nat} {f0 : List Int} {f1 : Int} (h : IsS39 w0 W g f0 f1) (o : Obj) : IsS39 w0 (W.alloc o) g f0 f1 := h.below (below_alloc (Below.refl _ _) o)
theorem IsS39.drewN {w0 W : World} {g : Nat} {f0 : List Int} {f1 : Int} (h : IsS39 w0 W g f0 f1) (m : Nat) : IsS39 w0 (W.drewN m) g f0 f1 := h
theorem IsS39.drew {w0 W : World} {g : Nat} {f0 : List Int} {f1 : Int} (h : IsS39 w0 W g f0 f1) : IsS39 w0 W.drew g f0 f1 := h
theorem IsS39.at_ {w0 W : World} {g : Nat} {f0 : List Int} {f1 : Int} {w' : World} {m : Nat} (hq : W.drewN m = w') (h : IsS39 w0 W g f0 f1) : IsS39 w0 w' g f0 f1 := by subst hq; exact IsS39.drewN h m
theorem IsS39.apart {w0 W : World} {g : Nat} {f0 : List Int} {f1 : Int} {α : Type} {d : Kd α} {e : Nat} {base : Nat} {ok : Nat → Prop} {v : Value} {xs : List α} (h : IsS39 w0 W g f0 f1) (ho : d.R e W base ok v xs) (ht : ∀ q, q ∈ e :: d.E → q ≠ 39) : d.R e W base (fun k => ok k ∧ k ≠ g) v xs := by
  obtain ⟨A0, c0, hb, hg, hr0⟩ := h
  exact Kd.R_types ho hb ht
theorem IsS39.own_ne {w0 W : World} {g : Nat} {f0 : List Int} {f1 : Int} {α : Type} {d : Kd α} {e : Nat} {base : Nat} {ok : Nat → Prop} {v : Value} {xs : List α} (h : IsS39 w0 W g f0 f1) (ho : d.R e W base ok v xs) (ht : e ≠ 39) : some g ≠ v.ownBlock := by
  obtain ⟨A0, c0, hb, hg, hr0⟩ := h
  exact Kd.R_ne ho hb ht
theorem IsS39.apartQ {w0 W : World} {g : Nat} {f0 : List Int} {f1 : Int} {α : Type} {d : Kd α} {e : Nat} {base : Nat} {ok : Nat → Prop} {v : Value} {xs : List α} (h : IsS39 w0 W g f0 f1) (ho : d.Q e W base ok v xs) (ht : ∀ q, q ∈ e :: d.E → q ≠ 39) : d.Q e W base (fun k => ok k ∧ k ≠ g) v xs := by
  obtain ⟨A0, c0, hb, hg, hr0⟩ := h
  exact Kd.Q_types ho hb ht
theorem IsS39.own_neQ {w0 W : World} {g : Nat} {f0 : List Int} {f1 : Int} {α : Type} {d : Kd α} {e : Nat} {base : Nat} {ok : Nat → Prop} {v : Value} {xs : List α} (h : IsS39 w0 W g f0 f1) (ho : d.Q e W base ok v xs) (ht : e ≠ 39) : some g ≠ v.ownBlock := by
  obtain ⟨A0, c0, hb, hg, hr0⟩ := h
  exact Kd.Q_ne ho hb ht
theorem IsS39.apartS {w0 W : World} {g : Nat} {f0 : List Int} {f1 : Int} {α : Type} {d : Kd α} {e : Nat} {base : Nat} {ok : Nat → Prop} {v : Value} {xs : List α} (h : IsS39 w0 W g f0 f1) (ho : d.S e W base ok v xs) (ht : ∀ q, q ∈ e :: d.E → q ≠ 39) : d.S e W base (fun k => ok k ∧ k ≠ g) v xs := by
  obtain ⟨A0, c0, hb, hg, hr0⟩ := h
  exact Kd.S_types ho hb ht
theorem IsS39.own_neS {w0 W : World} {g : Nat} {f0 : List Int} {f1 : Int} {α : Type} {d : Kd α} {e : Nat} {base : Nat} {ok : Nat → Prop} {v : Value} {xs : List α} (h : IsS39 w0 W g f0 f1) (ho : d.S e W base ok v xs) (ht : e ≠ 39) : some g ≠ v.ownBlock := by
  obtain ⟨A0, c0, hb, hg, hr0⟩ := h
  exact Kd.S_ne ho hb ht
theorem IsS39.lt {w0 W : World} {g : Nat} {f0 : List Int} {f1 : Int} (h : IsS39 w0 W g f0 f1) : g < W.heap.size := by
  obtain ⟨A0, c0, hb, hg, hr0⟩ := h
  exact blk_lt hb
theorem IsS39.ge {w0 W : World} {g : Nat} {f0 : List Int} {f1 : Int} (h : IsS39 w0 W g f0 f1) : w0.heap.size ≤ g := by
  obtain ⟨A0, c0, hb, hg, hr0⟩ := h
  exact hg
theorem IsS39.ne_blk {w0 W : World} {g : Nat} {f0 : List Int} {f1 : Int} {a : Nat} {cs : Array Value} {t : TypeId} {fr : Nat × Nat} (h : IsS39 w0 W g f0 f1) (hb2 : W.heap[a]? = some (.cells cs t fr)) (ht : t ≠ 39) : g ≠ a := by
  obtain ⟨A0, c0, hb, hg, hr0⟩ := h
  rintro rfl
  rw [hb] at hb2
  injection hb2 with hb2
  injection hb2 with _ ht2
  exact ht ht2.symm
theorem IsS39.far {w0 W : World} {g : Nat} {f0 : List Int} {f1 : Int} {p : Addr} (h : IsS39 w0 W g f0 f1) (hne : g ≠ p.block) (u : Value) : IsS39 w0 (W.setCell p u) g f0 f1 := by
  obtain ⟨A0, c0, hb, hg, hr0⟩ := h
  exact ⟨A0, c0, blk_far hb hne u, hg, hr0⟩
theorem cellS39_0 {W : World} {g : Nat} {A0 : Option Addr} {c0 : Nat} {f0 : List Int} {f1 : Int} (h : W.heap[g]? = some (.cells #[.slice A0 f0.length c0, .int .i64 f1] 39 (0, 0))) : W.cell? ⟨g, 0, none⟩ = some (.slice A0 f0.length c0) := (blk_cell h 0).trans rfl
theorem cellS39_1 {W : World} {g : Nat} {A0 : Option Addr} {c0 : Nat} {f0 : List Int} {f1 : Int} (h : W.heap[g]? = some (.cells #[.slice A0 f0.length c0, .int .i64 f1] 39 (0, 0))) : W.cell? ⟨g, 1, none⟩ = some (.int .i64 f1) := (blk_cell h 1).trans rfl
theorem IsS39.set_1 {w0 W : World} {g : Nat} {f0 : List Int} {f1 : Int} (h : IsS39 w0 W g f0 f1) (x : Int) : IsS39 w0 (W.setCell ⟨g, 1, none⟩ (.int .i64 x)) g f0 x := by
  obtain ⟨A0, c0, hb, hg, hr0⟩ := h
  exact ⟨A0, c0, by simpa using blk_set hb 1 (.int .i64 x), hg, hr0⟩
theorem IsS39.new (w0 W : World) (A0 : Option Addr) (c0 : Nat) (f0 : List Int) (f1 : Int) (hB : Below w0.heap.size w0 W) (hr0 : Kd.C (Kd.int .i64) w0 A0 f0.length f0) : IsS39 w0 (W.alloc (.cells #[.slice A0 f0.length c0, .int .i64 f1] 39)) W.heap.size f0 f1 := ⟨A0, c0, by simpa using heap_alloc_new W _, hB.size, hr0⟩

/-! ### kauditmake_New: function 10 -/
def kauditmake_New.f (l0 : List Int) : Option (List Int × Int) := some (l0, 0)
set_option maxHeartbeats 8000000 in
set_option maxRecDepth 100000 in
theorem kauditmake_New.calls (A0 : Option Addr) (c0 : Nat) (l0 : List Int) (r1 : List Int) (r2 : Int) (w0 w : World) (hB : Below w0.heap.size w0 w) (hr0 : Kd.C (Kd.int .i64) w0 A0 l0.length l0) (hc0 : l0.length ≤ c0) (h : kauditmake_New.f l0 = some (r1, r2)) :
    Calls Tryd.prog 10 #[.slice A0 l0.length c0] w fun e w' => ∃ g_ : Nat, e = .returned (.pointer (some ⟨g_, 0, none⟩)) ∧ IsS39 w0 w' g_ r1 r2 ∧ Below w0.heap.size w0 w' ∧ Below w.heap.size w w' := by
  have hu39 := Tryd.underlying39
  have HR0 := Aside0.mk hr0
  have HC0 := Aside0.mk hc0
  clear hr0 hc0
  have HBW := Aside0.mk (Below.refl w.heap.size w)
  have HW0 := Aside0.mk hB.size
  have HB := Aside0.mk hB
  clear hB
  have H : (some (l0, 0)) = some (r1, r2) := h
  clear h
  simp only [Option.some.injEq, Prod.mk.injEq] at H
  obtain ⟨rfl, rfl⟩ := H
  go_enter Tryd.func10, Tryd.ntmps10
  go_wp2_with (first | ((with_reducible refine gate_dst (N := 5) rfl ?_); refine box_event ?hg (N := 5) ?hd (cs := #[.slice A0 l0.length c0, .int .i64 0]) (t := 39) ?hr ?_; (case hd => rfl); (case hg => rfl); (case hr => first | (go_simp; done) | (go_simp; rfl)); intro gb101 hg w2 hbox hb; have n0_ := Aside0.mk (below_step HBW.out hb); have n1_ := Aside0.mk (below_step (by repeat (first | (with_reducible first | exact HB.out | apply below_alloc | apply pw_below_drewN | apply below_drew1) | exact HB.out)) hb); have n2_ := Aside0.mk (hbox); have n3_ := Aside0.mk ((by rw [hg]; exact (below_size (by repeat (first | (with_reducible first | exact HBW.out | apply below_alloc | apply pw_below_drewN | apply below_drew1) | exact HBW.out))) : w.heap.size ≤ gb101)); have n4_ := Aside0.mk ((Nat.le_trans HW0.out (by rw [hg]; exact (below_size (by repeat (first | (with_reducible first | exact HBW.out | apply below_alloc | apply pw_below_drewN | apply below_drew1) | exact HBW.out))) : w.heap.size ≤ gb101) : w0.heap.size ≤ gb101)); clear HBW; clear HB; have HBW := n0_; have HB := n1_; have BK101 := n2_; have GW101 := n3_; have GE101 := n4_; clear n0_ n1_ n2_ n3_ n4_; clear hb hbox hg))
  go_ret
  exact ⟨_, rfl, (show IsS39 w0 _ gb101 l0 0 from ⟨_, _, by (with_reducible repeat (first | refine blk_drewN ?_ _ | refine blk_drew ?_ | refine blk_alloc ?_ _)); exact BK101.out, GE101.out, HR0.out⟩), by repeat (first | (with_reducible first | exact HB.out | apply below_alloc | apply pw_below_drewN | apply below_drew1 | refine below_set ?_ GE101.out) | exact HB.out), by repeat (first | (with_reducible first | exact HBW.out | apply below_alloc | apply pw_below_drewN | apply below_drew1 | refine below_set ?_ GW101.out) | exact HBW.out)⟩

end Go.Proofs.YtnjabpgbpgocnaaDoor.PAll

-- PAllx2
namespace Go.Proofs.YtnjabpgbpgocnaaDoor.PAll
open Go.RowKit Go.Proofs.YtnjabpgbpgocnaaDoorW.PrintWords Go.Proofs.YtnjabpgbpgocnaaDoorW.PrintLast Go.Proofs.YtnjabpgbpgocnaaDoorW.PrintMore
attribute [local go_sem] max2_int min2_int max_two min_two max_three min_three max_four min_four   -- for this text's walks alone
set_option linter.unusedVariables false
set_option linter.unusedSimpArgs false

/-! ### kauditmake_Src_N: function 12 -/
def kauditmake_Src_N.f (s0_0 : List Int) (s0_1 : Int) (a1 : Int) : Option (Int × Int) := if a1 < 1 then (some (0, s0_1)) else (if (wrap64 (s0_1 + 1)) ≤ (s0_0.length : Int) then (if 0 ≤ (wrap64 ((wrap64 (s0_1 + 1)) - 1)) then (if (wrap64 ((wrap64 (s0_1 + 1)) - 1)) < (s0_0.length : Int) then (if a1 = 0 then (none) else (if (Int.tmod (rd s0_0 (wrap64 ((wrap64 (s0_1 + 1)) - 1))) a1) < 0 then (some (wrap64 ((Int.tmod (rd s0_0 (wrap64 ((wrap64 (s0_1 + 1)) - 1))) a1) + a1), wrap64 (s0_1 + 1))) else (some (Int.tmod (rd s0_0 (wrap64 ((wrap64 (s0_1 + 1)) - 1))) a1, wrap64 (s0_1 + 1))))) else (none)) else (none)) else (if a1 = 0 then (none) else (if (Int.tmod (wrap64 ((wrap64 (s0_1 + 1)) * 7)) a1) < 0 then (some (wrap64 ((Int.tmod (wrap64 ((wrap64 (s0_1 + 1)) * 7)) a1) + a1), wrap64 (s0_1 + 1))) else (some (Int.tmod (wrap64 ((wrap64 (s0_1 + 1)) * 7)) a1, wrap64 (s0_1 + 1))))))
set_option maxHeartbeats 8000000 in
set_option maxRecDepth 100000 in
theorem kauditmake_Src_N.calls (g : Nat) (s0_0 : List Int) (s0_1 : Int) (a1 : Int) (r1 : Int) (r2 : Int) (w0 w : World) (hI : IsS39 w0 w g s0_0 s0_1) (hB : Below w0.heap.size w0 w) (h : kauditmake_Src_N.f s0_0 s0_1 a1 = some (r1, r2)) :
    Calls Tryd.prog 12 #[.pointer (some ⟨g, 0, none⟩), .int .i64 a1] w fun e w' => e = .returned (.int .i64 r1) ∧ IsS39 w0 w' g s0_0 r2 ∧ Below w0.heap.size w0 w' ∧ KeepBut w w' g none := by
  have HI0 := Aside0.mk hI
  have HK := Aside0.mk (KeepBut.refl w g none)
  have HL := Aside0.mk hB.size
  clear hI
  have HW0 := Aside0.mk hB.size
  have HB := Aside0.mk hB
  clear hB
  have H : (if a1 < 1 then (some (0, s0_1)) else (if (wrap64 (s0_1 + 1)) ≤ (s0_0.length : Int) then (if 0 ≤ (wrap64 ((wrap64 (s0_1 + 1)) - 1)) then (if (wrap64 ((wrap64 (s0_1 + 1)) - 1)) < (s0_0.length : Int) then (if a1 = 0 then (none) else (if (Int.tmod (rd s0_0 (wrap64 ((wrap64 (s0_1 + 1)) - 1))) a1) < 0 then (some (wrap64 ((Int.tmod (rd s0_0 (wrap64 ((wrap64 (s0_1 + 1)) - 1))) a1) + a1), wrap64 (s0_1 + 1))) else (some (Int.tmod (rd s0_0 (wrap64 ((wrap64 (s0_1 + 1)) - 1))) a1, wrap64 (s0_1 + 1))))) else (none)) else (none)) else (if a1 = 0 then (none) else (if (Int.tmod (wrap64 ((wrap64 (s0_1 + 1)) * 7)) a1) < 0 then (some (wrap64 ((Int.tmod (wrap64 ((wrap64 (s0_1 + 1)) * 7)) a1) + a1), wrap64 (s0_1 + 1))) else (some (Int.tmod (wrap64 ((wrap64 (s0_1 + 1)) * 7)) a1, wrap64 (s0_1 + 1))))))) = some (r1, r2) := h
  clear h
  by_cases c3 : a1 < 1
  · rw [if_pos c3] at H
    have c3b0 : decide (a1 < 1) = true := decide_eq_true c3
    clear c3
    simp only [Option.some.injEq, Prod.mk.injEq] at H
    obtain ⟨rfl, rfl⟩ := H
    go_enter Tryd.func12, Tryd.ntmps12
    go_wp2
    repeat (go_quiet (fail); try go_wp2)
    go_ret
    exact ⟨by first | rfl | (simp [errW_none, errW_some] <;> rfl) | (simp [*, errW_none, errW_some] <;> rfl), by repeat (first | (with_reducible first | exact HI0.out | apply IsS39.alloc | apply IsS39.drewN | apply IsS39.drew | apply IsS39.set_1) | exact HI0.out), by repeat (first | (with_reducible first | exact HB.out | apply below_alloc | apply pw_below_drewN | apply below_drew1 | refine below_set ?_ (IsS39.ge HI0.out)) | exact HB.out), by repeat (first | (with_reducible first | exact HK.out | apply KeepBut.set_ | apply keep_drewN | apply keep_drew | apply keep_alloc) | exact HK.out)⟩
  · rw [if_neg c3] at H
    have c3b0 : decide (a1 < 1) = false := decide_eq_false c3
    clear c3
    by_cases c4 : (wrap64 (s0_1 + 1)) ≤ (s0_0.length : Int)
    · rw [if_pos c4] at H
      have c4b0 : decide ((wrap64 (s0_1 + 1)) ≤ (s0_0.length : Int)) = true := decide_eq_true c4
      clear c4
      obtain ⟨ji5, hji5⟩ : ∃ j_ : Int, (wrap64 ((wrap64 (s0_1 + 1)) - 1)) = j_ := ⟨_, rfl⟩
      replace H : (if 0 ≤ (ji5) then (if (ji5) < (s0_0.length : Int) then (if a1 = 0 then (none) else (if (Int.tmod (rd s0_0 (ji5)) a1) < 0 then (some (wrap64 ((Int.tmod (rd s0_0 (ji5)) a1) + a1), wrap64 (s0_1 + 1))) else (some (Int.tmod (rd s0_0 (ji5)) a1, wrap64 (s0_1 + 1))))) else (none)) else (none)) = some (r1, r2) := by first | (rw [hji5] at H; exact H) | (simp only [hji5] at H ⊢; exact H)
      have hji5w : (IntKind.i64.wrap ((wrap64 (s0_1 + 1)) - 1)) = ji5 := (i64_w _).trans hji5
      by_cases c6 : 0 ≤ (ji5)
      · rw [if_pos c6] at H
        have c6b0 : decide (0 ≤ (ji5)) = true := decide_eq_true c6
        clear c6
        by_cases c7 : (ji5) < (s0_0.length : Int)
        · rw [if_pos c7] at H
          have c7b0 : decide ((ji5) < (s0_0.length : Int)) = true := decide_eq_true c7
          clear c7
          by_cases c8 : a1 = 0
          · rw [if_pos c8] at H
            exact absurd H (by simp)
          · rw [if_neg c8] at H
            have c8b0 : (a1 == 0) = false := beq_eq_false_iff_ne.mpr c8
            have c8b1 : (a1 != 0) = true := bne_iff_ne.mpr c8
            by_cases c9 : (Int.tmod (rd s0_0 (ji5)) a1) < 0
            · rw [if_pos c9] at H
              have c9b0 : decide ((Int.tmod (rd s0_0 (ji5)) a1) < 0) = true := decide_eq_true c9
              clear c9
              simp only [Option.some.injEq, Prod.mk.injEq] at H
              obtain ⟨rfl, rfl⟩ := H
              obtain ⟨ASz10_0, cSz10_0, HGz10, hgz10, HSz10_0⟩ := HI0.out
              have hcz10_0 := cellS39_0 HGz10
              have hcz10_1 := cellS39_1 HGz10
              have hfz10_1 := blk_frozen HGz10 1
              clear HGz10 hgz10
              have p102 : 0 ≤ ((ji5) : Int) := of_decide_eq_true (by first | (with_reducible assumption) | assumption)
              have q102 : (ji5) < (s0_0.length : Int) := of_decide_eq_true (by first | (with_reducible assumption) | assumption)
              obtain ⟨ad102, e102, hx102_0⟩ := Kd.at_int HSz10_0 (ji5) p102 q102
              cases e102
              have hn102_0 : ad102.block ≠ g := Nat.ne_of_lt (Nat.lt_of_lt_of_le (by have := World.block_lt_of_cell? _ _ hx102_0; first | rwa [add_block] at this | exact this) (IsS39.ge HI0.out))
              replace hx102_0 := pw_cell_below HB.out hx102_0
              replace hx102_0 := (cell_far (p := ⟨g, 1, none⟩) (by first | (rw [add_block]; exact hn102_0) | (show (Addr.add _ _).block ≠ _; rw [add_block]; exact hn102_0) | exact hn102_0) (.int .i64 (wrap64 (s0_1 + 1)))).trans hx102_0
              (try have hy102_0 := fun (n_ : Nat) => (show (((w.drewN n_).setCell ⟨g, 1, none⟩ (.int .i64 (wrap64 (s0_1 + 1))))).cell? _ = some _ from hx102_0))
              clear hn102_0
              replace p102 := eq_true p102
              replace q102 := eq_true q102
              go_enter Tryd.func12, Tryd.ntmps12
              go_wp2
              repeat (go_quiet (fail); try go_wp2)
              go_ret
              exact ⟨by first | rfl | (simp [errW_none, errW_some] <;> rfl) | (simp only [← hji5]; first | rfl | (simp [errW_none, errW_some] <;> rfl)) | (simp [*, errW_none, errW_some] <;> rfl), by repeat (first | (with_reducible first | exact HI0.out | apply IsS39.alloc | apply IsS39.drewN | apply IsS39.drew | apply IsS39.set_1) | exact HI0.out), by repeat (first | (with_reducible first | exact HB.out | apply below_alloc | apply pw_below_drewN | apply below_drew1 | refine below_set ?_ (IsS39.ge HI0.out)) | exact HB.out), by repeat (first | (with_reducible first | exact HK.out | apply KeepBut.set_ | apply keep_drewN | apply keep_drew | apply keep_alloc) | exact HK.out)⟩
            · rw [if_neg c9] at H
              have c9b0 : decide ((Int.tmod (rd s0_0 (ji5)) a1) < 0) = false := decide_eq_false c9
              clear c9
              simp only [Option.some.injEq, Prod.mk.injEq] at H
              obtain ⟨rfl, rfl⟩ := H
              obtain ⟨ASz11_0, cSz11_0, HGz11, hgz11, HSz11_0⟩ := HI0.out
              have hcz11_0 := cellS39_0 HGz11
              have hcz11_1 := cellS39_1 HGz11
              have hfz11_1 := blk_frozen HGz11 1
              clear HGz11 hgz11
              have p102 : 0 ≤ ((ji5) : Int) := of_decide_eq_true (by first | (with_reducible assumption) | assumption)
              have q102 : (ji5) < (s0_0.length : Int) := of_decide_eq_true (by first | (with_reducible assumption) | assumption)
              obtain ⟨ad102, e102, hx102_0⟩ := Kd.at_int HSz11_0 (ji5) p102 q102
              cases e102
              have hn102_0 : ad102.block ≠ g := Nat.ne_of_lt (Nat.lt_of_lt_of_le (by have := World.block_lt_of_cell? _ _ hx102_0; first | rwa [add_block] at this | exact this) (IsS39.ge HI0.out))
              replace hx102_0 := pw_cell_below HB.out hx102_0
              replace hx102_0 := (cell_far (p := ⟨g, 1, none⟩) (by first | (rw [add_block]; exact hn102_0) | (show (Addr.add _ _).block ≠ _; rw [add_block]; exact hn102_0) | exact hn102_0) (.int .i64 (wrap64 (s0_1 + 1)))).trans hx102_0
              (try have hy102_0 := fun (n_ : Nat) => (show (((w.drewN n_).setCell ⟨g, 1, none⟩ (.int .i64 (wrap64 (s0_1 + 1))))).cell? _ = some _ from hx102_0))
              clear hn102_0
              replace p102 := eq_true p102
              replace q102 := eq_true q102
              go_enter Tryd.func12, Tryd.ntmps12
              go_wp2
              repeat (go_quiet (fail); try go_wp2)
              go_ret
              exact ⟨by first | rfl | (simp [errW_none, errW_some] <;> rfl) | (simp only [← hji5]; first | rfl | (simp [errW_none, errW_some] <;> rfl)) | (simp [*, errW_none, errW_some] <;> rfl), by repeat (first | (with_reducible first | exact HI0.out | apply IsS39.alloc | apply IsS39.drewN | apply IsS39.drew | apply IsS39.set_1) | exact HI0.out), by repeat (first | (with_reducible first | exact HB.out | apply below_alloc | apply pw_below_drewN | apply below_drew1 | refine below_set ?_ (IsS39.ge HI0.out)) | exact HB.out), by repeat (first | (with_reducible first | exact HK.out | apply KeepBut.set_ | apply keep_drewN | apply keep_drew | apply keep_alloc) | exact HK.out)⟩
        · rw [if_neg c7] at H
          exact absurd H (by simp)
      · rw [if_neg c6] at H
        exact absurd H (by simp)
    · rw [if_neg c4] at H
      have c4b0 : decide ((wrap64 (s0_1 + 1)) ≤ (s0_0.length : Int)) = false := decide_eq_false c4
      clear c4
      by_cases c12 : a1 = 0
      · rw [if_pos c12] at H
        exact absurd H (by simp)
      · rw [if_neg c12] at H
        have c12b0 : (a1 == 0) = false := beq_eq_false_iff_ne.mpr c12
        have c12b1 : (a1 != 0) = true := bne_iff_ne.mpr c12
        by_cases c13 : (Int.tmod (wrap64 ((wrap64 (s0_1 + 1)) * 7)) a1) < 0
        · rw [if_pos c13] at H
          have c13b0 : decide ((Int.tmod (wrap64 ((wrap64 (s0_1 + 1)) * 7)) a1) < 0) = true := decide_eq_true c13
          clear c13
          simp only [Option.some.injEq, Prod.mk.injEq] at H
          obtain ⟨rfl, rfl⟩ := H
          obtain ⟨ASz14_0, cSz14_0, HGz14, hgz14, HSz14_0⟩ := HI0.out
          have hcz14_0 := cellS39_0 HGz14
          have hcz14_1 := cellS39_1 HGz14
          have hfz14_1 := blk_frozen HGz14 1
          clear HGz14 hgz14
          go_enter Tryd.func12, Tryd.ntmps12
          go_wp2
          repeat (go_quiet (fail); try go_wp2)
          go_ret
          exact ⟨by first | rfl | (simp [errW_none, errW_some] <;> rfl) | (simp [*, errW_none, errW_some] <;> rfl), by repeat (first | (with_reducible first | exact HI0.out | apply IsS39.alloc | apply IsS39.drewN | apply IsS39.drew | apply IsS39.set_1) | exact HI0.out), by repeat (first | (with_reducible first | exact HB.out | apply below_alloc | apply pw_below_drewN | apply below_drew1 | refine below_set ?_ (IsS39.ge HI0.out)) | exact HB.out), by repeat (first | (with_reducible first | exact HK.out | apply KeepBut.set_ | apply keep_drewN | apply keep_drew | apply keep_alloc) | exact HK.out)⟩
        · rw [if_neg c13] at H
          have c13b0 : decide ((Int.tmod (wrap64 ((wrap64 (s0_1 + 1)) * 7)) a1) < 0) = false := decide_eq_false c13
          clear c13
          simp only [Option.some.injEq, Prod.mk.injEq] at H
          obtain ⟨rfl, rfl⟩ := H
          obtain ⟨ASz15_0, cSz15_0, HGz15, hgz15, HSz15_0⟩ := HI0.out
          have hcz15_0 := cellS39_0 HGz15
          have hcz15_1 := cellS39_1 HGz15
          have hfz15_1 := blk_frozen HGz15 1
          clear HGz15 hgz15
          go_enter Tryd.func12, Tryd.ntmps12
          go_wp2
          repeat (go_quiet (fail); try go_wp2)
          go_ret
          exact ⟨by first | rfl | (simp [errW_none, errW_some] <;> rfl) | (simp [*, errW_none, errW_some] <;> rfl), by repeat (first | (with_reducible first | exact HI0.out | apply IsS39.alloc | apply IsS39.drewN | apply IsS39.drew | apply IsS39.set_1) | exact HI0.out), by repeat (first | (with_reducible first | exact HB.out | apply below_alloc | apply pw_below_drewN | apply below_drew1 | refine below_set ?_ (IsS39.ge HI0.out)) | exact HB.out), by repeat (first | (with_reducible first | exact HK.out | apply KeepBut.set_ | apply keep_drewN | apply keep_drew | apply keep_alloc) | exact HK.out)⟩

end Go.Proofs.YtnjabpgbpgocnaaDoor.PAll
