/- For PathOrder: contracts of the functions that it reaches and plain facts, joined out of 3 texts by a program (merge_claim.py): PureC, PureD, PurePathOrder. Each text's own conditions stand at its head below. -/
import Derived.Test.YtnjabpgbpgocnaaDoorZPathOrder1

-- PureC
/- path.Parent, path.Under and path.Split in plain words on lists of bytes. Condition: texts shorter than 2^32 bytes. -/
namespace Go.Proofs.YtnjabpgbpgocnaaDoor.PAll
open Go Go.RowKit Go.Proofs.YtnjabpgbpgocnaaDoorW.PrintWords Go.Proofs.YtnjabpgbpgocnaaDoorW.PrintLast Go.Proofs.YtnjabpgbpgocnaaDoorW.PrintMore
set_option linter.unusedVariables false
set_option linter.unusedSimpArgs false

theorem split_eq (s : ByteArray) (hs : s.size < 4294967296) : path_Split.f s = some (piecesOf s, firstSlash s, lastSlash s) := by
  unfold path_Split.f
  rw [if_pos hs]

theorem last_loop (s : ByteArray) (a n : List UInt8) (hl : s.data.toList = a ++ 47 :: n) (hf : Free n) (hs : s.size < 4294967296) :
    ∀ (d k : Nat), a.length + d < s.size → d + 1 ≤ k → bytealg_LastIndexByteString.l0 k s 47 ((a.length + d : Nat) : Int) = some ((a.length : Nat) : Int) := by
  intro d
  induction d with
  | zero =>
    intro k hi hk
    obtain ⟨k, rfl⟩ : ∃ j, k = j + 1 := ⟨k - 1, by omega⟩
    have hlt : a.length + 0 < s.data.toList.length := by rw [← size_len]; exact hi
    have hb : bt s ((a.length + 0 : Nat) : Int) = 47 := by
      rw [bt_get s _ hlt]
      have : s.data.toList[a.length + 0]'hlt = 47 := by
        simp only [hl, Nat.add_zero]
        rw [List.getElem_append_right (Nat.le_refl _)]
        simp
      rw [this]; rfl
    rw [bytealg_LastIndexByteString.l0, if_pos (by omega), if_pos (by omega), if_pos (by omega), if_pos hb]
    rfl
  | succ d ih =>
    intro k hi hk
    obtain ⟨k, rfl⟩ : ∃ j, k = j + 1 := ⟨k - 1, by omega⟩
    have hlt : a.length + (d + 1) < s.data.toList.length := by rw [← size_len]; exact hi
    have hb : bt s ((a.length + (d + 1) : Nat) : Int) ≠ 47 := by
      rw [bt_get s _ hlt]
      have hd : d < n.length := by rw [hl] at hlt; simp at hlt; omega
      have : s.data.toList[a.length + (d + 1)]'hlt = n[d]'hd := by
        simp only [hl]
        rw [List.getElem_append_right (by omega)]
        simp
      rw [this]
      intro e
      refine hf _ (List.getElem_mem hd) ?_
      rw [← UInt8.toNat_inj]
      exact Int.ofNat.inj e
    have e : wrap64 (((a.length + (d + 1) : Nat) : Int) - 1) = ((a.length + d : Nat) : Int) := by unfold wrap64; omega
    rw [bytealg_LastIndexByteString.l0, if_pos (by omega), if_pos (by omega), if_pos (by omega), if_neg hb, e, ih k (by omega) (by omega)]

theorem lastIndex_eq (s : ByteArray) (a n : List UInt8) (hl : s.data.toList = a ++ 47 :: n) (hf : Free n) (hs : s.size < 4294967296) (k : Nat) (hk : s.size ≤ k) :
    strings_LastIndex.f k s ⟨#[47]⟩ = some ((a.length : Nat) : Int) := by
  have e1 : (⟨#[47]⟩ : ByteArray).size = 1 := rfl
  have hz : s.size = a.length + n.length + 1 := by rw [size_len, hl]; simp; omega
  have e2 : bt ⟨#[47]⟩ 0 = 47 := rfl
  have e : wrap64 ((s.size : Int) - 1) = ((a.length + n.length : Nat) : Int) := by unfold wrap64; omega
  unfold strings_LastIndex.f bytealg_LastIndexByteString.f
  rw [e1, if_neg (by omega), if_pos (by omega), if_pos (by omega), e2, e, last_loop s a n hl hf hs n.length k (by omega) (by omega)]
  rfl

/-- The directory and the last name of a clean path that is not the root. -/
def parentL (l : List UInt8) : List UInt8 × List UInt8 × Bool :=
  if cleanL l = true ∧ l ≠ [47] then (if (piecesL [] l).dropLast = [] then [47] else joinP (piecesL [] l).dropLast, (piecesL [] l).getLast?.getD [], true) else ([], [], false)

theorem parentL_no {l : List UInt8} (h : ¬ (cleanL l = true ∧ l ≠ [47])) : parentL l = ([], [], false) := by rw [parentL, if_neg h]
theorem parentL_join {qs : List (List UInt8)} {n : List UInt8} (h : ∀ p ∈ qs ++ [n], nameL p = true) :
    parentL (joinP (qs ++ [n])) = (if qs = [] then [47] else joinP qs, n, true) := by
  have hc := clean_join (ps := qs ++ [n]) (by simp) h
  have hp := pieces_join (ps := qs ++ [n]) (fun p hp => nameL_free (h p hp)) (fun p hp => nameL_ne (h p hp))
  have hne : joinP (qs ++ [n]) ≠ [47] := by
    intro e
    have := pieces_slash
    rw [← e, hp] at this
    simp at this
  rw [parentL, if_pos ⟨hc, hne⟩, hp, List.dropLast_concat, List.getLast?_concat]
  rfl

/-- A clean path that is not the root: the names ahead of the last, and the last. -/
theorem clean_snoc {l : List UInt8} (h : cleanL l = true) (hne : l ≠ [47]) : ∃ qs n, (∀ p ∈ qs ++ [n], nameL p = true) ∧ l = joinP (qs ++ [n]) := by
  obtain ⟨h1, h2⟩ := clean_is h hne
  have h3 := clean_names h
  rcases List.eq_nil_or_concat (piecesL [] l) with e | ⟨qs, n, e⟩
  · exact absurd e h1
  · rw [List.concat_eq_append] at e
    rw [e] at h2 h3
    exact ⟨qs, n, h3, h2⟩

theorem pathParent_eq (s : ByteArray) (k : Nat) (hs : s.size < 4294967296) (hk : 3 * s.size + 3 ≤ k) :
    path_Parent.f k s = some (ofL (parentL s.data.toList).1, ofL (parentL s.data.toList).2.1, (parentL s.data.toList).2.2) := by
  unfold path_Parent.f
  rw [Lib.toList_data]
  by_cases h1 : s.data.toList = [47]
  · rw [if_pos h1, parentL_no (fun h => h.2 h1)]; rfl
  rw [if_neg h1, pathClean_eq s k hs hk, Option.bind_some]
  by_cases hc : cleanL s.data.toList = true
  · obtain ⟨qs, n, hn, hl⟩ := clean_snoc hc h1
    have hl' : s.data.toList = joinP qs ++ 47 :: n := by rw [hl, joinP_append, joinP_single]
    have hfn : Free n := nameL_free (hn n (by simp))
    have hz : s.size = (joinP qs).length + n.length + 1 := by rw [size_len, hl']; simp; omega
    rw [if_pos hc, lastIndex_eq s _ n hl' hfn hs k (by omega), Option.bind_some]
    have e2 : wrap64 (((joinP qs).length : Int) + 1) = (((joinP qs).length + 1 : Nat) : Int) := by unfold wrap64; omega
    have e3 : mx ((joinP qs).length : Int) 1 = ((if qs = [] then 1 else (joinP qs).length : Nat) : Int) := by
      unfold mx
      cases qs with
      | nil => rfl
      | cons q qs =>
        have hq : 1 ≤ (joinP (q :: qs)).length := by rw [joinP_cons]; simp
        rw [if_neg (by omega), if_neg (by simp)]
    have hle : (if qs = [] then 1 else (joinP qs).length : Nat) ≤ s.size := by split <;> omega
    have hpar : parentL s.data.toList = (if qs = [] then [47] else joinP qs, n, true) := by rw [hl]; exact parentL_join hn
    rw [e3, e2, if_pos (by omega), if_pos (by omega), if_pos (by omega), if_pos (by omega), hpar]
    refine congrArg some (Prod.ext ?_ (Prod.ext ?_ rfl))
    · refine ba_ext ?_
      rw [ofL_list, Int.toNat_natCast, extract0_list, hl']
      show List.take _ _ = if qs = [] then [47] else joinP qs
      cases qs with
      | nil => rfl
      | cons q qs => rw [if_neg (by simp), if_neg (by simp), List.take_left]
    · refine ba_ext ?_
      rw [ofL_list, Int.toNat_natCast, extract1_list, hl']
      show List.drop _ _ = n
      rw [show joinP qs ++ 47 :: n = (joinP qs ++ [47]) ++ n by simp]
      exact List.drop_left' (by simp)
  · rw [if_neg hc, parentL_no (fun h => hc h.1)]; rfl

/-- The names of the second begin with those of the first. -/
def underL (a b : List UInt8) : Bool := cleanL a && cleanL b && (piecesL [] a).isPrefixOf (piecesL [] b)

theorem hasPrefix_eq (s t : ByteArray) : strings_HasPrefix.f s t = some (t.data.toList.isPrefixOf s.data.toList) := by
  unfold strings_HasPrefix.f stringslite_HasPrefix.f
  have hs := size_len s
  have ht := size_len t
  have key : ((s.extract 0 t.size).toList == t.toList) = true ↔ t.data.toList <+: s.data.toList := by
    rw [beq_iff_eq, Lib.toList_data, Lib.toList_data, extract0_list, ht, List.prefix_iff_eq_take]
    exact eq_comm
  by_cases h : t.size ≤ s.size
  · rw [if_pos (by omega), if_pos (by omega), if_pos (by omega), Int.toNat_natCast]
    refine congrArg some ?_
    rw [Bool.eq_iff_iff, key, List.isPrefixOf_iff_prefix]
  · rw [if_neg (by omega)]
    refine congrArg some ?_
    symm
    rw [Bool.eq_false_iff, ne_eq, List.isPrefixOf_iff_prefix]
    intro hp
    have := hp.length_le
    omega

theorem joinP_ne_slash {ps : List (List UInt8)} (hn : ∀ p ∈ ps, nameL p = true) (h0 : ps ≠ []) : joinP ps ≠ [47] := by
  intro e
  have hp := pieces_join (fun p hp => nameL_free (hn p hp)) (fun p hp => nameL_ne (hn p hp))
  rw [e, pieces_slash] at hp
  exact h0 hp.symm

theorem joinL_clean {ps : List (List UInt8)} (hn : ∀ p ∈ ps, nameL p = true) (h0 : ps ≠ []) (b : List UInt8) : joinL (joinP ps) b = joinP ps ++ 47 :: b := by
  rcases List.eq_nil_or_concat ps with e | ⟨qs, n, e⟩
  · exact absurd e h0
  · rw [List.concat_eq_append] at e
    have hnn := hn n (by rw [e]; simp)
    rw [joinL, if_neg (by rw [e]; exact joinP_last (nameL_free hnn) (nameL_ne hnn))]

theorem under_plain {a b : List UInt8} (ha : cleanL a = true) (hb : cleanL b = true) : (a = b ∨ joinL a [] <+: b) ↔ piecesL [] a <+: piecesL [] b := by
  rcases (clean_iff a).1 ha with rfl | ⟨ps, h0, hn, rfl⟩
  · rw [pieces_slash]
    refine ⟨fun _ => List.nil_prefix, fun _ => .inr ?_⟩
    have e : joinL [47] [] = [47] := rfl
    rw [e]
    rcases (clean_iff b).1 hb with rfl | ⟨qs, k0, kn, rfl⟩
    · exact List.prefix_refl _
    · cases qs with
      | nil => exact absurd rfl k0
      | cons q qs => rw [joinP_cons]; exact ⟨_, rfl⟩
  · have hf : ∀ p ∈ ps, Free p := fun p hp => nameL_free (hn p hp)
    have he : ∀ p ∈ ps, p ≠ [] := fun p hp => nameL_ne (hn p hp)
    rw [joinL_clean hn h0, pieces_join hf he]
    rcases (clean_iff b).1 hb with rfl | ⟨qs, k0, kn, rfl⟩
    · rw [pieces_slash]
      constructor
      · rintro (e | hp)
        · exact absurd e (joinP_ne_slash hn h0)
        · have := hp.length_le
          have h1 : 1 ≤ (joinP ps).length := by
            cases ps with
            | nil => exact absurd rfl h0
            | cons q qs => rw [joinP_cons]; simp
          simp only [List.length_append, List.length_singleton] at this
          omega
      · intro hp
        exact absurd (List.prefix_nil.1 hp) h0
    · have kf : ∀ p ∈ qs, Free p := fun p hp => nameL_free (kn p hp)
      have ke : ∀ p ∈ qs, p ≠ [] := fun p hp => nameL_ne (kn p hp)
      rw [pieces_join kf ke]
      constructor
      · rintro (e | ⟨t, ht⟩)
        · rw [joinP_inj hf kf e]
          exact List.prefix_refl _
        · have h1 := split_join0 qs kf
          rw [← ht, List.append_assoc, List.singleton_append, split_join ps t hf] at h1
          exact ⟨_, (List.cons.inj h1).2⟩
      · rintro ⟨r, rfl⟩
        cases r with
        | nil => rw [List.append_nil]; exact .inl rfl
        | cons q r => exact .inr ⟨q ++ joinP r, by rw [joinP_append, joinP_cons]; simp⟩

theorem pathUnder_eq (a b : ByteArray) (k : Nat) (ha : a.size < 4294967296) (hb : b.size < 4294967296) (hka : 3 * a.size + 3 ≤ k) (hkb : 3 * b.size + 3 ≤ k) :
    path_Under.f k a b = some (underL a.data.toList b.data.toList) := by
  unfold path_Under.f
  rw [pathClean_eq a k ha hka, Option.bind_some, underL]
  by_cases hca : cleanL a.data.toList = true
  · rw [if_pos hca, pathClean_eq b k hb hkb, Option.bind_some]
    by_cases hcb : cleanL b.data.toList = true
    · have key := under_plain hca hcb
      rw [if_pos hcb, hca, hcb, Lib.toList_data, Lib.toList_data, Bool.true_and, Bool.true_and]
      by_cases e : a.data.toList = b.data.toList
      · rw [if_pos e]
        refine congrArg some ?_
        symm
        rw [List.isPrefixOf_iff_prefix]
        exact key.1 (.inl e)
      · rw [if_neg e, pathJoin_eq a ⟨#[]⟩ ha (by decide), Option.bind_some, hasPrefix_eq, Option.bind_some, ofL_list, nil_list]
        refine congrArg some ?_
        rw [Bool.eq_iff_iff, List.isPrefixOf_iff_prefix, List.isPrefixOf_iff_prefix]
        exact ⟨fun h => key.1 (.inr h), fun h => (key.2 h).resolve_left e⟩
    · rw [if_neg hcb, Bool.eq_false_iff.2 hcb, Bool.and_false, Bool.false_and]
  · rw [if_neg hca, Bool.eq_false_iff.2 hca, Bool.false_and, Bool.false_and]

end Go.Proofs.YtnjabpgbpgocnaaDoor.PAll

-- PureD
/- The worked example of the statements, and the makers of inputs (N, Pick, Word, Clean), in plain words. Condition: the maker's place stays below 10^9. -/
namespace Go.Proofs.YtnjabpgbpgocnaaDoor.PAll
open Go Go.RowKit Go.Proofs.YtnjabpgbpgocnaaDoorW.PrintWords Go.Proofs.YtnjabpgbpgocnaaDoorW.PrintLast Go.Proofs.YtnjabpgbpgocnaaDoorW.PrintMore
set_option linter.unusedVariables false
set_option linter.unusedSimpArgs false

theorem awake0 : kauditlaw04_awake.f 40 = some true := by kernel_rfl
theorem awake_eq (k : Nat) (hk : 40 ≤ k) : kauditlaw04_awake.f k = some true := by
  obtain ⟨d, rfl⟩ : ∃ d, k = 40 + d := ⟨k - 40, by omega⟩
  induction d with
  | zero => exact awake0
  | succ d ih => exact kauditlaw04_awake.mono (40 + d) _ (ih (by omega))

theorem N_eq (s : List Int) (i n : Int) (hi : 0 ≤ i) (hi2 : i ≤ 1000000000) (hn : 1 ≤ n) (hn2 : n ≤ 1000) : ∃ v, kauditmake_Src_N.f s i n = some (v, i + 1) ∧ 0 ≤ v ∧ v < n := by
  have e1 : wrap64 (i + 1) = i + 1 := by unfold wrap64; omega
  have e2 : wrap64 (i + 1 - 1) = i := by unfold wrap64; omega
  have key : ∀ x : Int, ∃ v, (if Int.tmod x n < 0 then some (wrap64 (Int.tmod x n + n), i + 1) else some (Int.tmod x n, i + 1)) = some (v, i + 1) ∧ 0 ≤ v ∧ v < n := fun x => by
    have h1 := Int.tmod_lt_of_pos x (show 0 < n by omega)
    have h2 : -n < Int.tmod x n := by
      have := Int.tmod_lt_of_pos (-x) (show 0 < n by omega)
      rw [Int.neg_tmod] at this
      omega
    by_cases h : Int.tmod x n < 0
    · exact ⟨Int.tmod x n + n, by rw [if_pos h, show wrap64 (Int.tmod x n + n) = Int.tmod x n + n by unfold wrap64; omega], by omega, by omega⟩
    · exact ⟨Int.tmod x n, by rw [if_neg h], by omega, by omega⟩
  unfold kauditmake_Src_N.f
  rw [if_neg (by omega), e1, e2]
  by_cases h : i + 1 ≤ (s.length : Int)
  · rw [if_pos h, if_pos hi, if_pos (by omega), if_neg (by omega)]
    exact key _
  · rw [if_neg h, if_neg (by omega)]
    exact key _

theorem Word_eq (s : List Int) (i : Int) (l : List ByteArray) (hi : 0 ≤ i) (hi2 : i ≤ 1000000000) (hl : 1 ≤ l.length) (hl2 : l.length ≤ 1000) :
    ∃ w, w ∈ l ∧ kauditmake_Src_Word.f s i l = some (w, i + 1) := by
  obtain ⟨v, hv, h0, h1⟩ := N_eq s i (l.length : Int) hi hi2 (by omega) (by omega)
  have hlt : v.toNat < l.length := by omega
  refine ⟨l[v.toNat]'hlt, List.getElem_mem hlt, ?_⟩
  unfold kauditmake_Src_Word.f
  rw [hv, Option.bind_some, if_pos h0, if_pos h1]
  refine congrArg some (Prod.ext ?_ rfl)
  show rdOf ByteArray.empty l v = _
  rw [rdOf, List.getD_eq_getElem?_getD, List.getElem?_eq_getElem hlt]
  rfl

theorem Pick_eq (s : List Int) (i : Int) (l : List Int) (hi : 0 ≤ i) (hi2 : i ≤ 1000000000) (hl : 1 ≤ l.length) (hl2 : l.length ≤ 1000) :
    ∃ w, w ∈ l ∧ kauditmake_Src_Pick.f s i l = some (w, i + 1) := by
  obtain ⟨v, hv, h0, h1⟩ := N_eq s i (l.length : Int) hi hi2 (by omega) (by omega)
  have hlt : v.toNat < l.length := by omega
  refine ⟨l[v.toNat]'hlt, List.getElem_mem hlt, ?_⟩
  unfold kauditmake_Src_Pick.f
  rw [hv, Option.bind_some, if_pos h0, if_pos h1]
  refine congrArg some (Prod.ext ?_ rfl)
  show rd l v = _
  rw [rd, List.getD_eq_getElem?_getD, List.getElem?_eq_getElem hlt]
  rfl

theorem srcClean_loop (s : List Int) : ∀ (n : Nat) (x : ByteArray) (i : Int) (k : Nat), n ≤ 10 → x.size + 2 * n ≤ 1000 → 0 ≤ i → i + n ≤ 1000000000 → n + 1 ≤ k →
    ∃ ps, ps.length = n ∧ (∀ p ∈ ps, nameL p = true ∧ p.length = 1) ∧ kauditmake_Src_Clean.l0 k x (n : Int) s i = some (ofL (x.data.toList ++ joinP ps), i + n) := by
  intro n
  induction n with
  | zero =>
    intro x i k _ _ _ _ hk
    obtain ⟨k, rfl⟩ : ∃ j, k = j + 1 := ⟨k - 1, by omega⟩
    refine ⟨[], rfl, by simp, ?_⟩
    rw [kauditmake_Src_Clean.l0, if_neg (by omega), joinP_nil, List.append_nil, ofL_data]
    simp
  | succ n ih =>
    intro x i k hn hx hi hi2 hk
    obtain ⟨k, rfl⟩ : ∃ j, k = j + 1 := ⟨k - 1, by omega⟩
    obtain ⟨w, hw, he⟩ := Word_eq s i [⟨#[97]⟩, ⟨#[98]⟩, ⟨#[99]⟩, ⟨#[108]⟩, ⟨#[109]⟩] hi (by omega) (by simp) (by simp)
    have hw2 : w.size = 1 ∧ nameL w.data.toList = true := by
      simp only [List.mem_cons, List.not_mem_nil, or_false] at hw
      rcases hw with rfl | rfl | rfl | rfl | rfl <;> exact ⟨rfl, by decide⟩
    have e1 : (⟨#[47]⟩ : ByteArray).size = 1 := rfl
    have ez : ((⟨#[47]⟩ : ByteArray) ++ w).size = 2 := by rw [ByteArray.size_append, e1, hw2.1]
    have e2 : wrap64 (((n + 1 : Nat) : Int) - 1) = (n : Int) := by unfold wrap64; omega
    obtain ⟨ps, hlen, hps, hf⟩ := ih (x ++ ((⟨#[47]⟩ : ByteArray) ++ w)) (i + 1) k (by omega) (by rw [ByteArray.size_append, ez]; omega) (by omega) (by omega) (by omega)
    refine ⟨w.data.toList :: ps, by simp [hlen], ?_, ?_⟩
    · intro p hp
      rcases List.mem_cons.1 hp with rfl | hp
      · exact ⟨hw2.2, by rw [← size_len]; exact hw2.1⟩
      · exact hps p hp
    · rw [kauditmake_Src_Clean.l0, if_pos (by omega), he, Option.bind_some]
      dsimp only
      rw [if_pos (by omega), if_pos (by omega), e2, hf]
      refine congrArg some (Prod.ext ?_ ?_)
      · rw [app_list, app_list, slash_list, joinP_cons]
        simp
      · show i + 1 + (n : Int) = i + ((n + 1 : Nat) : Int)
        omega

/-- What Src.Clean makes: a clean path of one to three names of one byte. -/
theorem srcClean_eq (s : List Int) (i : Int) (k : Nat) (hi : 0 ≤ i) (hi2 : i ≤ 999999000) (hk : 4 ≤ k) :
    ∃ ps i', ps ≠ [] ∧ ps.length ≤ 3 ∧ (∀ p ∈ ps, nameL p = true ∧ p.length = 1) ∧ i ≤ i' ∧ i' ≤ i + 4 ∧ kauditmake_Src_Clean.f k s i = some (ofL (joinP ps), i') := by
  obtain ⟨w, hw, he⟩ := Pick_eq s i [1, 1, 2, 2, 3] hi (by omega) (by simp) (by simp)
  obtain ⟨n, rfl, hn1, hn3⟩ : ∃ n : Nat, w = (n : Int) ∧ 1 ≤ n ∧ n ≤ 3 := by
    simp only [List.mem_cons, List.not_mem_nil, or_false] at hw
    exact ⟨w.toNat, by omega, by omega, by omega⟩
  obtain ⟨ps, hlen, hps, hf⟩ := srcClean_loop s n ⟨#[]⟩ (i + 1) k (by omega) (by show 0 + 2 * n ≤ 1000; omega) (by omega) (by omega) (by omega)
  refine ⟨ps, i + 1 + n, by intro e; rw [e] at hlen; simp at hlen; omega, by omega, hps, by omega, by omega, ?_⟩
  unfold kauditmake_Src_Clean.f
  rw [he, Option.bind_some]
  dsimp only
  rw [hf]
  rfl

theorem joinP_length {ps : List (List UInt8)} {m : Nat} (h : ∀ p ∈ ps, p.length ≤ m) : (joinP ps).length ≤ ps.length * (m + 1) := by
  induction ps with
  | nil => simp [joinP]
  | cons p ps ih =>
    have h1 := ih (fun q hq => h q (by simp [hq]))
    have h2 := h p (by simp)
    rw [joinP_cons, List.length_cons, List.length_append, List.length_cons, Nat.succ_mul]
    omega

end Go.Proofs.YtnjabpgbpgocnaaDoor.PAll

-- PurePathOrder
/- PathOrder: Under is a partial order of the clean paths, with the root above all of them: plain law. No condition. -/
namespace Go.Proofs.YtnjabpgbpgocnaaDoor.Pure
open Go Go.RowKit Go.Proofs.YtnjabpgbpgocnaaDoor.PAll Go.Proofs.YtnjabpgbpgocnaaDoorW.PrintWords Go.Proofs.YtnjabpgbpgocnaaDoorW.PrintLast
set_option linter.unusedVariables false
set_option linter.unusedSimpArgs false

theorem under_refl {a : List UInt8} (ha : cleanL a = true) : underL a a = true := by
  rw [underL, ha, Bool.true_and, Bool.true_and, List.isPrefixOf_iff_prefix]
  exact List.prefix_refl _
theorem under_root {a : List UInt8} (ha : cleanL a = true) : underL [47] a = true := by
  rw [underL, ha, pieces_slash]
  rfl
theorem root_under {a : List UInt8} (ha : cleanL a = true) (hne : a ≠ [47]) : underL a [47] = false := by
  rw [Bool.eq_false_iff]
  intro h
  rw [underL, Bool.and_eq_true, List.isPrefixOf_iff_prefix, pieces_slash] at h
  exact (clean_is ha hne).1 (List.prefix_nil.1 h.2)
theorem under_antisymm {a b : List UInt8} (h : underL a b = true) (k : underL b a = true) : a = b := by
  rw [underL, Bool.and_eq_true, Bool.and_eq_true, List.isPrefixOf_iff_prefix] at h k
  have e : piecesL [] a = piecesL [] b := h.2.eq_of_length_le k.2.length_le
  have ha := h.1.1
  have hb := h.1.2
  by_cases h1 : a = [47]
  · by_cases h2 : b = [47]
    · rw [h1, h2]
    · exact absurd (by rw [← e, h1]; rfl) (clean_is hb h2).1
  · by_cases h2 : b = [47]
    · exact absurd (by rw [e, h2]; rfl) (clean_is ha h1).1
    · rw [(clean_is ha h1).2, (clean_is hb h2).2, e]
theorem under_trans {a b c : List UInt8} (h : underL a b = true) (k : underL b c = true) : underL a c = true := by
  rw [underL, Bool.and_eq_true, Bool.and_eq_true, List.isPrefixOf_iff_prefix] at h k ⊢
  exact ⟨⟨h.1.1, k.1.2⟩, h.2.trans k.2⟩

theorem order_j1 (k : Nat) (a b c : ByteArray) (ha : a.size ≤ 100) (hb : b.size ≤ 100) (hc : c.size ≤ 100) (hk : 500 ≤ k) : kauditlaw04_PathOrder.j1 k a b c false = some true := by
  obtain ⟨k, rfl⟩ : ∃ j, k = j + 1 := ⟨k - 1, by omega⟩
  rw [kauditlaw04_PathOrder.j1, if_neg (by simp), pathUnder_eq a b k (by omega) (by omega) (by omega) (by omega), Option.bind_some]
  by_cases h1 : underL a.data.toList b.data.toList = true
  · rw [if_pos h1, pathUnder_eq b c k (by omega) (by omega) (by omega) (by omega), Option.bind_some]
    by_cases h2 : underL b.data.toList c.data.toList = true
    · rw [if_pos h2, pathUnder_eq a c k (by omega) (by omega) (by omega) (by omega), Option.bind_some, if_pos (under_trans h1 h2), awake_eq k (by omega)]
      rfl
    · rw [if_neg h2, awake_eq k (by omega)]
      rfl
  · rw [if_neg h1, awake_eq k (by omega)]
    rfl

theorem order_j0 (k : Nat) (a b c : ByteArray) (ha : a.size ≤ 100) (hb : b.size ≤ 100) (hc : c.size ≤ 100) (hk : 501 ≤ k) (hca : cleanL a.data.toList = true) (hna : a.data.toList ≠ [47]) :
    kauditlaw04_PathOrder.j0 k a b c = some true := by
  obtain ⟨k, rfl⟩ : ∃ j, k = j + 1 := ⟨k - 1, by omega⟩
  have hs : (⟨#[47]⟩ : ByteArray).size = 1 := rfl
  rw [kauditlaw04_PathOrder.j0, pathUnder_eq a a k (by omega) (by omega) (by omega) (by omega), Option.bind_some, if_pos (under_refl hca),
    pathUnder_eq ⟨#[47]⟩ a k (by omega) (by omega) (by omega) (by omega), Option.bind_some, slash_list, if_pos (under_root hca),
    pathUnder_eq a ⟨#[47]⟩ k (by omega) (by omega) (by omega) (by omega), Option.bind_some, slash_list, root_under hca hna, if_neg (by simp),
    pathUnder_eq a b k (by omega) (by omega) (by omega) (by omega), Option.bind_some]
  by_cases h1 : underL a.data.toList b.data.toList = true
  · rw [if_pos h1, pathUnder_eq b a k (by omega) (by omega) (by omega) (by omega), Option.bind_some]
    by_cases h2 : underL b.data.toList a.data.toList = true
    · have e : (a.toList != b.toList) = false := by
        rw [Lib.toList_data, Lib.toList_data, under_antisymm h1 h2]
        simp
      rw [if_pos h2, e]
      exact order_j1 k a b c ha hb hc (by omega)
    · rw [if_neg h2]
      exact order_j1 k a b c ha hb hc (by omega)
  · rw [if_neg h1]
    exact order_j1 k a b c ha hb hc (by omega)

theorem small_join {ps : List (List UInt8)} (hl : ps.length ≤ 3) (h : ∀ p ∈ ps, nameL p = true ∧ p.length = 1) : (ofL (joinP ps)).size ≤ 6 := by
  have := joinP_length (ps := ps) (m := 1) (fun p hp => Nat.le_of_eq (h p hp).2)
  rw [ofL_size]
  omega

theorem PathOrder : kauditlaw04_PathOrder.Pure := by
  intro l0 hl _ _
  refine ⟨1000, ?_⟩
  obtain ⟨ps, i1, hp0, hp3, hps, hi1, hi1', e1⟩ := srcClean_eq l0 0 1000 (by omega) (by omega) (by omega)
  obtain ⟨qs, i2, hq0, hq3, hqs, hi2, hi2', e2⟩ := srcClean_eq l0 i1 1000 (by omega) (by omega) (by omega)
  obtain ⟨rs, i3, hr0, hr3, hrs, hi3, hi3', e3⟩ := srcClean_eq l0 i2 1000 (by omega) (by omega) (by omega)
  obtain ⟨v, e4, hv0, hv1⟩ := N_eq l0 i3 2 (by omega) (by omega) (by omega) (by omega)
  have za := small_join hp3 hps
  have zb := small_join hq3 hqs
  have zc := small_join hr3 hrs
  have hca : cleanL (ofL (joinP ps)).data.toList = true := by rw [ofL_list]; exact clean_join hp0 (fun p hp => (hps p hp).1)
  have hna : (ofL (joinP ps)).data.toList ≠ [47] := by rw [ofL_list]; exact joinP_ne_slash (fun p hp => (hps p hp).1) hp0
  unfold kauditlaw04_PathOrder.f kauditmake_New.f
  rw [Option.bind_some]
  dsimp only
  rw [e1, Option.bind_some]
  dsimp only
  rw [e2, Option.bind_some]
  dsimp only
  rw [e3, Option.bind_some]
  dsimp only
  rw [e4, Option.bind_some]
  dsimp only
  by_cases h : v = 0
  · have hx : (⟨#[120]⟩ : ByteArray).size = 1 := rfl
    have zj : (ofL (joinL (ofL (joinP ps)).data.toList (⟨#[120]⟩ : ByteArray).data.toList)).size ≤ 100 := by
      rw [ofL_size, ofL_list, joinL_clean (fun p hp => (hps p hp).1) hp0]
      rw [ofL_size] at za
      simp
      omega
    rw [if_pos h, pathJoin_eq _ _ (by omega) (by omega), Option.bind_some]
    exact order_j0 1000 _ _ _ (by omega) zj (by omega) (by omega) hca hna
  · rw [if_neg h]
    exact order_j0 1000 _ _ _ (by omega) (by omega) (by omega) (by omega) hca hna

end Go.Proofs.YtnjabpgbpgocnaaDoor.Pure
