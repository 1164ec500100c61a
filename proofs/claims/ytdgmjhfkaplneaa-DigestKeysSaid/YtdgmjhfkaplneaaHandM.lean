/- Rows that a conversion of a constant text may have marked: what a row of the call's own keeps when the mark is laid. Conditions: as each lemma says. -/
import Derived.Test.YtdgmjhfkaplneaaPAllx0
namespace Go.Proofs.Ytdgmjhfkaplneaa.PAll
open Go.RowKit Go.Proofs.YtdgmjhfkaplneaaW.PrintWords Go.Proofs.YtdgmjhfkaplneaaW.PrintLast Go.Proofs.YtdgmjhfkaplneaaW.PrintMore
set_option linter.unusedVariables false
set_option linter.unusedSimpArgs false

/-- A row of bytes of the call's own, marked or not. -/
def Rw (e : Nat) (w : World) (base : Nat) (v : Value) (y : List Int) : Prop :=
  ∃ b c cells f, v = .slice (some ⟨b, 0, none⟩) y.length c ∧ y.length ≤ c ∧ base ≤ b ∧ y.length ≤ 9223372036854775807 ∧ w.heap[b]? = some (.cells cells e f) ∧ ∀ j, j < y.length → cells[j]? = some (.int .u8 (y.getD j 0))

theorem Rw_of_R {e : Nat} {w : World} {base : Nat} {ok : Nat → Prop} {v : Value} {y : List Int} {b : Nat} (h : Kd.R (Kd.int .u8) e w base ok v y) (hb : v.ownBlock = some b) : Rw e w base v y := by
  obtain ⟨A, c, hv, hc, hC⟩ := Kd.R_reads h
  obtain ⟨inner, ho⟩ := Kd.R_own h
  have hr := Kd.reads_of_C (d := (0 : Int)) hC
  rcases ho.2 with ⟨rfl, _⟩ | ⟨g, cap, cur, hv2, hg, hh, _⟩
  · simp [Value.ownBlock] at hb
  · rw [hv2] at hv
    injection hv with e1 e2 e3
    subst e1
    subst e3
    refine ⟨g, cap, cur, (0, 0), hv2, hc, hg, hr.2.1, hh, fun j hj => ?_⟩
    obtain ⟨ad, ea, hcell⟩ := hr.2.2 (by omega)
    injection ea with ea
    subst ea
    have h1 := hcell j hj
    have e4 : (⟨g, 0, none⟩ : Addr).add j = ⟨g, j, none⟩ := by
      unfold Addr.add
      by_cases h0 : j = 0
      · subst h0; rfl
      · rw [if_neg h0]; simp
    rw [e4] at h1
    simpa [World.cell?, hh] using h1

theorem Rw_slice {e : Nat} {w : World} {base : Nat} {v : Value} {y : List Int} (h : Rw e w base v y) : ∃ A c, v = .slice A y.length c := by
  obtain ⟨b, c, cells, f, hv, _⟩ := h
  exact ⟨_, c, hv⟩

theorem Rw_C {e : Nat} {w : World} {base : Nat} {A : Option Addr} {n c : Nat} {y : List Int} (h : Rw e w base (.slice A n c) y) : n = y.length ∧ n ≤ c ∧ Kd.C (Kd.int .u8) w A y.length y := by
  obtain ⟨b, c', cells, f, hv, hc, hb, hm, hh, hcell⟩ := h
  injection hv with e1 e2 e3
  subst e1
  subst e2
  subst e3
  refine ⟨rfl, hc, Kd.C_of_reads (d := (0 : Int)) (h1 := fun _ => rfl) ⟨rfl, hm, fun _ => ⟨_, rfl, fun j hj => ?_⟩⟩⟩
  have e4 : (⟨b, 0, none⟩ : Addr).add j = ⟨b, j, none⟩ := by
    unfold Addr.add
    by_cases h0 : j = 0
    · subst h0; rfl
    · rw [if_neg h0]; simp
  rw [e4]
  simp [World.cell?, hh]
  simpa using hcell j hj

theorem Rw_keep {e : Nat} {w w1 : World} {base : Nat} {v : Value} {y : List Int} (h : Rw e w base v y) (hk : ∀ (b : Nat) (cells : Array Value) (f : Nat × Nat), w.heap[b]? = some (.cells cells e f) → ∃ f', w1.heap[b]? = some (.cells cells e f')) : Rw e w1 base v y := by
  obtain ⟨b, c, cells, f, hv, hc, hb, hm, hh, hcell⟩ := h
  obtain ⟨f', hh'⟩ := hk b cells f hh
  exact ⟨b, c, cells, f', hv, hc, hb, hm, hh', hcell⟩

theorem Rw_below {e : Nat} {w w1 : World} {base : Nat} {v : Value} {y : List Int} (h : Rw e w base v y) (hb : Below w.heap.size w w1) : Rw e w1 base v y :=
  Rw_keep h fun _ _ f hh => ⟨f, blk_below hh hb⟩

theorem Rw_far {e t g i : Nat} {w : World} {base : Nat} {v : Value} {y : List Int} {cs : Array Value} (h : Rw e w base v y) (hg : w.heap[g]? = some (.cells cs t (0, 0))) (ht : e ≠ t) (u : Value) : Rw e (w.setCell ⟨g, i, none⟩ u) base v y :=
  Rw_keep h fun b cells f hh => ⟨f, by
    have hne : b ≠ g := by
      rintro rfl
      rw [hg] at hh
      injection hh with hh
      injection hh with _ h2
      exact ht h2.symm
    exact (Below.heap_setCell w ⟨g, i, none⟩ u b hne).trans hh⟩

theorem Rw_far2 {e t g i i' : Nat} {w : World} {base : Nat} {v : Value} {y : List Int} {cs : Array Value} (h : Rw e w base v y) (hg : w.heap[g]? = some (.cells cs t (0, 0))) (ht : e ≠ t) (u u' : Value) : Rw e ((w.setCell ⟨g, i, none⟩ u).setCell ⟨g, i', none⟩ u') base v y := by
  have h1 := Rw_far (i := i) h hg ht u
  have hg1 : (w.setCell ⟨g, i, none⟩ u).heap[g]? = some (.cells (cs.setIfInBounds i u) t (0, 0)) := by
    simp [World.setCell, Array.getElem?_modify, hg]
  exact Rw_far h1 hg1 ht u'

/-- What a mark leaves. -/
def Marks (e base : Nat) (W W1 : World) : Prop :=
  Below base W W1 ∧ (∀ (g : Nat) (cs : Array Value) (t : Nat), e ≠ t → W.heap[g]? = some (.cells cs t (0, 0)) → W1.heap[g]? = some (.cells cs t (0, 0))) ∧ ∀ (base' : Nat) (v : Value) (y : List Int), Rw e W base' v y → Rw e W1 base' v y

theorem freeze_at (W : World) (b k : Nat) (j : Nat) (cells : Array Value) (e : TypeId) (f : Nat × Nat) (h : W.heap[j]? = some (.cells cells e f)) : ∃ f', (W.freeze ⟨b, k, none⟩ 1).heap[j]? = some (.cells cells e f') ∧ (j ≠ b → f' = f) := by
  unfold World.freeze
  rw [if_neg (by decide)]
  simp only [Array.getElem?_modify, h]
  by_cases hj : b = j
  · subst hj
    obtain ⟨lo, hi⟩ := f
    simp
  · rw [if_neg hj]
    exact ⟨f, rfl, fun _ => rfl⟩

theorem conv_marks {P : Program} {e t : Nat} {W : World} {base : Nat} {v : Value} {y : List Int} (h : Rw e W base v y) (ht : P.underlying t = some (.slice e)) (he : P.underlying e = some (.int .u8)) :
    ∃ W1, (convert t t v).run P W = .ok v W1 ∧ Marks e base W W1 := by
  obtain ⟨b, c, cells, f, rfl, hc, hb, hm, hh, hcell⟩ := h
  refine ⟨W.freeze ⟨b, cells.size, none⟩ 1, ?_, ?_, ?_, ?_⟩
  · have hsh : W.shape? b = some (e, cells.size) := by
      unfold World.shape?
      rw [hh]
    simp [convert, run_underlying ht, run_underlying he, markStringish, hsh]
  · refine ⟨?_, ?_, ?_, ?_, ?_⟩
    · unfold World.freeze; rw [if_neg (by decide)]
    · unfold World.freeze; rw [if_neg (by decide)]
    · unfold World.freeze; rw [if_neg (by decide)]
    · unfold World.freeze; rw [if_neg (by decide)]; simp
    · intro k hk
      unfold World.freeze
      rw [if_neg (by decide)]
      simp only [Array.getElem?_modify]
      rw [if_neg (by omega)]
  · intro g cs t' hne hg
    obtain ⟨f', h1, h2⟩ := freeze_at W b cells.size g cs t' (0, 0) hg
    have hgb : g ≠ b := by
      rintro rfl
      rw [hg] at hh
      injection hh with hh
      injection hh with _ h3
      exact hne h3.symm
    rw [h2 hgb] at h1
    exact h1
  · intro base' v' y' hR
    exact Rw_keep hR fun j cells' f' hj => by
      obtain ⟨f'', h1, _⟩ := freeze_at W b cells.size j cells' e f' hj
      exact ⟨f'', h1⟩

end Go.Proofs.Ytdgmjhfkaplneaa.PAll
