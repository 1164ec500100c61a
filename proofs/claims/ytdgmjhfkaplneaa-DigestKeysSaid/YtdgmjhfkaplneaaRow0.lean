/- An argument that is a struct of whole numbers of one kind, by value: it is a list of well-formed numbers. Conditions: every field lies in one cell and is of that kind. -/
import Derived.WalkKit
import Derived.ProofKit
import Derived.OpenShut
import Derived.ChangeOld
import Derived.Deep.Fields
namespace Go.Proofs.Ytdgmjhfkaplneaa.Row0
open Go.ChangeShapes Go.WideShapes Go.RowKit

/-- Every field is a whole number of this kind, in one cell, in order. -/
def allInts (P : Program) (k : IntKind) (fs : Array Field) : Bool := (List.range fs.size).all fun i => match fs[i]? with
  | some f => f.offset == i && P.cellsOf f.type == 1 && (match P.underlying f.type with
    | some (.int k') => k' == k
    | _ => false)
  | none => false

theorem allInts_at {P : Program} {k : IntKind} {fs : Array Field} (h : allInts P k fs = true) (i : Nat) (f : Field) (hf : fs[i]? = some f) :
    f.offset = i ∧ P.cellsOf f.type = 1 ∧ P.underlying f.type = some (.int k) := by
  have hlt : i < fs.size := (Array.getElem?_eq_some_iff.1 hf).1
  have h1 := List.all_eq_true.1 h i (List.mem_range.2 hlt)
  simp only [hf, Bool.and_eq_true, beq_iff_eq] at h1
  obtain ⟨⟨h2, h3⟩, h4⟩ := h1
  refine ⟨h2, h3, ?_⟩
  split at h4
  · next k' e => rw [e]; simp at h4; rw [h4]
  · simp at h4

def numOf : Value → Int
  | .int _ n => n
  | _ => 0

theorem open_ints_struct {H : Type} {enc : TypeId × Value → H} {P : Program} {w : World} {base b0 : Nat} {spare : Nat → Bool} {held : Bool} {r : Reach} {t : TypeId} {k : IntKind} {fs : Array Field} {v : Value} {d : DataW H} {p : List MemPlace}
    (hs : P.underlying t = some (.struct fs)) (ha : allInts P k fs = true) (hC : P.cellsOf t = fs.size) (hv : Value.okWide P w r b0 t v) (h : DataW.Trod enc P w base spare held t v d p) :
    ∃ zs : List Int, zs.length = fs.size ∧ v = .agg (zs.map (Value.int k)).toArray ∧ ∀ z ∈ zs, (Lit.int k z).wf = true := by
  obtain ⟨cs, rfl, hsz⟩ := okWide_struct hs hv
  rw [hC] at hsz
  obtain ⟨fuel, hf⟩ := h
  obtain ⟨xs, n, _, _, _, _, hg⟩ := DataW.trod_struct hs hf
  have key : ∀ i (hi : i < cs.toList.length), ∃ z : Int, cs.toList[i] = .int k z ∧ (Lit.int k z).wf = true := by
    intro i hi
    have hi' : i < fs.size := by rw [← hsz]; simpa using hi
    obtain ⟨ho, hc, hu⟩ := allInts_at ha i _ (Array.getElem?_eq_getElem hi')
    have h1 := hg i _ (Array.getElem?_eq_getElem hi')
    rw [ho, hc] at h1
    have hcells : Value.cells (.agg cs) = cs := rfl
    rw [hcells] at h1
    have hone : (cs.toList.drop i).take 1 = [cs.toList[i]] := by
      rw [List.drop_eq_getElem_cons hi]
      rfl
    rw [hone] at h1
    have hx : i < xs.length := by
      rcases Nat.lt_or_ge i xs.length with hx | hx
      · exact hx
      · rw [List.getElem?_eq_none hx] at h1
        have := (DataW.trod_struct hs hf)
        obtain ⟨xs', n', _, e2, _, hl, _⟩ := this
        omega
    rw [List.getElem?_eq_getElem hx] at h1
    obtain ⟨z, hz, _, hwf⟩ := DataW.trod_int hu h1
    exact ⟨z, by simpa using hz, hwf⟩
  refine ⟨cs.toList.map numOf, by simpa using hsz, ?_, ?_⟩
  · congr 1
    have e : (cs.toList.map numOf).map (Value.int k) = cs.toList := by
      rw [List.map_map]
      apply List.ext_getElem
      · simp
      · intro i h1 h2
        obtain ⟨z, hz, _⟩ := key i h2
        simp only [List.getElem_map, Function.comp, hz, numOf]
    rw [e]
  · intro z hz
    obtain ⟨c, hc, rfl⟩ := List.mem_map.1 hz
    obtain ⟨i, hi, rfl⟩ := List.getElem_of_mem hc
    obtain ⟨z, hz, hwf⟩ := key i hi
    rw [hz]
    exact hwf

end Go.Proofs.Ytdgmjhfkaplneaa.Row0
