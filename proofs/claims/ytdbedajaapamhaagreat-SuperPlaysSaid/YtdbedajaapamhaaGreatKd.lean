/- Slices of structs that came in, opened; resources picked by their place; without conditions. -/
import Derived.Test.YtdbedajaapamhaaGreatKc
import Derived.Deep.Slices
import Derived.Lib.SmallJoins
set_option linter.unusedVariables false
set_option linter.unusedSimpArgs false
set_option linter.unnecessarySimpa false
set_option linter.deprecated false
namespace Go.K
open Go Go.ChangeShapes Go.WideShapes Go.ChangeAt Go.RowKit Go.Joins
set_option linter.unusedVariables false
theorem Sub.take {L L' : List Res} {i : Nat} {r : Res} (hi : L[i]? = some r) (h : Sub L' (L.eraseIdx i)) : Sub (r :: L') L := (Sub.cons r h).trans (Sub.front hi)
theorem Sl.of_cells {w : World} {base : Nat} {a : Addr} {n k : Nat} {f : Nat → List Value} (hk : 0 < k) (hf : ∀ i, i < n → (f i).length = k) (h : ∀ i, i < n → w.cells? base (a.add (i * k)) k = some (f i)) : Sl w k (some a) n ((List.range n).flatMap f) := by
  have hlen : ∀ m, m ≤ n → ((List.range m).flatMap f).length = m * k := by
    intro m
    induction m with
    | zero => intro _; simp
    | succ m ih => intro hm; rw [List.range_succ, List.flatMap_append, List.length_append, ih (by omega)]; simp [hf m (by omega), Nat.succ_mul]
  have hcell : ∀ i, i < n → ∀ j v, (f i)[j]? = some v → w.cell? (a.add (i * k + j)) = some v := by
    intro i hi j v hj
    have hjl : j < k := by have := (List.getElem?_eq_some_iff.1 hj).1; rw [hf i hi] at this; exact this
    have h1 := (World.cells?_some (h i hi)).2.2 j hjl
    rw [Go.Deep.add_add] at h1
    rw [h1, hj]
  have ha : 0 < n → a = ⟨a.block, a.off, none⟩ := fun hp => by
    have h0 := hf 0 hp
    have hx : ∃ v, (f 0)[0]? = some v := ⟨_, List.getElem?_eq_getElem (by omega)⟩
    obtain ⟨v, hv⟩ := hx
    have := hcell 0 hp 0 v hv
    have h2 := addr_none this
    simpa [Addr.add] using h2
  refine ⟨hlen n (Nat.le_refl _), fun hp => by rw [ha hp]; rfl, ?_⟩
  have key : ∀ m, m ≤ n → ∀ j v, ((List.range m).flatMap f)[j]? = some v → w.cell? (a.add j) = some v := by
    intro m
    induction m with
    | zero => intro _ j v hj; simp at hj
    | succ m ih =>
      intro hm j v hj
      rw [List.range_succ, List.flatMap_append] at hj
      by_cases hjm : j < m * k
      · rw [List.getElem?_append_left (by rw [hlen m (by omega)]; exact hjm)] at hj
        exact ih (by omega) j v hj
      · rw [List.getElem?_append_right (by rw [hlen m (by omega)]; omega), hlen m (by omega)] at hj
        simp only [List.flatMap_cons, List.flatMap_nil, List.append_nil] at hj
        have := hcell m (by omega) _ v hj
        rwa [show m * k + (j - m * k) = j by omega] at this
  intro j v hj
  have hpos : 0 < n := by
    apply Classical.byContradiction
    intro hc
    have : n = 0 := by omega
    subst this
    simp at hj
  have h1 := key n (Nat.le_refl _) j v hj
  have h2 := ha hpos
  rw [h2] at h1
  by_cases h0 : j = 0
  · subst h0; rw [h2]; simpa [Addr.add, bk, of_] using h1
  · rw [h2]; simpa [Addr.add, bk, of_, h0] using h1
section
variable {H : Type} {enc : TypeId × Value → H} {P : Program} {w : World} {held : Bool}
end
end Go.K
