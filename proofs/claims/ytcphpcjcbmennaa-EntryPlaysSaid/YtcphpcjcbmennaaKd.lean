/- Slices of structs that came in, opened; resources picked by their place; without conditions. -/
import Derived.Test.YtcphpcjcbmennaaKc
import Derived.Deep.Slices
import Derived.Lib.SmallJoins
set_option linter.unusedVariables false
set_option linter.unusedSimpArgs false
set_option linter.unnecessarySimpa false
set_option linter.deprecated false
namespace Go.K
open Go Go.ChangeShapes Go.WideShapes Go.ChangeAt Go.RowKit Go.Joins
set_option linter.unusedVariables false
theorem Sub.take {L L' : List Res} {i : Nat} {r : Res} (hi : L[i]? = some r) (h : Sub L' (L.eraseIdx i)) : Sub (r :: L') L := (Sub.cons r h).trans (Sub.front hi)
theorem Sl.of_cells {w : World} {base : Nat} {a : Addr} {n k : Nat} {f : Nat → List Value} (hk : 0 < k) (hf : ∀ i, i < n → (f i).length = k) (h : ∀ i, i < n → w.cells? base (a.add (i * k)) k = some (f i)) : Sl w k (some a) n ((List.range n).flatMap f) := by
  have hlen : ∀ m, m ≤ n → ((List.range m).flatMap f).length = m * k := by
    intro m
    induction m with
    | zero => intro _; simp
    | succ m ih => intro hm; rw [List.range_succ, List.flatMap_append, List.length_append, ih (by omega)]; simp [hf m (by omega), Nat.succ_mul]
  have hcell : ∀ i, i < n → ∀ j v, (f i)[j]? = some v → w.cell? (a.add (i * k + j)) = some v := by
    intro i hi j v hj
    have hjl : j < k := by have := (List.getElem?_eq_some_iff.1 hj).1; rw [hf i hi] at this; exact this
    have h1 := (World.cells?_some (h i hi)).2.2 j hjl
    rw [Go.Deep.add_add] at h1
    rw [h1, hj]
  have ha : 0 < n → a = ⟨a.block, a.off, none⟩ := fun hp => by
    have h0 := hf 0 hp
    have hx : ∃ v, (f 0)[0]? = some v := ⟨_, List.getElem?_eq_getElem (by omega)⟩
    obtain ⟨v, hv⟩ := hx
    have := hcell 0 hp 0 v hv
    have h2 := addr_none this
    simpa [Addr.add] using h2
  refine ⟨hlen n (Nat.le_refl _), fun hp => by rw [ha hp]; rfl, ?_⟩
  have key : ∀ m, m ≤ n → ∀ j v, ((List.range m).flatMap f)[j]? = some v → w.cell? (a.add j) = some v := by
    intro m
    induction m with
    | zero => intro _ j v hj; simp at hj
    | succ m ih =>
      intro hm j v hj
      rw [List.range_succ, List.flatMap_append] at hj
      by_cases hjm : j < m * k
      · rw [List.getElem?_append_left (by rw [hlen m (by omega)]; exact hjm)] at hj
        exact ih (by omega) j v hj
      · rw [List.getElem?_append_right (by rw [hlen m (by omega)]; omega), hlen m (by omega)] at hj
        simp only [List.flatMap_cons, List.flatMap_nil, List.append_nil] at hj
        have := hcell m (by omega) _ v hj
        rwa [show m * k + (j - m * k) = j by omega] at this
  intro j v hj
  have hpos : 0 < n := by
    apply Classical.byContradiction
    intro hc
    have : n = 0 := by omega
    subst this
    simp at hj
  have h1 := key n (Nat.le_refl _) j v hj
  have h2 := ha hpos
  rw [h2] at h1
  by_cases h0 : j = 0
  · subst h0; rw [h2]; simpa [Addr.add, bk, of_] using h1
  · rw [h2]; simpa [Addr.add, bk, of_, h0] using h1
section
variable {H : Type} {enc : TypeId × Value → H} {P : Program} {w : World} {held : Bool}
/-- A slice of whatever, as a value: nil, or an address. -/
theorem open_slv {spare : Nat → Bool} {base : Nat} {t e : TypeId} {fuel : Nat} {cs : List Value} {x : DataW H × List MemPlace} (ht : P.underlying t = some (.slice e)) (h : DataW.trod enc P w base spare held fuel t cs = some x) :
    ∃ (a : Option Addr) (n c : Nat), cs = [.slice a n c] ∧ n ≤ maxLen := by
  rcases DataW.trod_slice ht h with ⟨rfl, _⟩ | ⟨a, len, cap, elems, rest, n, _, rfl, rfl, hb, hl, hm, hlen, hel, hsp, hns⟩
  · exact ⟨none, 0, 0, rfl, by unfold maxLen; omega⟩
  · exact ⟨some a, len, cap, rfl, by omega⟩
/-- A slice of things that are opened each. -/
theorem open_things {α : Type} [Inhabited α] {enc' : α → List Value} {Good : α → Prop} {t e : TypeId} {k : Nat} (hk : 0 < k) (hl : ∀ y, (enc' y).length = k) (ht : P.underlying t = some (.slice e)) (hc : P.cellsOf e = k)
    (each : ∀ (n : Nat) (cs : List Value) (x : DataW H × List MemPlace), DataW.trod enc P w 0 (fun _ => true) held n e cs = some x → ∃ y, cs = enc' y ∧ Good y)
    {fuel : Nat} {cs : List Value} {x : DataW H × List MemPlace} (h : DataW.trod enc P w 0 (fun _ => true) held fuel t cs = some x) :
    ∃ (a : Option Addr) (n c : Nat) (l : List α), cs = [.slice a n c] ∧ n ≤ maxLen ∧ Sl w k a n (l.flatMap enc') ∧ ∀ y ∈ l, Good y := by
  rcases Go.Deep.open_slice ht h with ⟨rfl, _⟩ | ⟨a, len, cap, m, n, D, Pl, rfl, hb, hl', hm, hmm, rfl, hx⟩
  · exact ⟨none, 0, 0, [], rfl, by unfold maxLen; omega, Sl.nil w k, by simp⟩
  · rw [hc] at hx
    simp only [if_true] at hmm
    subst hmm
    have hy : ∀ i, i < m → ∃ y, w.cells? 0 (a.add (i * k)) k = some (enc' y) ∧ Good y := by
      intro i hi
      obtain ⟨cs', h1, h2⟩ := hx i hi
      obtain ⟨y, rfl, hg⟩ := each _ _ _ h2
      exact ⟨y, h1, hg⟩
    obtain ⟨f, hf⟩ := Go.Deep.choose_lt hy
    refine ⟨some a, len, m, (List.range len).map f, rfl, by omega, ?_, ?_⟩
    · have := Sl.of_cells (w := w) (base := 0) (a := a) (n := len) (k := k) (f := fun i => enc' (f i)) hk (fun i _ => hl _) (fun i hi => (hf i (by omega)).1)
      rw [List.flatMap_map]
      exact this
    · intro y hy
      obtain ⟨i, hi, rfl⟩ := List.mem_map.1 hy
      exact (hf i (by have := List.mem_range.1 hi; omega)).2
end
end Go.K
