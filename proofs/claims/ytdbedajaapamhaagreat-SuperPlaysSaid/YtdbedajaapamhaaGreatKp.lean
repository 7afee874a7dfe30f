/- What came in, opened, by kinds; without conditions. -/
import Derived.Test.YtdbedajaapamhaaGreatKo
import Derived.Deep.Slices
import Derived.Lib.SmallJoins
set_option linter.unusedVariables false
set_option linter.unusedSimpArgs false
set_option linter.unnecessarySimpa false
set_option linter.deprecated false
namespace Go.K
open Go Go.ChangeShapes Go.WideShapes Go.ChangeAt Go.RowKit Go.Joins
set_option linter.unusedVariables false
section
variable {H : Type} {enc : TypeId × Value → H} {P : Program} {w : World} {held : Bool}
theorem open_row {α : Type} [Inhabited α] {e : Enc α} {Good : α → Prop} {t E : TypeId} (ht : P.underlying t = some (.slice E)) (hc : P.cellsOf E = e.k)
    (each : ∀ (n : Nat) (cs : List Value) (x : DataW H × List MemPlace), DataW.trod enc P w 0 (fun _ => true) held n E cs = some x → ∃ y, cs = e.f y ∧ Good y)
    {fuel : Nat} {cs : List Value} {x : DataW H × List MemPlace} (h : DataW.trod enc P w 0 (fun _ => true) held fuel t cs = some x) :
    ∃ (a : Option Addr) (c : Nat) (l : List α), cs = [.slice a l.length c] ∧ l.length ≤ maxLen ∧ l.length ≤ c ∧ Old w [] a e l ∧ ∀ y ∈ l, Good y := by
  have key : ∃ (a : Option Addr) (n c : Nat) (l : List α), cs = [.slice a n c] ∧ n ≤ maxLen ∧ n ≤ c ∧ Sl w e.k a n (l.flatMap e.f) ∧ ∀ y ∈ l, Good y := by
    rcases Go.Deep.open_slice ht h with ⟨rfl, _⟩ | ⟨a, len, cap, m, n, D, Pl, rfl, hb, hl', hm, hmm, rfl, hx⟩
    · exact ⟨none, 0, 0, [], rfl, by unfold maxLen; omega, Nat.le_refl _, Sl.nil w e.k, by simp⟩
    · rw [hc] at hx
      simp only [if_true] at hmm
      subst hmm
      have hy : ∀ i, i < m → ∃ y, w.cells? 0 (a.add (i * e.k)) e.k = some (e.f y) ∧ Good y := by
        intro i hi
        obtain ⟨cs', h1, h2⟩ := hx i hi
        obtain ⟨y, rfl, hg⟩ := each _ _ _ h2
        exact ⟨y, h1, hg⟩
      obtain ⟨f, hf⟩ := Go.Deep.choose_lt hy
      refine ⟨some a, len, m, (List.range len).map f, rfl, by omega, by omega, ?_, ?_⟩
      · have := Sl.of_cells (w := w) (base := 0) (a := a) (n := len) (k := e.k) (f := fun i => e.f (f i)) e.pos (fun i _ => e.len _) (fun i hi => (hf i (by omega)).1)
        rw [List.flatMap_map]
        exact this
      · intro y hy
        obtain ⟨i, hi, rfl⟩ := List.mem_map.1 hy
        exact (hf i (by have := List.mem_range.1 hi; omega)).2
  obtain ⟨a, n, c, l, h1, h2, h3, h4, h5⟩ := key
  have hl := h4.len
  have h6 : (l.flatMap e.f).length = l.length * e.k := e.fl_length l
  rw [h6] at hl
  have hn : l.length = n := Nat.eq_of_mul_eq_mul_right e.pos hl
  subst hn
  exact ⟨a, c, l, h1, h2, h3, Old.of0 rfl rfl rfl h4, h5⟩
theorem each_u8 {E : TypeId} (hu : P.underlying E = some (.int .u8)) (n : Nat) (cs : List Value) (x : DataW H × List MemPlace) (h : DataW.trod enc P w 0 (fun _ => true) held n E cs = some x) : ∃ y : UInt8, cs = encB.f y ∧ True := by
  obtain ⟨v, rfl, _, hw⟩ := DataW.trod_int hu h
  have hb := bounds_u8 hw
  refine ⟨UInt8.ofNat v.toNat, ?_, trivial⟩
  show _ = [Value.int .u8 ((UInt8.ofNat v.toNat).toNat : Int)]
  have e : ((UInt8.ofNat v.toNat).toNat : Int) = v := by rw [UInt8.toNat_ofNat']; omega
  rw [e]
theorem each_bool {E : TypeId} (hu : P.underlying E = some .bool) (n : Nat) (cs : List Value) (x : DataW H × List MemPlace) (h : DataW.trod enc P w 0 (fun _ => true) held n E cs = some x) : ∃ y : Bool, cs = encT.f y ∧ True := by
  obtain ⟨v, rfl, _⟩ := DataW.trod_bool hu h
  exact ⟨v, rfl, trivial⟩
end
section
variable {P : Program} {ops : Array Oper} {Q : Exit → Act → World → Prop} {N : Nat} {U : Env} {w0 : World} {L0 L F : List Res} {ty : TypeId} {rest : List Oper} {pos : String} {after : Array Edge} {x y : Operand}
end
end Go.K
