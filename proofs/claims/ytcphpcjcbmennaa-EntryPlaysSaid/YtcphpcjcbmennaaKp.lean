/- What came in, opened, by kinds; without conditions. -/
import Derived.Test.YtcphpcjcbmennaaKo
import Derived.Deep.Slices
import Derived.Lib.SmallJoins
set_option linter.unusedVariables false
set_option linter.unusedSimpArgs false
set_option linter.unnecessarySimpa false
set_option linter.deprecated false
namespace Go.K
open Go Go.ChangeShapes Go.WideShapes Go.ChangeAt Go.RowKit Go.Joins
set_option linter.unusedVariables false
section
variable {H : Type} {enc : TypeId × Value → H} {P : Program} {w : World} {held : Bool}
theorem open_row {α : Type} [Inhabited α] {e : Enc α} {Good : α → Prop} {t E : TypeId} (ht : P.underlying t = some (.slice E)) (hc : P.cellsOf E = e.k)
    (each : ∀ (n : Nat) (cs : List Value) (x : DataW H × List MemPlace), DataW.trod enc P w 0 (fun _ => true) held n E cs = some x → ∃ y, cs = e.f y ∧ Good y)
    {fuel : Nat} {cs : List Value} {x : DataW H × List MemPlace} (h : DataW.trod enc P w 0 (fun _ => true) held fuel t cs = some x) :
    ∃ (a : Option Addr) (c : Nat) (l : List α), cs = [.slice a l.length c] ∧ l.length ≤ maxLen ∧ l.length ≤ c ∧ Old w [] a e l ∧ ∀ y ∈ l, Good y := by
  have key : ∃ (a : Option Addr) (n c : Nat) (l : List α), cs = [.slice a n c] ∧ n ≤ maxLen ∧ n ≤ c ∧ Sl w e.k a n (l.flatMap e.f) ∧ ∀ y ∈ l, Good y := by
    rcases Go.Deep.open_slice ht h with ⟨rfl, _⟩ | ⟨a, len, cap, m, n, D, Pl, rfl, hb, hl', hm, hmm, rfl, hx⟩
    · exact ⟨none, 0, 0, [], rfl, by unfold maxLen; omega, Nat.le_refl _, Sl.nil w e.k, by simp⟩
    · rw [hc] at hx
      simp only [if_true] at hmm
      subst hmm
      have hy : ∀ i, i < m → ∃ y, w.cells? 0 (a.add (i * e.k)) e.k = some (e.f y) ∧ Good y := by
        intro i hi
        obtain ⟨cs', h1, h2⟩ := hx i hi
        obtain ⟨y, rfl, hg⟩ := each _ _ _ h2
        exact ⟨y, h1, hg⟩
      obtain ⟨f, hf⟩ := Go.Deep.choose_lt hy
      refine ⟨some a, len, m, (List.range len).map f, rfl, by omega, by omega, ?_, ?_⟩
      · have := Sl.of_cells (w := w) (base := 0) (a := a) (n := len) (k := e.k) (f := fun i => e.f (f i)) e.pos (fun i _ => e.len _) (fun i hi => (hf i (by omega)).1)
        rw [List.flatMap_map]
        exact this
      · intro y hy
        obtain ⟨i, hi, rfl⟩ := List.mem_map.1 hy
        exact (hf i (by have := List.mem_range.1 hi; omega)).2
  obtain ⟨a, n, c, l, h1, h2, h3, h4, h5⟩ := key
  have hl := h4.len
  have h6 : (l.flatMap e.f).length = l.length * e.k := e.fl_length l
  rw [h6] at hl
  have hn : l.length = n := Nat.eq_of_mul_eq_mul_right e.pos hl
  subst hn
  exact ⟨a, c, l, h1, h2, h3, Old.of0 rfl rfl rfl h4, h5⟩
theorem each_u8 {E : TypeId} (hu : P.underlying E = some (.int .u8)) (n : Nat) (cs : List Value) (x : DataW H × List MemPlace) (h : DataW.trod enc P w 0 (fun _ => true) held n E cs = some x) : ∃ y : UInt8, cs = encB.f y ∧ True := by
  obtain ⟨v, rfl, _, hw⟩ := DataW.trod_int hu h
  have hb := bounds_u8 hw
  refine ⟨UInt8.ofNat v.toNat, ?_, trivial⟩
  show _ = [Value.int .u8 ((UInt8.ofNat v.toNat).toNat : Int)]
  have e : ((UInt8.ofNat v.toNat).toNat : Int) = v := by rw [UInt8.toNat_ofNat']; omega
  rw [e]
theorem each_i64 {E : TypeId} (hu : P.underlying E = some (.int .i64)) (n : Nat) (cs : List Value) (x : DataW H × List MemPlace) (h : DataW.trod enc P w 0 (fun _ => true) held n E cs = some x) : ∃ y : Int, cs = (encI .i64).f y ∧ -9223372036854775808 ≤ y ∧ y ≤ 9223372036854775807 := by
  obtain ⟨v, rfl, _, hw⟩ := DataW.trod_int hu h
  exact ⟨v, rfl, bounds_i64 hw⟩
theorem each_bool {E : TypeId} (hu : P.underlying E = some .bool) (n : Nat) (cs : List Value) (x : DataW H × List MemPlace) (h : DataW.trod enc P w 0 (fun _ => true) held n E cs = some x) : ∃ y : Bool, cs = encT.f y ∧ True := by
  obtain ⟨v, rfl, _⟩ := DataW.trod_bool hu h
  exact ⟨v, rfl, trivial⟩
end
section
variable {P : Program} {ops : Array Oper} {Q : Exit → Act → World → Prop} {N : Nat} {U : Env} {w0 : World} {L0 L F : List Res} {ty : TypeId} {rest : List Oper} {pos : String} {after : Array Edge} {x y : Operand}
theorem spliceO_app {xs vs ys : List Value} {o : Nat} (junk : List Value) (h : spliceO xs o vs = some ys) : spliceO (xs ++ junk) o vs = some (ys ++ junk) := by
  have hle : o + vs.length ≤ xs.length := (spliceO_spec h).1
  rw [spliceO_of hle] at h
  rw [spliceO_of (by rw [List.length_append]; omega)]
  rw [List.take_append_of_le_length (by omega), List.drop_append_of_le_length (by omega), ← List.append_assoc]
  exact congrArg (fun z => some (z ++ junk)) (Option.some.inj h)
/-- An element is written. -/
theorem GL.storeT {α : Type} {e : Enc α} {l : List α} {T E : TypeId} {a : Option Addr} {c j k : Nat} {v : Value} (y0 : α) (hx : opv U x = some (elp a (j * k))) (hy : opv U y = some v) (hc : cellsO v = some (e.f y0)) (hS : ∀ w, (sizeOf T).run P w = .ok k w) [hp : PkT L a c E e l F] (hk : e.k = k) (hj : j < l.length)
    (hr : GL P ops Q rest N U w0 L0 (trow a c E e (l.set j y0) :: F)) : GL P ops Q (⟨Option.none, .store T x y, ty, pos, after, Option.none⟩ :: rest) N U w0 L0 L := by
  have key : GL P ops Q (⟨Option.none, .store T x y, ty, pos, after, Option.none⟩ :: rest) N U w0 L0 (trow a c E e l :: F) := by
    subst hk
    have h0 : 0 < l.length := by omega
    refine GL.row_open (by intro h; have h1 := congrArg List.length h; rw [e.fl_length] at h1; have := Nat.mul_pos h0 e.pos; simp only [List.length_nil] at h1; omega) fun b junk ha hl => ?_
    subst ha
    simp only [elp, bk, of_] at hx
    refine GL.store (L' := cl b E (e.fl (l.set j y0) ++ junk) :: F) (cs' := e.fl (l.set j y0) ++ junk) (E := E) hx hy hc (by rw [e.len]; exact hS) (e.one y0) ?_ ?_
    · rw [Nat.zero_add]; exact spliceO_app junk (e.fl_set y0 hj)
    · refine GL.cl_row2 (c := c) (k := e.k) (by rw [← hl, List.length_append, List.length_append, e.fl_length, e.fl_length, List.length_set]) hr
  exact fun aa w hE hT => key aa w hE (hT.sub hp.out)
end
end Go.K
