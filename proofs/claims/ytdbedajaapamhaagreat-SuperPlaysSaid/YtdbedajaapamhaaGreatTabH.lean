/- The order of what a table names. -/
import Derived.Test.YtdbedajaapamhaaGreatTabG
namespace Go.Proofs.YtdbedajaapamhaaGreat
open Go Go.K
set_option linter.unusedVariables false
set_option linter.unusedSimpArgs false
attribute [local irreducible] Calls Ev GL GC GQ GR Code.wp

structure TC where
  t : Tab
  a : Option Addr
  c : Nat

instance : Inhabited TC := ⟨⟨⟨0, 0, []⟩, none, 0⟩⟩

abbrev Pl (t : Tab) : Type := {i : Int // i ∈ plc Ext.used t.exts}

theorem seqs_inj {t : Tab} (h : RightP t) {x y : Int} (hx : x ∈ plc Ext.used t.exts) (hy : y ∈ plc Ext.used t.exts) (e : sqAt t.exts x = sqAt t.exts y) : x = y := by
  have h1 := h.nd
  rw [← plc_seqs, List.nodup_iff_pairwise_ne, List.pairwise_map] at h1
  rcases List.getElem?_of_mem hx with ⟨i, hi⟩
  rcases List.getElem?_of_mem hy with ⟨j, hj⟩
  have hil := len_of hi
  have hjl := len_of hj
  rw [List.pairwise_iff_getElem] at h1
  have hi2 := (List.getElem?_eq_some_iff.1 hi).2
  have hj2 := (List.getElem?_eq_some_iff.1 hj).2
  rcases Nat.lt_trichotomy i j with h2 | h2 | h2
  · exact absurd (by rw [hi2, hj2]; exact e) (h1 i j hil hjl h2)
  · subst h2; rw [hi] at hj; exact Option.some.inj hj
  · exact absurd (by rw [hi2, hj2]; exact e.symm) (h1 j i hjl hil h2)

/-- What lies as it did when the call began: readable, and stays so. -/

theorem Old.ro {α : Type} {e : Enc α} {a : Option Addr} {l : List α} {w : World} {L0 : List Res} (h : Old w L0 a e l) (hl : l ≠ []) : (tro a e l).ok w.heap ∧ ∀ r ∈ L0, ∀ b, r.fp b → ¬ (tro a e l).fp b := by
  have hk := e.pos
  have h0 : 0 < l.length := List.length_pos_iff.2 hl
  have hb := h.sl.base h0
  cases a with
  | none => simp [bk] at hb
  | some p =>
    have hp : p = ⟨p.block, p.off, none⟩ := Option.some.inj hb
    refine ⟨⟨fun h2 => by simp at h2, fun q hq => ?_⟩, fun r hr b hf ⟨q, hq, h2⟩ => ?_⟩
    · cases hq
      refine ⟨fun _ => hp, ?_⟩
      obtain ⟨v, hv⟩ : ∃ v, (e.fl l)[0]? = some v := get_ex (by rw [e.fl_length]; exact Nat.mul_pos h0 hk)
      have h1 := h.sl.cell 0 v hv
      simp only [World.cell?, bk, of_] at h1
      cases ho : w.heap[p.block]? with
      | none => simp [ho] at h1
      | some o =>
        cases o with
        | cells cs T fr =>
          refine ⟨cs, T, fr, rfl, fun j v hj => ?_⟩
          have h5 := h.sl.cell j v hj
          simp only [World.cell?, bk, of_, ho] at h5
          simpa using h5
        | _ => simp [ho] at h1
    · cases hq
      subst h2
      exact h.ap hl r hr hf

end Go.Proofs.YtdbedajaapamhaaGreat
