/- A row that is written into, the byte of a string, what a drawn operation owns; without conditions. -/
import Derived.Test.YtcphpcjcbmennaaKd
set_option linter.unusedVariables false
set_option linter.unusedSimpArgs false
set_option linter.unnecessarySimpa false
set_option linter.deprecated false
namespace Go.K
open Go
set_option linter.unusedVariables false
theorem Tr.row_cl {w0 w : World} {L0 F : List Res} {a : Option Addr} {c k : Nat} {E : TypeId} {xs : List Value} (h : Tr w0 L0 w (row a c k E xs :: F)) (hx : xs ≠ []) : ∃ b junk, a = some ⟨b, 0, none⟩ ∧ (xs ++ junk).length = c * k ∧ Tr w0 L0 w (cl b E (xs ++ junk) :: F) := by
  have hok := h.ok _ List.mem_cons_self
  cases a with
  | none => exact absurd (hok.1 rfl).1 hx
  | some p =>
    obtain ⟨hp, junk, h1, h2⟩ := hok.2 p rfl
    refine ⟨p.block, junk, congrArg some hp, h2, h.os, h.tape, h.output, fun hn => ⟨(h.ahead hn).1, fun r hr => by
    rcases List.mem_cons.1 hr with rfl | h2
    · rfl
    · exact (h.ahead hn).2 r (List.mem_cons_of_mem _ h2)⟩, h.size, h.frame, h.disj.tail.cons fun s hs b' hb1 hb => ?_, fun r hr => ?_, fun r hr b' hb => ?_⟩
    · have e' : b' = p.block := hb1
      exact h.disj.head hs b' ⟨p, rfl, e'⟩ hb
    · rcases List.mem_cons.1 hr with rfl | h3
      · exact h1
      · exact h.ok r (List.mem_cons_of_mem _ h3)
    · rcases List.mem_cons.1 hr with rfl | h3
      · have e' : b' = p.block := hb
        exact h.new _ List.mem_cons_self b' ⟨p, rfl, e'⟩
      · exact h.new r (List.mem_cons_of_mem _ h3) b' hb
section
variable {P : Program} {ops : Array Oper} {Q : Exit → Act → World → Prop} {N : Nat} {U : Env} {w0 : World} {L0 L F : List Res} {ty : TypeId} {rest : List Oper} {pos : String} {after : Array Edge}
theorem GC.row_open {code : Code} {a : Option Addr} {c k : Nat} {E : TypeId} {xs : List Value} (hx : xs ≠ []) (h : ∀ b junk, a = some ⟨b, 0, none⟩ → (xs ++ junk).length = c * k → GC P code Q N U w0 L0 (cl b E (xs ++ junk) :: F)) : GC P code Q N U w0 L0 (row a c k E xs :: F) := fun q w hE hT => by
  obtain ⟨b, junk, h1, h2, h3⟩ := hT.row_cl hx
  exact h b junk h1 h2 q w hE h3
theorem GL.row_open {ol : List Oper} {a : Option Addr} {c k : Nat} {E : TypeId} {xs : List Value} (hx : xs ≠ []) (h : ∀ b junk, a = some ⟨b, 0, none⟩ → (xs ++ junk).length = c * k → GL P ops Q ol N U w0 L0 (cl b E (xs ++ junk) :: F)) : GL P ops Q ol N U w0 L0 (row a c k E xs :: F) := fun q w hE hT => by
  obtain ⟨b, junk, h1, h2, h3⟩ := hT.row_cl hx
  exact h b junk h1 h2 q w hE h3
theorem GL.cl_row {ol : List Oper} {b : Nat} {E : TypeId} {xs : List Value} {c k : Nat} (hl : xs.length = c * k) (h : GL P ops Q ol N U w0 L0 (row (some ⟨b, 0, none⟩) c k E xs :: F)) : GL P ops Q ol N U w0 L0 (cl b E xs :: F) := fun q w hE hT => h q w hE (hT.cl_row hl)
theorem GL.own1 {ol : List Oper} {f : Nat → Res} {v : Value} {b n c : Nat} (e : v = .slice (some ⟨b, 0, none⟩) n c) (h : GL P ops Q ol N U w0 L0 (f b :: F)) : GL P ops Q ol N U w0 L0 (atPtr f v :: F) := by subst e; exact h
theorem e_indexStr {T : TypeId} {x y : Operand} {l : Bytes} {kd : IntKind} {i : Int} {b : UInt8} (hu : P.underlying T = some .string) (hx : opv U x = some (str l)) (hy : opv U y = some (.int kd i)) (h0 : 0 ≤ i) (hb : l[i.toNat]? = some b) :
    Ev P U w0 L0 L (.index T x y) ty (Is (.int .u8 (b.toNat : Int))) No :=
  .val fun ρ w dst pos after guard hρ hT => by
    obtain ⟨h1, h2⟩ := List.getElem?_eq_some_iff.1 hb
    have hsz : (⟨l.toArray⟩ : ByteArray).size = l.length := by simp [ByteArray.size]
    have h3 : 0 ≤ i ∧ i < ((⟨l.toArray⟩ : ByteArray).size : Int) := ⟨h0, by rw [hsz]; omega⟩
    have := run_index_string (P := P) w T ⟨l.toArray⟩ kd i hu
    rw [dif_pos h3] at this
    have h4 : (⟨l.toArray⟩ : ByteArray)[i.toNat]'(by rw [hsz]; exact h1) = b := by
      rw [← h2]; rfl
    rw [h4] at this
    have hx' := hρ _ _ hx
    rw [str] at hx'
    simp [execOp, hx', hρ _ _ hy, go_sem, this]
end
end Go.K
