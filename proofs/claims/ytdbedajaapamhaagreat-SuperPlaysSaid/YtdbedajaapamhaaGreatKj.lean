/- A row that is written into, appended to; what it is apart from; without conditions. -/
import Derived.Test.YtdbedajaapamhaaGreatKi
set_option linter.unusedVariables false
set_option linter.unusedSimpArgs false
set_option linter.unnecessarySimpa false
set_option linter.deprecated false
namespace Go.K
open Go
set_option linter.unusedVariables false
theorem Tr.cl_row2 {w0 w : World} {L0 F : List Res} {b c k : Nat} {E : TypeId} {xs junk : List Value} (h : Tr w0 L0 w (cl b E (xs ++ junk) :: F)) (hl : (xs ++ junk).length = c * k) : Tr w0 L0 w (row (some ⟨b, 0, none⟩) c k E xs :: F) := by
  refine ⟨h.os, h.tape, h.output, fun hn => ⟨(h.ahead hn).1, fun r hr => by
    rcases List.mem_cons.1 hr with rfl | h2
    · rfl
    · exact (h.ahead hn).2 r (List.mem_cons_of_mem _ h2)⟩, h.size, h.frame, h.disj.tail.cons fun s hs b' ⟨p, hp, hb⟩ hb2 => ?_, fun r hr => ?_, fun r hr b' hb => ?_⟩
  · simp only [Option.some.injEq] at hp
    subst hp
    exact h.disj.head hs b' hb hb2
  · rcases List.mem_cons.1 hr with rfl | h2
    · refine ⟨fun hn => by simp at hn, fun p hp => ?_⟩
      simp only [Option.some.injEq] at hp
      subst hp
      exact ⟨rfl, junk, h.ok _ List.mem_cons_self, hl⟩
    · exact h.ok r (List.mem_cons_of_mem _ h2)
  · rcases List.mem_cons.1 hr with rfl | h2
    · obtain ⟨p, hp, hb⟩ := hb
      simp only [Option.some.injEq] at hp
      subst hp
      exact h.new _ List.mem_cons_self b' hb
    · exact h.new r (List.mem_cons_of_mem _ h2) b' hb
section
variable {P : Program} {ops : Array Oper} {Q : Exit → Act → World → Prop} {N : Nat} {U : Env} {w0 : World} {L0 L F : List Res} {ty : TypeId} {rest : List Oper} {pos : String} {after : Array Edge}
theorem GL.cl_row2 {ol : List Oper} {b c k : Nat} {E : TypeId} {xs junk : List Value} (hl : (xs ++ junk).length = c * k) (h : GL P ops Q ol N U w0 L0 (row (some ⟨b, 0, none⟩) c k E xs :: F)) : GL P ops Q ol N U w0 L0 (cl b E (xs ++ junk) :: F) := fun q w hE hT => h q w hE (hT.cl_row2 hl)
end
end Go.K
