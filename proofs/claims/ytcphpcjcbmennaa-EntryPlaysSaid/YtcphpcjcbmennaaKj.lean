/- A row that is written into, appended to; what it is apart from; without conditions. -/
import Derived.Test.YtcphpcjcbmennaaKi
set_option linter.unusedVariables false
set_option linter.unusedSimpArgs false
set_option linter.unnecessarySimpa false
set_option linter.deprecated false
namespace Go.K
open Go
set_option linter.unusedVariables false
theorem Tr.cl_row2 {w0 w : World} {L0 F : List Res} {b c k : Nat} {E : TypeId} {xs junk : List Value} (h : Tr w0 L0 w (cl b E (xs ++ junk) :: F)) (hl : (xs ++ junk).length = c * k) : Tr w0 L0 w (row (some ⟨b, 0, none⟩) c k E xs :: F) := by
  refine ⟨h.os, h.tape, h.output, fun hn => ⟨(h.ahead hn).1, fun r hr => by
    rcases List.mem_cons.1 hr with rfl | h2
    · rfl
    · exact (h.ahead hn).2 r (List.mem_cons_of_mem _ h2)⟩, h.size, h.frame, h.disj.tail.cons fun s hs b' ⟨p, hp, hb⟩ hb2 => ?_, fun r hr => ?_, fun r hr b' hb => ?_⟩
  · simp only [Option.some.injEq] at hp
    subst hp
    exact h.disj.head hs b' hb hb2
  · rcases List.mem_cons.1 hr with rfl | h2
    · refine ⟨fun hn => by simp at hn, fun p hp => ?_⟩
      simp only [Option.some.injEq] at hp
      subst hp
      exact ⟨rfl, junk, h.ok _ List.mem_cons_self, hl⟩
    · exact h.ok r (List.mem_cons_of_mem _ h2)
  · rcases List.mem_cons.1 hr with rfl | h2
    · obtain ⟨p, hp, hb⟩ := hb
      simp only [Option.some.injEq] at hp
      subst hp
      exact h.new _ List.mem_cons_self b' hb
    · exact h.new r (List.mem_cons_of_mem _ h2) b' hb
section
variable {P : Program} {ops : Array Oper} {Q : Exit → Act → World → Prop} {N : Nat} {U : Env} {w0 : World} {L0 L F : List Res} {ty : TypeId} {rest : List Oper} {pos : String} {after : Array Edge}
theorem GL.cl_row2 {ol : List Oper} {b c k : Nat} {E : TypeId} {xs junk : List Value} (hl : (xs ++ junk).length = c * k) (h : GL P ops Q ol N U w0 L0 (row (some ⟨b, 0, none⟩) c k E xs :: F)) : GL P ops Q ol N U w0 L0 (cl b E (xs ++ junk) :: F) := fun q w hE hT => h q w hE (hT.cl_row2 hl)
theorem GL.storeRow {T E : TypeId} {x y : Operand} {a : Option Addr} {c o : Nat} {xs : List Value} {v : Value} (hx : opv U x = some (.pointer (some ⟨bk a, of_ a + o, none⟩))) (ho : o < xs.length) (hy : opv U y = some v) (hc : cellsO v = some [v])
    (hS : ∀ w, (sizeOf T).run P w = .ok 1 w) (h1 : oneCells [v] = true) (hr : GL P ops Q rest N U w0 L0 (row a c 1 E (xs.set o v) :: F)) :
    GL P ops Q (⟨Option.none, .store T x y, ty, pos, after, Option.none⟩ :: rest) N U w0 L0 (row a c 1 E xs :: F) := by
  refine GL.row_open (by intro h; subst h; simp at ho) fun b junk ha hl => ?_
  subst ha
  simp only [bk, of_, Nat.zero_add] at hx
  refine GL.store (L' := cl b E (xs.set o v ++ junk) :: F) (cs' := xs.set o v ++ junk) (E := E) hx hy hc hS h1 ?_ ?_
  · rw [spliceO_of (by rw [List.length_append, List.length_singleton]; omega)]
    congr 1
    rw [← List.set_append_left _ _ ho, List.set_eq_take_append_cons_drop, if_pos (by rw [List.length_append]; omega)]
    simp
  · exact GL.cl_row2 (by rw [← hl]; simp) hr
theorem GL.append_hd {d : Tmp} {T E : TypeId} {x y : Operand} {z : Value} {bytes : Nat} (hm : mkOf P T = some (E, [z], bytes)) {a : Option Addr} {n c : Nat} {xs : List Value} (hx : opv U x = some (.slice a n c)) (hnc : n ≤ c) (hxl : xs.length = n)
    {a2 : Option Addr} {m c2 : Nat} {ys : List Value} (hy : opv U y = some (.slice a2 m c2)) (hS : ∀ w, Tr w0 L0 w (row a c 1 E xs :: F) → Sl w 1 a2 m ys) (hyl : ys.length = m) (ha2 : 0 < m → ∃ p, a2 = some p) (h1 : ∀ u ∈ ys, u.oneCell' = true) (hb : (n + m) * bytes ≤ 140737488355328) (h63 : n + m ≤ 9223372036854775807) (hd : Nat.ble (d + 1) N = true)
    (hr : ∀ a' c', GL P ops Q rest N ((d, .slice a' (n + m) c') :: U) w0 L0 (row a' c' 1 E (xs ++ ys) :: F)) : GL P ops Q (⟨some d, .call ⟨.builtin .append, #[x, y], #[T, T]⟩, ty, pos, after, Option.none⟩ :: rest) N U w0 L0 (row a c 1 E xs :: F) := by
  rcases Nat.eq_zero_or_pos m with h0 | h0
  · subst h0
    obtain rfl := List.length_eq_zero_iff.1 hyl
    refine GL.det (e_append0 hm hx hnc hy) hd ?_
    have := hr a c
    rw [List.append_nil] at this
    exact this
  · obtain ⟨p, rfl⟩ := ha2 h0
    exact GL.append (k := 1) hm hx rfl (by rw [Nat.mul_one]; exact hxl) hy hS h0 h1 hb h63 (fun a' c' => row a' c' 1 E (xs ++ ys) :: F) hd hr
end
theorem row_apart {w0 w : World} {L0 L : List Res} {a : Option Addr} {c k i j : Nat} {E : TypeId} {xs : List Value} {r : Res} (hT : Tr w0 L0 w L) (hi : L[i]? = some (row a c k E xs)) (hj : L[j]? = some r) (hij : i ≠ j) (hx : xs ≠ []) : ¬ r.fp (bk a) := fun hf => by
  have hok := hT.ok _ (List.mem_of_getElem? hi)
  cases a with
  | none => exact hx (hok.1 rfl).1
  | some p => exact hT.disj i j _ _ hij hi hj p.block ⟨p, rfl, rfl⟩ hf
end Go.K
