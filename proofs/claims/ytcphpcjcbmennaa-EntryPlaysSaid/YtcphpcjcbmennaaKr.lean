/- A string as bytes, with the room that they are given; what is only read, by kinds; without conditions. -/
import Derived.Test.YtcphpcjcbmennaaKq
import Derived.Laws.AppendOwn
set_option linter.unusedVariables false
set_option linter.unusedSimpArgs false
set_option linter.unnecessarySimpa false
set_option linter.deprecated false
namespace Go.K
open Go
set_option linter.unusedVariables false
section
variable {P : Program} {ops : Array Oper} {Q : Exit → Act → World → Prop} {N : Nat} {U : Env} {w0 w : World} {L0 L F : List Res} {ty : TypeId} {rest : List Oper} {pos : String} {after : Array Edge}
theorem e_s2bc {S D E : TypeId} {x : Operand} {l : Bytes} (hs : P.underlying S = some .string) (hd : P.underlying D = some (.slice E)) (he : P.underlying E = some (.int .u8)) (hx : opv U x = some (str l)) :
    Ev P U w0 L0 L (.convert S D x) ty (fun u => ∃ b c, l.length ≤ c ∧ u = .slice (some ⟨b, 0, none⟩) l.length c) (atSl fun b c => clz b E (bv l ++ List.replicate (c - l.length) (.int .u8 0))) := by
  intro ρ w dst pos after guard hρ hT
  have hr := run_bytes_of_string (P := P) w S D E ⟨l.toArray⟩ hs hd he
  have hsz : (⟨l.toArray⟩ : ByteArray).size = l.length := by simp [ByteArray.size]
  rw [hsz, bytesRow_eq] at hr
  have hx' := hρ _ _ hx
  rw [str] at hx'
  have : (execOp ρ ⟨dst, .convert S D x, ty, pos, after, guard⟩).run P w = .ok (.value (.slice (some ⟨w.heap.size, 0, none⟩) l.length (grownCap w l.length 0 E))) (w.drew.alloc (.cells (bv l ++ List.replicate (grownCap w l.length 0 E - l.length) (Value.int .u8 0)).toArray E
        ((bv l ++ List.replicate (grownCap w l.length 0 E - l.length) (Value.int .u8 0)).toArray.size, (bv l ++ List.replicate (grownCap w l.length 0 E - l.length) (Value.int .u8 0)).toArray.size + 1))) := by
    simp only [execOp, hx', Sem.run_bind, hr, Result.andThen_ok]
    rfl
  rw [this]
  refine ⟨⟨_, _, grownCap_ge w l.length 0 E, rfl⟩, ?_⟩
  have := Tr.fresh' w w.drew (.cells (bv l ++ List.replicate (grownCap w l.length 0 E - l.length) (Value.int .u8 0)).toArray E
        ((bv l ++ List.replicate (grownCap w l.length 0 E - l.length) (Value.int .u8 0)).toArray.size, (bv l ++ List.replicate (grownCap w l.length 0 E - l.length) (Value.int .u8 0)).toArray.size + 1)) rfl rfl rfl rfl (Nat.le_succ _)
  simp only [List.size_toArray] at this ⊢
  exact this
theorem GL.s2bc {d : Tmp} {S D E : TypeId} {x : Operand} {l : Bytes} (hs : P.underlying S = some .string) (hdD : P.underlying D = some (.slice E)) (he : P.underlying E = some (.int .u8)) (hx : opv U x = some (str l)) (hd : Nat.ble (d + 1) N = true)
    (hr : ∀ b c junk, l.length ≤ c → GL P ops Q rest N ((d, .slice (some ⟨b, 0, none⟩) l.length c) :: U) w0 L0 (clz b E (bv l ++ junk) :: L)) : GL P ops Q (⟨some d, .convert S D x, ty, pos, after, Option.none⟩ :: rest) N U w0 L0 L :=
  GL.ev (e_s2bc hs hdD he hx) hd fun v hv => by obtain ⟨b, c, hc, rfl⟩ := hv; exact hr b c _ hc
theorem Tr.rdr_tro {a : Option Addr} {l : Bytes} (h : Tr w0 L0 w (rdr a (bv l) :: F)) : Tr w0 L0 w (tro a encB l :: F) :=
  h.weaken (fun b hb => hb) (fun ⟨h1, h2⟩ => ⟨fun h0 => by
    have h3 := h1 h0
    cases l with
    | nil => rfl
    | cons x l => simp [bv] at h3, fun p hp => by
    obtain ⟨h3, junk, T, fr, h4⟩ := h2 p hp
    refine ⟨fun _ => by rw [h3], _, T, fr, h4, fun j v hj => ?_⟩
    rw [encB_fl] at hj
    have hj2 := (List.getElem?_eq_some_iff.1 hj).1
    rw [h3]
    simp only [Nat.zero_add, List.getElem?_toArray]
    rw [List.getElem?_append_left hj2]
    exact hj⟩)
/-- What there is, seen otherwise. -/
theorem GC.tr {c : Code} {L' : List Res} (h : ∀ w, Tr w0 L0 w L → Tr w0 L0 w L') (hc : GC P c Q N U w0 L0 L') : GC P c Q N U w0 L0 L := fun a w hE hT => hc a w hE (h w hT)
end
end Go.K
