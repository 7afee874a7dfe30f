/- Bytes that came in, rows that are written into. -/
import Derived.ProofKit
import Derived.OpenShut
import Derived.Test.YtgkdnecjokhkcaaDevN
namespace Go.Proofs.Ytgkdnecjokhkcaa
open Go Go.K Go.ChangeShapes Go.WideShapes Go.ChangeAt Go.RowKit
set_option linter.unusedVariables false
set_option linter.unusedSimpArgs false
attribute [local irreducible] Calls Ev GL GC GQ GR Code.wp
section
variable {ops : Array Oper} {Q : Exit → Act → World → Prop} {N : Nat} {U : Env} {w0 : World} {L0 L F : List Res} {ty : TypeId} {rest : List Oper} {pos : String} {after : Array Edge} {d : Nat} {g : DG} {xs : List Operand} {tys : Array TypeId} {t : Tmp}
theorem gl_readE {i : Int} {bs : Bytes} {e : Int} (hf : ∀ args w, (callFunc 17 args).run Try.prog w = .ok (.enter 17 args) w) (hx : opvs U xs = some [.pointer (some ⟨d, 0, none⟩), .int .i64 i]) [hp : Pick L d g F] (hk : g.Ok) (he : g.v.read i = (bs, e)) (hd : Nat.ble (t + 1) N = true)
    (hr : ∀ a c, GL Try.prog ops Q rest N ((t, .tuple [.slice a bs.length c, .int .i64 e].toArray) :: U) w0 L0 (row a c 1 66 (bv bs) :: L)) : GL Try.prog ops Q (⟨some t, .call ⟨.value (.func 17), xs.toArray, tys⟩, ty, pos, after, Option.none⟩ :: rest) N U w0 L0 L :=
  gl_read hf hx hk hd fun a c => by rw [he]; exact hr a c
end
theorem own_pre {w0 w : World} {L0 L : List Res} {d b n : Nat} {T : TypeId} {bs : Bytes} {junk : List Value} {g : DG} (hT : Tr w0 L0 w (cl b T (bv bs ++ junk) :: L)) (hm : DevR d g ∈ L) (hl : bs.length = n) : Sl w 1 (some ⟨b, 0, none⟩) n (bv bs) ∧ (0 < n → ¬ (DevR d g).fp (bk (some ⟨b, 0, none⟩))) :=
  ⟨Sl.pre (hT.ok _ List.mem_cons_self) (by rw [bv_length]; omega), fun _ hf => hT.disj.head hm b rfl hf⟩
theorem bv_ne {l : Bytes} (h : l.length = 64) : bv l ≠ [] := fun e => by
  have := congrArg List.length e
  rw [bv_length, List.length_nil] at this
  omega
theorem pre_get {l : Bytes} {junk : List Value} {i o : Nat} {v : UInt8} (h : l[i]? = some v) (ho : o = i) : (bv l ++ junk)[o]? = some (.int .u8 (v.toNat : Int)) := by
  subst ho
  have := (List.getElem?_eq_some_iff.1 h).1
  rw [List.getElem?_append_left (by rw [bv_length]; exact this), get_bv h]
theorem pre_set {l : Bytes} {junk : List Value} {i o : Nat} {v : UInt8} (h : i < l.length) (ho : o = i) : spliceO (bv l ++ junk) o [.int .u8 (v.toNat : Int)] = some (bv (l.set i v) ++ junk) := by
  subst ho
  rw [splice_at (by rw [List.length_append, bv_length]; omega), List.set_append_left _ _ (by rw [bv_length]; exact h)]
  unfold bv
  rw [List.map_set]
theorem inc_u8 (v : UInt8) : IntKind.u8.wrap ((v.toNat : Int) + 1) = ((v + 1 : UInt8).toNat : Int) := by
  rw [UInt8.toNat_add]
  simp only [IntKind.wrap, IntKind.bits, IntKind.signed]
  have := v.toNat_lt
  simp
theorem bytes_of : ∀ {xs : List Int}, (∀ x ∈ xs, 0 ≤ x ∧ x ≤ 255) → (xs.flatMap fun x => [Value.int .u8 x]) = bv (xs.map fun x => UInt8.ofNat x.toNat)
  | [], _ => rfl
  | x :: xs, h => by
    have hx := h x List.mem_cons_self
    have e : ((UInt8.ofNat x.toNat).toNat : Int) = x := by rw [UInt8.toNat_ofNat_of_lt' (by show x.toNat < 256; omega)]; omega
    rw [List.flatMap_cons, bytes_of fun y hy => h y (List.mem_cons_of_mem _ hy)]
    simp only [bv, List.map_cons, List.cons_append, List.nil_append, e]
theorem open_bytes {H : Type} {enc : TypeId × Value → H} {w : World} {held : Bool} {fuel : Nat} {cs : List Value} {x : DataW H × List MemPlace} (h : DataW.trod enc Try.prog w 0 (fun _ => true) held fuel 29 cs = some x) :
    ∃ (a : Option Addr) (n c : Nat) (l : Bytes), cs = [.slice a n c] ∧ n ≤ maxLen ∧ Sl w 1 a n (bv l) := by
  have hc : Try.prog.cellsOf 5 = 1 := by kernel_rfl
  rcases open_ints Try.underlying29 Try.underlying5 hc h with ⟨rfl, _⟩ | ⟨a1, len', cap', zs, rfl, _, hl, hm, hz, hx, hcell, hwz⟩
  · exact ⟨none, 0, 0, [], rfl, by unfold maxLen; omega, Sl.nil w 1⟩
  · have hzl : len' ≤ zs.length := by rw [hz]; simp; omega
    have := Sl.of_ints (k := .u8) hzl hcell
    rw [bytes_of fun x hx => bounds_u8 (hwz x (List.mem_of_mem_take hx))] at this
    exact ⟨_, _, _, _, rfl, by omega, this⟩

end Go.Proofs.Ytgkdnecjokhkcaa
