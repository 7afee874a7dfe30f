/- What is known behind changes, in plain terms. -/
import Derived.ProofKit
import Derived.OpenShut
import Derived.SizedLaws
import Derived.Lib.SmallJoins
import Derived.Test.YtcphpcjcbmennaaEntK
namespace Go.Proofs.Ytcphpcjcbmennaa
open Go Go.K Go.ChangeShapes Go.WideShapes Go.ChangeAt Go.RowKit
set_option linter.unusedVariables false
set_option linter.unusedSimpArgs false
attribute [local irreducible] Calls Ev GL GC GQ GR Code.wp
theorem xget_mem {k : Int} {y : EX} : ∀ {l : List EX}, xget k l = some y → y ∈ l ∧ y.id = k
  | [], h => by simp [xget] at h
  | z :: l, h => by
    simp only [xget] at h
    by_cases hz : z.id = k
    · rw [if_pos hz] at h
      have := Option.some.inj h
      subst this
      exact ⟨List.mem_cons_self, hz⟩
    · rw [if_neg hz] at h
      obtain ⟨h1, h2⟩ := xget_mem h
      exact ⟨List.mem_cons_of_mem _ h1, h2⟩
theorem xget_none {k : Int} : ∀ {l : List EX}, (∀ y ∈ l, y.id ≠ k) → xget k l = none
  | [], _ => rfl
  | z :: l, h => by
    simp only [xget]
    rw [if_neg (h z List.mem_cons_self)]
    exact xget_none fun y hy => h y (List.mem_cons_of_mem _ hy)
theorem xget_some {k : Int} {y : EX} : ∀ {l : List EX}, (l.map EX.id).Nodup → y ∈ l → y.id = k → xget k l = some y
  | z :: l, hn, hy, hk => by
    rw [List.map_cons, List.nodup_cons] at hn
    simp only [xget]
    rcases List.mem_cons.1 hy with h1 | h1
    · subst h1; rw [if_pos hk]
    · by_cases hz : z.id = k
      · exact absurd (List.mem_map.2 ⟨y, h1, by rw [hk, hz]⟩) hn.1
      · rw [if_neg hz]; exact xget_some hn.2 h1 hk
theorem xget_put (x : EX) (id : Int) : ∀ l : List EX, xget id (xput x l) = if x.id = id then some x else xget id l
  | [] => by simp only [xput, xget]
  | y :: l => by
    simp only [xput]
    by_cases hy : y.id = x.id
    · rw [if_pos hy]
      simp only [xget]
      by_cases hx : x.id = id
      · rw [if_pos hx, if_pos hx]
      · rw [if_neg hx, if_neg hx, if_neg (by omega)]
    · rw [if_neg hy]
      simp only [xget]
      rw [xget_put x id l]
      by_cases h1 : y.id = id
      · rw [if_pos h1, if_pos h1, if_neg (by omega)]
      · rw [if_neg h1, if_neg h1]
theorem xget_mod {f : EX → EX} (hf : ∀ y, (f y).id = y.id) (k id : Int) : ∀ l : List EX, xget id (xmod k f l) = if k = id then (xget id l).map f else xget id l
  | [] => by simp only [xmod, xget]; split <;> rfl
  | y :: l => by
    simp only [xmod]
    by_cases hy : y.id = k
    · rw [if_pos hy]
      simp only [xget, hf]
      by_cases hk : k = id
      · rw [if_pos hk, if_pos (by omega), if_pos (by omega)]; rfl
      · rw [if_neg hk, if_neg (by omega), if_neg (by omega)]
    · rw [if_neg hy]
      simp only [xget]
      rw [xget_mod hf k id l]
      by_cases h1 : y.id = id
      · rw [if_pos h1, if_pos h1, if_neg (by omega)]
      · rw [if_neg h1, if_neg h1]
theorem xget_del (k id : Int) : ∀ {l : List EX}, (l.map EX.id).Nodup → xget id (xdel k l) = if k = id then none else xget id l
  | [], _ => by simp only [xdel, xget]; split <;> rfl
  | y :: l, hn => by
    rw [List.map_cons, List.nodup_cons] at hn
    simp only [xdel]
    by_cases hy : y.id = k
    · rw [if_pos hy]
      by_cases hk : k = id
      · rw [if_pos hk]
        exact xget_none fun z hz e => hn.1 (List.mem_map.2 ⟨z, hz, by omega⟩)
      · rw [if_neg hk]
        simp only [xget]
        rw [if_neg (by omega)]
    · rw [if_neg hy]
      simp only [xget]
      rw [xget_del k id hn.2]
      by_cases h1 : y.id = id
      · rw [if_pos h1, if_pos h1, if_neg (by omega)]
      · rw [if_neg h1, if_neg h1]
section
variable {l l2 : List EX} {k id : Int} {r : Option EX} {x y : EX} {f : EX → EX}
theorem del_ne (h : ¬ k = id) (hr : xget id l = r) (hv : l2 = xdel k l) (hn : (l.map EX.id).Nodup) : xget id l2 = r := by rw [hv, xget_del k id hn, if_neg h, hr]
theorem del_eq (h : k = id) (hv : l2 = xdel k l) (hn : (l.map EX.id).Nodup) : xget id l2 = none := by rw [hv, xget_del k id hn, if_pos h]
theorem mod_ne (h : ¬ k = id) (hr : xget id l = r) (hv : l2 = xmod k f l) (hf : ∀ y, (f y).id = y.id) : xget id l2 = r := by rw [hv, xget_mod hf, if_neg h, hr]
theorem mod_no (h : r.isSome = false) (hr : xget id l = r) (hv : l2 = xmod k f l) (hf : ∀ y, (f y).id = y.id) : xget id l2 = r := by
  cases r with
  | some y => cases h
  | none => rw [hv, xget_mod hf, hr]; split <;> rfl
theorem mod_eq (h : k = id) (hr : xget id l = some y) (hv : l2 = xmod k f l) (hf : ∀ y, (f y).id = y.id) : xget id l2 = some (f y) := by rw [hv, xget_mod hf, if_pos h, hr]; rfl
theorem put_ne (h : ¬ x.id = id) (hr : xget id l = r) (hv : l2 = xput x l) : xget id l2 = r := by rw [hv, xget_put, if_neg h, hr]
theorem put_eq (h : x.id = id) (hv : l2 = xput x l) : xget id l2 = some x := by rw [hv, xget_put, if_pos h]
end
theorem sl_zero {w : World} : Sl w 1 none EX.zero.sv.length (strs EX.zero.sv) := Sl.nil w 1
theorem apart_old {w w' : World} {L : List Res} {a : Option Addr} {n k : Nat} {xs : List Value} (h : Sl w k a n xs) (hk : 0 < k) (hT : Tr w [] w' L) {r : Res} (hr : r ∈ L) (hn : 0 < n) : ¬ r.fp (bk a) := fun hf => by
  rcases hT.new r hr _ hf with h1 | ⟨s, hs, _⟩
  · have hlen := h.len
    have hpos : 0 < xs.length := by rw [hlen]; exact Nat.mul_pos hn hk
    obtain ⟨v, hv⟩ : ∃ v, xs[0]? = some v := get_ex hpos
    have hc := h.cell 0 v hv
    unfold World.cell? at hc
    rw [Array.getElem?_eq_none h1] at hc
    cases hc
  · cases hs
theorem same_at {l : List EX} {id : Int} {R : Option EX} (hW : xget id l = R) {a b : Option Addr} {ca cb : Nat} {w : World} (hA : Sl w 1 a (R.getD EX.zero).sv.length (strs (R.getD EX.zero).sv)) (hB : Sl w 1 b (R.getD EX.zero).sv.length (strs (R.getD EX.zero).sv)) (hn : (R.getD EX.zero).sv.length < 9223372036854775807) :
    Calls Try.prog 18 #[.agg (encE (R.getD EX.zero) a ca).toArray, .agg (encE (R.getD EX.zero) b cb).toArray] w fun e w' => e = .returned (.bool true) ∧ Tr w [] w' [] :=
  (same_con (ca := ca) (cb := cb) hA hB hn).mono fun e w' h => by simpa using h
theorem get_lt {g : IG} (hk : g.Ok) {id : Int} {R : Option EX} (hW : xget id g.ents = R) : (R.getD EX.zero).sv.length < 9223372036854775807 := by
  cases R with
  | none => decide
  | some y =>
    obtain ⟨h1, _⟩ := xget_mem hW
    obtain ⟨e, he, rfl⟩ := List.mem_map.1 h1
    have := hk.sv e he
    show e.x.sv.length < _
    omega

end Go.Proofs.Ytcphpcjcbmennaa
