/- What is put one behind the other; a row that is written into. -/
import Derived.ProofKit
import Derived.OpenShut
import Derived.SizedLaws
import Derived.Lib.SmallJoins
import Derived.Test.YtcphpcjcbmennaaEntL
import Derived.Test.YtcphpcjcbmennaaKj
namespace Go.Proofs.Ytcphpcjcbmennaa
open Go Go.K Go.ChangeShapes Go.WideShapes Go.ChangeAt Go.RowKit
set_option linter.unusedVariables false
set_option linter.unusedSimpArgs false
attribute [local irreducible] Calls Ev GL GC GQ GR Code.wp
theorem encP_split (q : OX) : encP q = .int .i64 q.what :: (encE q.e q.ea q.ec ++ [.int .i64 q.id, .bool q.is, .int .i64 q.cls, .int .i64 q.seq, .int .i64 q.at_, .int .i64 q.size]) := rfl
theorem op_ent {w : World} {a : Option Addr} {n : Nat} {l : List OX} (h : Sl w 20 a n (l.flatMap encP)) {i : Nat} {q : OX} (hq : l[i]? = some q) : ∀ j v, (encE q.e q.ea q.ec)[j]? = some v → w.cell? ⟨bk a, of_ a + i * 20 + 1 + j, none⟩ = some v := fun j v hj => by
  have hl := (List.getElem?_eq_some_iff.1 hj).1
  have := h.item encP_len hq (j + 1) v (by rw [encP_split, List.getElem?_cons_succ, List.getElem?_append_left hl]; exact hj)
  rw [show of_ a + i * 20 + 1 + j = of_ a + i * 20 + (j + 1) by omega]
  exact this
theorem put_len {g g2 : IG} {x : EX} {i : Nat} (h : g.es.length ≤ i) (hv : g2.ents = xput x g.ents) : g2.es.length ≤ i + 1 := by
  have := xput_length x g.ents
  rw [← hv, IG.ents_length, IG.ents_length] at this
  omega
theorem mod_len {g g2 : IG} {k : Int} {f : EX → EX} (hv : g2.ents = xmod k f g.ents) : g2.es.length = g.es.length := by
  rw [← IG.ents_length, ← IG.ents_length, hv, xmod_length]
theorem strs_set (l : List Bytes) (i : Nat) (b : Bytes) : (strs l).set i (K.str b) = strs (l.set i b) := by unfold strs; rw [List.map_set]
theorem sl_some {w : World} {k : Nat} {a : Option Addr} {n : Nat} {xs : List Value} (h : Sl w k a n xs) (hn : 0 < n) : ∃ p, a = some p := ⟨_, h.base hn⟩
def opE (x : EX) (a : Option Addr) (c : Nat) : OX := ⟨0, x, a, c, 0, false, 0, 0, 0, 0⟩

end Go.Proofs.Ytcphpcjcbmennaa
