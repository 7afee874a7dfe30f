/- TableAll returns true for all tables. -/
import Derived.ProofKit
import Derived.OpenShut
import Derived.SizedLaws
import Derived.Lib.SmallJoins
import Derived.Test.YtdbedajaapamhaaRows
import Derived.Test.YtdbedajaapamhaaTabO
namespace Go.Proofs.Ytdbedajaapamhaa
open Go Go.K Go.ChangeShapes Go.WideShapes Go.ChangeAt Go.RowKit Go.Joins
set_option linter.unusedVariables false
set_option linter.unusedSimpArgs false
attribute [local irreducible] Calls Ev GL GC GQ GR Code.wp
theorem own : ownKnob Try.prog.godebug = none := by kernel_rfl
theorem laidOut : laidOutB Try.prog = true := by kernel_rfl

def cn (l : List Int) : List Int := (List.range 8).map fun (p : Nat) => (l.count (p : Int) : Int)
theorem cn_len (l : List Int) : (cn l).length = 8 := by simp [cn]
theorem cn_get {l : List Int} {j : Nat} (h : j < 8) : (cn l)[j]? = some (l.count (j : Int) : Int) := by
  unfold cn; rw [List.getElem?_map, List.getElem?_range h]; rfl
theorem cn_set {l : List Int} {j : Nat} (h : j < 8) : (cn l).set j ((l.count (j : Int) : Int) + 1) = cn (l ++ [(j : Int)]) := by
  apply List.ext_getElem?
  intro k
  rcases Nat.lt_or_ge k 8 with hk | hk
  · rw [cn_get hk, List.count_append]
    rcases Nat.decEq k j with hkj | hkj
    · rw [List.getElem?_set_ne (by omega), cn_get hk, List.count_singleton, if_neg (by simp only [beq_iff_eq]; omega)]; simp
    · subst hkj
      rw [List.getElem?_set_self (by rw [cn_len]; exact hk), List.count_singleton, if_pos (by simp)]; simp
  · rw [List.getElem?_eq_none (by rw [List.length_set, cn_len]; exact hk), List.getElem?_eq_none (by rw [cn_len]; exact hk)]
theorem cn_load {l : List Int} {j : Nat} (h : j < 8) : (I6.fl (cn l))[0 + ((j : Int)).toNat * 1]? = some (.int .i64 (l.count (j : Int) : Int)) := by
  rw [Nat.zero_add, Int.toNat_natCast]
  exact I6.fl_get (j := 0) (cn_get h) (by decide)
theorem cn_store {l : List Int} {j : Nat} (h : j < 8) : spliceO (I6.fl (cn l)) (0 + ((j : Int)).toNat * 1) (I6.f ((l.count (j : Int) : Int) + 1)) = some (I6.fl (cn (l ++ [(j : Int)]))) := by
  rw [Nat.zero_add, Int.toNat_natCast, ← cn_set h]
  exact I6.fl_set (i := j) _ (by rw [cn_len]; exact h)
theorem cn_nil : cn [] = List.replicate 8 0 := by decide
theorem plc_nodup {p : Ext → Bool} (l : List Ext) : (plc p l).Nodup := List.Pairwise.imp (fun h e => by omega) (plc_sorted p l)
def prv (t : Tab) (x : Nat) : Int := ((((ordT t).take x).getLast?).map (sqAt t.exts)).getD 0
theorem prv_next {t : Tab} {x j : Nat} {v : Ext} (h : (ordT t)[x]? = some (j : Int)) (hv : t.exts[j]? = some v) : prv t (x + 1) = v.seq := by
  unfold prv
  rw [take_one h, List.getLast?_append]
  simp only [List.getLast?_singleton, Option.some_or, Option.map_some, Option.getD_some]
  exact sqAt_nat hv
theorem prv_all (t : Tab) : prv t (ordT t).length = lastT t := by unfold prv lastT; rw [List.take_length]
theorem ord_at {t : Tab} (h : RightP t) {x : Nat} (hx : x < (ordT t).length) : ∃ (j : Nat) (v : Ext), (ordT t)[x]? = some (j : Int) ∧ t.exts[j]? = some v ∧ j < t.exts.length ∧ prv t x < v.seq := by
  have e1 : ordT t = ordA t := by unfold ordT; rw [if_pos ((right_iff _).2 h)]
  obtain ⟨i, hi⟩ : ∃ i, (ordT t)[x]? = some i := get_ex hx
  have hm : i ∈ plc Ext.used t.exts := by have := List.mem_of_getElem? hi; rw [e1] at this; exact (ordA_perm t).mem_iff.1 this
  obtain ⟨j, v, rfl, hv, hu, hs⟩ := used_at hm
  refine ⟨j, v, hi, hv, len_of hv, ?_⟩
  have hok := (Ext.ok_iff v).1 (h.ok _ (List.mem_of_getElem? hv))
  have hu2 : v.seq ≠ 0 := of_decide_eq_true hu
  cases x with
  | zero => show (0 : Int) < v.seq; omega
  | succ y =>
    obtain ⟨k, hk⟩ : ∃ k, (ordT t)[y]? = some k := get_ex (by omega)
    have hm2 : k ∈ plc Ext.used t.exts := by have := List.mem_of_getElem? hk; rw [e1] at this; exact (ordA_perm t).mem_iff.1 this
    obtain ⟨m, w, rfl, hw, hwu, hws⟩ := used_at hm2
    rw [prv_next hk hw]
    have hsrt := ordA_sorted t
    rw [← e1] at hsrt
    have h5 := List.pairwise_iff_getElem.1 hsrt y (y + 1) (by omega) hx (by omega)
    rw [(List.getElem?_eq_some_iff.1 hk).2, (List.getElem?_eq_some_iff.1 hi).2, sqAt_nat hw, sqAt_nat hv] at h5
    have hnd : (ordT t).Nodup := by rw [e1]; exact (ordA_perm t).nodup_iff.2 (plc_nodup _)
    have hne := List.pairwise_iff_getElem.1 (List.nodup_iff_pairwise_ne.1 hnd) y (y + 1) (by omega) hx (by omega)
    rw [(List.getElem?_eq_some_iff.1 hk).2, (List.getElem?_eq_some_iff.1 hi).2] at hne
    rcases Int.lt_or_eq_of_le h5 with h6 | h6
    · exact h6
    · exact absurd (congrArg Nat.cast (dup_bad h hv hw h6 hu2).symm) hne
theorem free_at {t : Tab} (h : RightP t) {y : Nat} (hy : y < (freeT t).length) : ∃ (j : Nat) (v : Ext), (freeT t)[y]? = some (j : Int) ∧ t.exts[j]? = some v ∧ j < t.exts.length ∧ v.seq = 0 ∧ ∀ y', y = y' + 1 → ∃ k : Nat, (freeT t)[y']? = some (k : Int) ∧ k < j := by
  have e1 : freeT t = plc Ext.free t.exts := by unfold freeT; rw [if_pos ((right_iff _).2 h)]
  rw [e1] at hy ⊢
  obtain ⟨i, hi⟩ : ∃ i, (plc Ext.free t.exts)[y]? = some i := get_ex hy
  obtain ⟨j, rfl, v, hv, hu⟩ := plc_mem.1 (List.mem_of_getElem? hi)
  refine ⟨j, v, hi, hv, len_of hv, of_decide_eq_true hu, fun y' e => ?_⟩
  subst e
  obtain ⟨k, hk⟩ : ∃ k, (plc Ext.free t.exts)[y']? = some k := get_ex (by omega)
  obtain ⟨m, rfl, w, hw, _⟩ := plc_mem.1 (List.mem_of_getElem? hk)
  have h5 := List.pairwise_iff_getElem.1 (plc_sorted Ext.free t.exts) y' (y' + 1) (by omega) hy (by omega)
  rw [(List.getElem?_eq_some_iff.1 hk).2, (List.getElem?_eq_some_iff.1 hi).2] at h5
  exact ⟨m, hk, by omega⟩
theorem all_one {t : Tab} (h : RightP t) {k : Nat} (hk : k < t.exts.length) : (ordT t ++ freeT t).count (k : Int) = 1 := by
  have e1 : ordT t = ordA t := by unfold ordT; rw [if_pos ((right_iff _).2 h)]
  have e2 : freeT t = plc Ext.free t.exts := by unfold freeT; rw [if_pos ((right_iff _).2 h)]
  obtain ⟨v, hv⟩ := get_ex hk
  rw [e1, e2, List.count_append, (ordA_perm t).count_eq]
  rcases Classical.em (v.seq = 0) with h0 | h0
  · rw [List.count_eq_zero_of_not_mem, (plc_nodup _).count, if_pos]
    · exact plc_mem.2 ⟨k, rfl, v, hv, by unfold Ext.free; exact decide_eq_true h0⟩
    · intro hm
      obtain ⟨j, hj, w, hw, hu⟩ := plc_mem.1 hm
      obtain rfl : k = j := by omega
      rw [hv] at hw; cases hw
      exact absurd h0 (of_decide_eq_true hu)
  · rw [(plc_nodup _).count, if_pos, List.count_eq_zero_of_not_mem]
    · intro hm
      obtain ⟨j, hj, w, hw, hu⟩ := plc_mem.1 hm
      obtain rfl : k = j := by omega
      rw [hv] at hw; cases hw
      exact absurd (of_decide_eq_true hu) h0
    · exact plc_mem.2 ⟨k, rfl, v, hv, by unfold Ext.used; exact decide_eq_true h0⟩
theorem ord_bad {t : Tab} (h : rightB t = false) : ordT t = [] := by unfold ordT; rw [if_neg (by rw [h]; decide)]
theorem free_bad {t : Tab} (h : rightB t = false) : freeT t = [] := by unfold freeT; rw [if_neg (by rw [h]; decide)]
theorem freeT_le (t : Tab) : (freeT t).length ≤ t.exts.length := by
  have h := plc_len Ext.free t.exts
  unfold freeT
  split
  · exact h
  · simp
theorem arr60 : K.arrOf Try.prog 60 = some (8, 3, 1) := by kernel_rfl
/- turntable/turntablelaw09.TableAll -/
set_option maxHeartbeats 8000000 in
set_option maxRecDepth 100000 in
theorem all_con {t : Tab} {a : Option Addr} {c : Nat} {w : World} (hl : t.exts.length ≤ 9223372036854775807) [Old w [] a (encX) (t.exts)] :
    Calls Try.prog 9 #[.agg (tabC t a c).toArray] w fun e w' => e = .returned (.bool true) ∧ Tr w [] w' [] := by
  refine K.enter0 (args := [_]) Try.func9 rfl Try.ntmps9 rfl ?_
  refine K.GC.seq ?_
  refine K.GC.region ?_
  refine K.GL.box rfl rfl rfl (fun b1 => ?_)
  refine K.GL.det (K.e_assign rfl) rfl ?_
  refine K.GL.nil ?_
  refine K.GQ.go ?_
  refine K.GC.seq ?_
  refine K.GC.region ?_
  refine K.GL.det (ev_head_con Try.call26 rfl ) rfl ?_
  refine K.GL.det (K.e_assign rfl) rfl ?_
  refine K.GL.nil ?_
  refine K.GQ.go ?_
  refine K.GC.seq ?_
  refine K.GC.seq ?_
  refine K.GC.region ?_
  first | refine K.GL.det (K.e_ldA Try.isAgg29 Try.sizeOf29 rfl rfl (by assumption)) rfl ?_ | refine K.GL.det (K.e_ldAF Try.isAgg29 Try.sizeOf29 rfl rfl (by assumption) rfl) rfl ?_ | refine K.GL.det (K.e_loads Try.isAgg29 Try.sizeOf29 rfl rfl) rfl ?_
  refine K.GL.det (ev_right_con Try.call29 rfl (by first | assumption | omega | rfl | decide)) rfl ?_
  first | refine K.GL.det (K.e_notp rfl) rfl ?_ | refine K.GL.det (K.e_not rfl) rfl ?_
  refine K.GL.nil ?_
  refine K.GQ.go ?_
  refine K.GC.condB rfl (fun h1 => ?_) (fun h1 => ?_)
  · first
    | exact absurd h1 (by decide)
    | try replace h1 := of_decide_eq_true h1
      refine K.GC.seq ?_
      have hR : rightB t = false := by simpa using h1
      have ho0 := ord_bad hR
      have hf0 := free_bad hR
      have hl0 := last_bad hR
      refine K.GC.region ?_
      refine K.GL.det (K.e_move rfl) rfl ?_
      refine K.GL.det (K.e_move rfl) rfl ?_
      first | refine K.GL.splitB 16 rfl (fun h2 => ?_) (fun h2 => ?_) | skip
      all_goals first | exact absurd h2 (by decide) | replace h2 := of_decide_eq_true h2 | replace h2 := of_decide_eq_false h2 | skip
      all_goals
        first
          | refine K.GL.skip 16 rfl rfl rfl rfl ?_
          | refine K.GL.skipU 16 rfl rfl rfl rfl ?_
          | refine K.GL.skip0 16 rfl rfl rfl ?_
          | (refine K.GL.want 16 rfl rfl rfl ?_
             first | refine K.GL.det (K.e_ldA Try.isAgg29 Try.sizeOf29 rfl rfl (by assumption)) rfl ?_ | refine K.GL.det (K.e_ldAF Try.isAgg29 Try.sizeOf29 rfl rfl (by assumption) rfl) rfl ?_ | refine K.GL.det (K.e_loads Try.isAgg29 Try.sizeOf29 rfl rfl) rfl ?_)
        first
          | refine K.GL.skip 16 rfl rfl rfl rfl ?_
          | refine K.GL.skipU 16 rfl rfl rfl rfl ?_
          | refine K.GL.skip0 16 rfl rfl rfl ?_
          | (refine K.GL.want 16 rfl rfl rfl ?_
             refine gl_tord_con Try.call33 rfl (by first | assumption | omega | rfl | decide) rfl (fun a18 c18 => ?_))
        first
          | refine K.GL.skip 16 rfl rfl rfl rfl ?_
          | refine K.GL.skipU 16 rfl rfl rfl rfl ?_
          | refine K.GL.skip0 16 rfl rfl rfl ?_
          | (refine K.GL.want 16 rfl rfl rfl ?_
             refine K.GL.det (K.e_len Try.underlying56 rfl) rfl ?_)
        first
          | refine K.GL.skip 16 rfl rfl rfl rfl ?_
          | refine K.GL.skipU 16 rfl rfl rfl rfl ?_
          | refine K.GL.skip0 16 rfl rfl rfl ?_
          | (refine K.GL.want 16 rfl rfl rfl ?_
             refine K.GL.det ((K.e_eq rfl rfl).yes (by rw [ho0]; rfl)) rfl ?_)
        first | refine K.GL.det (K.e_pick_t rfl rfl) rfl ?_ | refine K.GL.det (K.e_pick_f rfl rfl) rfl ?_
        refine K.GL.det (K.e_move rfl) rfl ?_
        first | refine K.GL.splitB 22 rfl (fun h3 => ?_) (fun h3 => ?_) | skip
        all_goals first | exact absurd h3 (by decide) | replace h3 := of_decide_eq_true h3 | replace h3 := of_decide_eq_false h3 | skip
        all_goals
          first
            | refine K.GL.skip 22 rfl rfl rfl rfl ?_
            | refine K.GL.skipU 22 rfl rfl rfl rfl ?_
            | refine K.GL.skip0 22 rfl rfl rfl ?_
            | (refine K.GL.want 22 rfl rfl rfl ?_
               first | refine K.GL.det (K.e_ldA Try.isAgg29 Try.sizeOf29 rfl rfl (by assumption)) rfl ?_ | refine K.GL.det (K.e_ldAF Try.isAgg29 Try.sizeOf29 rfl rfl (by assumption) rfl) rfl ?_ | refine K.GL.det (K.e_loads Try.isAgg29 Try.sizeOf29 rfl rfl) rfl ?_)
          first
            | refine K.GL.skip 22 rfl rfl rfl rfl ?_
            | refine K.GL.skipU 22 rfl rfl rfl rfl ?_
            | refine K.GL.skip0 22 rfl rfl rfl ?_
            | (refine K.GL.want 22 rfl rfl rfl ?_
               refine gl_tfree_con Try.call35 rfl (by first | assumption | omega | rfl | decide) rfl (fun a24 c24 => ?_))
          first
            | refine K.GL.skip 22 rfl rfl rfl rfl ?_
            | refine K.GL.skipU 22 rfl rfl rfl rfl ?_
            | refine K.GL.skip0 22 rfl rfl rfl ?_
            | (refine K.GL.want 22 rfl rfl rfl ?_
               refine K.GL.det (K.e_len Try.underlying56 rfl) rfl ?_)
          first
            | refine K.GL.skip 22 rfl rfl rfl rfl ?_
            | refine K.GL.skipU 22 rfl rfl rfl rfl ?_
            | refine K.GL.skip0 22 rfl rfl rfl ?_
            | (refine K.GL.want 22 rfl rfl rfl ?_
               refine K.GL.det ((K.e_eq rfl rfl).yes (by rw [hf0]; rfl)) rfl ?_)
          first | refine K.GL.det (K.e_pick_t rfl rfl) rfl ?_ | refine K.GL.det (K.e_pick_f rfl rfl) rfl ?_
          refine K.GL.det (K.e_move rfl) rfl ?_
          first | refine K.GL.splitB 28 rfl (fun h4 => ?_) (fun h4 => ?_) | skip
          all_goals first | exact absurd h4 (by decide) | replace h4 := of_decide_eq_true h4 | replace h4 := of_decide_eq_false h4 | skip
          all_goals
            first
              | refine K.GL.skip 28 rfl rfl rfl rfl ?_
              | refine K.GL.skipU 28 rfl rfl rfl rfl ?_
              | refine K.GL.skip0 28 rfl rfl rfl ?_
              | (refine K.GL.want 28 rfl rfl rfl ?_
                 first | refine K.GL.det (K.e_ldA Try.isAgg29 Try.sizeOf29 rfl rfl (by assumption)) rfl ?_ | refine K.GL.det (K.e_ldAF Try.isAgg29 Try.sizeOf29 rfl rfl (by assumption) rfl) rfl ?_ | refine K.GL.det (K.e_loads Try.isAgg29 Try.sizeOf29 rfl rfl) rfl ?_)
            first
              | refine K.GL.skip 28 rfl rfl rfl rfl ?_
              | refine K.GL.skipU 28 rfl rfl rfl rfl ?_
              | refine K.GL.skip0 28 rfl rfl rfl ?_
              | (refine K.GL.want 28 rfl rfl rfl ?_
                 refine K.GL.det (ev_tlast_con Try.call37 rfl (by first | assumption | omega | rfl | decide)) rfl ?_)
            first
              | refine K.GL.skip 28 rfl rfl rfl rfl ?_
              | refine K.GL.skipU 28 rfl rfl rfl rfl ?_
              | refine K.GL.skip0 28 rfl rfl rfl ?_
              | (refine K.GL.want 28 rfl rfl rfl ?_
                 refine K.GL.det ((K.e_eq rfl rfl).yes hl0) rfl ?_)
            first | refine K.GL.det (K.e_pick_t rfl rfl) rfl ?_ | refine K.GL.det (K.e_pick_f rfl rfl) rfl ?_
            refine K.GL.det (K.e_assign rfl) rfl ?_
            refine K.GL.nil ?_
            refine K.GQ.go ?_
            refine K.GC.ret ?_
            refine K.GQ.then_ret ?_
            refine K.GQ.ret1 Try.results9 rfl (fun w hT => ?_)
            exact ⟨rfl, hT.nil⟩
  · first
    | exact absurd h1 (by decide)
    | try replace h1 := of_decide_eq_false h1
      refine K.GC.skip ?_
      refine K.GQ.go ?_
      refine K.GC.seq ?_
      have hP := (right_iff t).1 (by simpa using h1)
      have hn1 := hP.n1
      have hn2 := hP.n2
      have hol := ordT_le t
      have hfl := freeT_le t
      refine K.GC.region ?_
      refine K.GL.alloc Try.zeroValue60 rfl rfl (fun b4 => ?_)
      refine K.GL.nil ?_
      refine K.GQ.go ?_
      refine K.GC.seq ?_
      refine K.GC.region ?_
      first | refine K.GL.det (K.e_ldA Try.isAgg29 Try.sizeOf29 rfl rfl (by assumption)) rfl ?_ | refine K.GL.det (K.e_ldAF Try.isAgg29 Try.sizeOf29 rfl rfl (by assumption) rfl) rfl ?_ | refine K.GL.det (K.e_loads Try.isAgg29 Try.sizeOf29 rfl rfl) rfl ?_
      refine gl_tord_con Try.call33 rfl (by first | assumption | omega | rfl | decide) rfl (fun a34 c34 => ?_)
      refine K.GL.det (K.e_assign rfl) rfl ?_
      refine K.GL.nil ?_
      refine K.GQ.go ?_
      refine K.GC.seq ?_
      refine K.GC.region ?_
      first | refine K.GL.det (K.e_ldA Try.isAgg29 Try.sizeOf29 rfl rfl (by assumption)) rfl ?_ | refine K.GL.det (K.e_ldAF Try.isAgg29 Try.sizeOf29 rfl rfl (by assumption) rfl) rfl ?_ | refine K.GL.det (K.e_loads Try.isAgg29 Try.sizeOf29 rfl rfl) rfl ?_
      refine gl_tfree_con Try.call35 rfl (by first | assumption | omega | rfl | decide) rfl (fun a36 c36 => ?_)
      refine K.GL.det (K.e_assign rfl) rfl ?_
      refine K.GL.nil ?_
      refine K.GQ.go ?_
      refine K.GC.seq ?_
      refine K.GC.res (L' := [trow a36 c36 3 I6 (freeT t), trow a34 c34 3 I6 (ordT t), cl b4 60 (I6.fl (cn ((ordT t).take 0))), cl b1 29 (tabC t a c)]) ?_ (K.Sub.refl _)
      refine K.GC.region ?_
      refine K.GL.det (K.e_assign rfl) rfl ?_
      refine K.GL.nil ?_
      refine K.GQ.go ?_
      refine K.GC.seq ?_
      refine K.GC.seq ?_
      refine K.GC.region ?_
      refine K.GL.det (K.e_assign rfl) rfl ?_
      refine K.GL.nil ?_
      refine K.GQ.go ?_
      refine K.GC.block ?_
      refine K.GC.loopk (α := Nat) [1, 3, 4, 5, 6, 9, 10, 92, 93, 94, 95, 96, 97, 98, 99, 100, 101, 102, 103, 104, 105, 106, 107, 108, 109, 110, 111, 112, 113, 114, 115, 116, 117, 118, 119, 120, 121, 122, 123, 124, 125, 126, 127, 128, 129, 130, 131, 132, 133, 134, 135, 136, 137, 138, 139, 140, 141, 142, 143, 144, 145, 146, 147, 148, 149, 150, 151, 152, 153, 154, 155, 156, 157, 158, 159, 160, 161, 162, 163, 164, 165, 166, 167, 168, 169, 170] rfl (fun x => [(7, .int .i64 (prv t x)), (8, .int .i64 (x : Int))]) (fun x => [trow a36 c36 3 I6 (freeT t), trow a34 c34 3 I6 (ordT t), cl b4 60 (I6.fl (cn ((ordT t).take x))), cl b1 29 (tabC t a c)]) (fun x => x ≤ (ordT t).length) (fun x => ((ordT t).length - x)) 0 (Nat.zero_le _) (by (repeat refine ⟨rfl, ?_⟩); exact trivial) (K.Sub.refl _) (fun x hI => ?_)
      refine K.GC.seq ?_
      refine K.GC.seq ?_
      refine K.GC.region ?_
      refine K.GL.det (K.e_move rfl) rfl ?_
      refine K.GL.det (K.e_move rfl) rfl ?_
      refine K.GL.det (K.e_len Try.underlying56 rfl) rfl ?_
      first | refine K.GL.det ((K.e_lt rfl rfl).yes (by first | omega | assumption | decide +kernel)) rfl ?_ | refine K.GL.det ((K.e_lt rfl rfl).no (by first | omega | assumption | decide +kernel)) rfl ?_ | refine K.GL.det (K.e_lt rfl rfl) rfl ?_
      refine K.GL.nil ?_
      refine K.GQ.go ?_
      refine K.GC.condB rfl (fun h5 => ?_) (fun h5 => ?_)
      · first
        | exact absurd h5 (by decide)
        | try replace h5 := of_decide_eq_true h5
          refine K.GC.skip ?_
          refine K.GQ.go ?_
          refine K.GC.seq ?_
          refine K.GC.block ?_
          refine K.GC.seq ?_
          refine K.GC.seq ?_
          obtain ⟨j, v, hqj, hv, hjn, hlt⟩ := ord_at hP (x := x) (by omega)
          have hct := List.count_le_length (a := (j : Int)) (l := (ordT t).take x)
          rw [List.length_take] at hct
          refine K.D.GC.drawn0 28 [[], [], [0, 1], [0, 1, 2], [0, 1, 2, 3], [0, 1, 2, 3, 4], [0, 1, 2, 3, 4, 5], [0, 1, 2, 3, 4, 5], [0, 1, 2, 3, 4, 5, 6, 7], [0, 1, 2, 3, 4, 5, 6, 7, 8], [0, 1, 2, 3, 4, 5], [0, 1, 2, 3, 4, 5, 10], [0, 1, 2, 3, 4, 5, 10, 11], [0, 1, 2, 3, 4, 5, 6, 7, 8, 9, 10, 11, 12], [0, 1, 2, 3, 4, 5, 6, 7, 8, 9, 10, 11, 12, 13], [0, 1, 2, 3, 4, 5, 6, 7, 8, 9, 10, 11, 12, 13, 14], [0, 1, 2, 3, 4, 5, 6, 7, 8, 9, 10, 11, 12, 13, 14, 15], [0, 1, 2, 3, 4, 5, 6, 7, 8, 9, 10, 11, 12, 13, 14, 15, 16], [0, 1, 2, 3, 4, 5, 6, 7, 8, 9, 10, 11, 12, 13, 14, 15], [0, 1, 2, 3, 4, 5, 6, 7, 8, 9, 10, 11, 12, 13, 14, 15], [0, 1, 2, 3, 4, 5, 6, 7, 8, 9, 10, 11, 12, 13, 14, 15, 18, 19], [0, 1, 2, 3, 4, 5, 6, 7, 8, 9, 10, 11, 12, 13, 14, 15, 18, 19, 20], [0, 1, 2, 3, 4, 5, 6, 7, 8, 9, 10, 11, 12, 13, 14, 15, 16, 17, 18, 19, 20, 21], [0, 1, 2, 3, 4, 5, 6, 7, 8, 9, 10, 11, 12, 13, 14, 15, 16, 17, 18, 19, 20, 21, 22], [0, 1, 2, 3, 4, 5, 6, 7, 8, 9, 10, 11, 12, 13, 14, 15, 16, 17, 18, 19, 20, 21, 22, 23], [0, 1, 2, 3, 4, 5, 6, 7, 8, 9, 10, 11, 12, 13, 14, 15], [0, 1, 2, 3, 4, 5, 6, 7, 8, 9, 10, 11, 12, 13, 14, 15, 16, 17, 18, 19, 20, 21, 22, 23, 24, 25], [0, 1, 2, 3, 4, 5, 6, 7, 8, 9, 10, 11, 12, 13, 14, 15, 16, 17, 18, 19, 20, 21, 22, 23, 24, 25, 26]] [[], [], [0, 1], [2], [3], [4], [5], [5], [5, 6, 7], [5, 8], [5], [5, 10], [5, 11], [5, 9, 12], [5, 13], [14], [15], [15, 16], [15], [15], [15, 18, 19], [15, 20], [15, 17, 21], [15, 22], [15, 23], [15], [15, 24, 25], [15, 26]] [[], [], [], [], [], [], [], [], [], [], [], [], [], [], [], [], [], [], [], [], [], [], [], [], [], [], [], []] [[], [], [], [], [], [], [], [], [], [], [], [], [], [], [], [], [], [], [], [], [], [], [], [], [], [], [], []] [] [1, 2, 3, 4, 5, 6, 7, 8, 9, 10, 37, 38, 39, 40, 41, 42, 71, 72, 73, 74, 75, 76, 77, 78, 79, 80, 81, 82, 83, 84, 85, 86, 87, 88, 89, 90, 91, 92, 93, 94, 95, 96, 97, 98, 99, 100, 101, 102, 103, 104, 105, 106, 107, 108, 109, 110, 111, 112, 113, 114, 115, 116, 117, 118, 119, 120, 121, 122, 123, 124, 125, 126, 127, 128, 129, 130, 131, 132, 133, 134, 135, 136, 137, 138, 139, 140, 141, 142, 143, 144, 145, 146, 147, 148, 149, 150, 151, 152, 153, 154, 155, 156, 157, 158, 159, 160, 161, 162, 163, 164, 165, 166, 167, 168, 169, 170] (by kernel_rfl) (by kernel_rfl) (by kernel_rfl) rfl ?_
          refine K.D.DW.det (b := []) (u := []) rfl rfl rfl (fun vs hf => K.e_move rfl) ?_
          refine K.D.DW.det (b := []) (u := []) rfl rfl rfl (fun vs hf => K.e_move rfl) ?_
          first | refine K.D.DW.det (b := [0, 1]) (u := []) rfl rfl rfl (fun vs hf => K.e_ixN sl56 rfl rfl rfl rfl (by omega)) ?_ | refine K.D.DW.det (b := [0, 1]) (u := []) rfl rfl rfl (fun vs hf => K.e_ix sl56 rfl rfl rfl rfl (by omega) (by omega)) ?_ | refine K.D.DW.det (b := [0, 1]) (u := []) rfl rfl rfl (fun vs hf => K.e_indexAddrS sl56 rfl rfl (by assumption) (by omega) (by omega)) ?_ | refine K.D.DW.det (b := [0, 1]) (u := []) rfl rfl rfl (fun vs hf => K.e_indexAddr sl56 rfl rfl (by omega) (by omega)) ?_
          first | refine K.D.DW.det (b := [2]) (u := []) rfl rfl rfl (fun vs hf => K.e_ldE Try.isAgg3 rfl rfl (by assumption) rfl) ?_ | refine K.D.DW.det (b := [2]) (u := []) rfl rfl rfl (fun vs hf => K.e_ldF Try.isAgg3 rfl rfl (by assumption) rfl) ?_ | refine K.D.DW.det (b := [2]) (u := []) rfl rfl rfl (fun vs hf => K.e_load Try.isAgg3 rfl rfl) ?_ | refine K.D.DW.det (b := [2]) (u := []) rfl rfl rfl (fun vs hf => K.e_load0 Try.isAgg3 rfl (by assumption)) ?_
          refine K.D.DW.det (b := [3]) (u := []) rfl rfl rfl (fun vs hf => (K.e_lt rfl rfl).no (by omega)) ?_
          refine K.D.DW.det (b := [4]) (u := []) rfl rfl rfl (fun vs hf => K.e_move rfl) ?_
          first | (refine K.D.DW.want (b := [5]) rfl (fun _ => rfl) ?_; first | refine K.D.DW.det (b := [5]) (u := []) rfl rfl rfl (fun vs hf => K.e_move rfl) ?_) | refine K.D.DW.skip (b := [5]) rfl rfl (fun _ => rfl) ?_
          first | (refine K.D.DW.want (b := [5]) rfl (fun _ => rfl) ?_; first | refine K.D.DW.det (b := [5]) (u := []) rfl rfl rfl (fun vs hf => K.e_move rfl) ?_) | refine K.D.DW.skip (b := [5]) rfl rfl (fun _ => rfl) ?_
          first | (refine K.D.DW.want (b := [5, 6, 7]) rfl (fun _ => rfl) ?_; first | refine K.D.DW.det (b := [5, 6, 7]) (u := []) rfl rfl rfl (fun vs hf => K.e_ixN sl56 rfl rfl rfl rfl (by omega)) ?_ | refine K.D.DW.det (b := [5, 6, 7]) (u := []) rfl rfl rfl (fun vs hf => K.e_ix sl56 rfl rfl rfl rfl (by omega) (by omega)) ?_ | refine K.D.DW.det (b := [5, 6, 7]) (u := []) rfl rfl rfl (fun vs hf => K.e_indexAddrS sl56 rfl rfl (by assumption) (by omega) (by omega)) ?_ | refine K.D.DW.det (b := [5, 6, 7]) (u := []) rfl rfl rfl (fun vs hf => K.e_indexAddr sl56 rfl rfl (by omega) (by omega)) ?_) | refine K.D.DW.skip (b := [5, 6, 7]) rfl rfl (fun _ => rfl) ?_
          first | (refine K.D.DW.want (b := [5, 8]) rfl (fun _ => rfl) ?_; first | refine K.D.DW.det (b := [5, 8]) (u := []) rfl rfl rfl (fun vs hf => K.e_ldE Try.isAgg3 rfl rfl (by assumption) rfl) ?_ | refine K.D.DW.det (b := [5, 8]) (u := []) rfl rfl rfl (fun vs hf => K.e_ldF Try.isAgg3 rfl rfl (by assumption) rfl) ?_ | refine K.D.DW.det (b := [5, 8]) (u := []) rfl rfl rfl (fun vs hf => K.e_load Try.isAgg3 rfl rfl) ?_ | refine K.D.DW.det (b := [5, 8]) (u := []) rfl rfl rfl (fun vs hf => K.e_load0 Try.isAgg3 rfl (by assumption)) ?_) | refine K.D.DW.skip (b := [5, 8]) rfl rfl (fun _ => rfl) ?_
          first | (refine K.D.DW.want (b := [5]) rfl (fun _ => rfl) ?_; first | refine K.D.DW.det (b := [5]) (u := []) rfl rfl rfl (fun vs hf => K.e_fa fo29_2 rfl) ?_ | refine K.D.DW.det (b := [5]) (u := []) rfl rfl rfl (fun vs hf => K.e_fieldAddr fo29_2 rfl) ?_) | refine K.D.DW.skip (b := [5]) rfl rfl (fun _ => rfl) ?_
          first | (refine K.D.DW.want (b := [5, 10]) rfl (fun _ => rfl) ?_; first | refine K.D.DW.det (b := [5, 10]) (u := []) rfl rfl rfl (fun vs hf => K.e_ldE Try.isAgg27 rfl rfl (by assumption) rfl) ?_ | refine K.D.DW.det (b := [5, 10]) (u := []) rfl rfl rfl (fun vs hf => K.e_ldF Try.isAgg27 rfl rfl (by assumption) rfl) ?_ | refine K.D.DW.det (b := [5, 10]) (u := []) rfl rfl rfl (fun vs hf => K.e_load Try.isAgg27 rfl rfl) ?_ | refine K.D.DW.det (b := [5, 10]) (u := []) rfl rfl rfl (fun vs hf => K.e_load0 Try.isAgg27 rfl (by assumption)) ?_) | refine K.D.DW.skip (b := [5, 10]) rfl rfl (fun _ => rfl) ?_
          first | (refine K.D.DW.want (b := [5, 11]) rfl (fun _ => rfl) ?_; first | refine K.D.DW.det (b := [5, 11]) (u := []) rfl rfl rfl (fun vs hf => K.e_len Try.underlying27 rfl) ?_) | refine K.D.DW.skip (b := [5, 11]) rfl rfl (fun _ => rfl) ?_
          first | (refine K.D.DW.want (b := [5, 9, 12]) rfl (fun _ => rfl) ?_; first | refine K.D.DW.det (b := [5, 9, 12]) (u := []) rfl rfl rfl (fun vs hf => (K.e_ge rfl rfl).no (by omega)) ?_) | refine K.D.DW.skip (b := [5, 9, 12]) rfl rfl (fun _ => rfl) ?_
          first | refine K.D.DW.det (b := [5, 13]) (u := []) rfl rfl rfl (fun vs hf => K.e_pick_t rfl rfl) ?_ | refine K.D.DW.det (b := [5, 13]) (u := []) rfl rfl rfl (fun vs hf => K.e_pick_f rfl rfl) ?_
          refine K.D.DW.det (b := [14]) (u := []) rfl rfl rfl (fun vs hf => K.e_move rfl) ?_
          first | (refine K.D.DW.want (b := [15]) rfl (fun _ => rfl) ?_; first | refine K.D.DW.det (b := [15]) (u := []) rfl rfl rfl (fun vs hf => K.e_fa fo29_2 rfl) ?_ | refine K.D.DW.det (b := [15]) (u := []) rfl rfl rfl (fun vs hf => K.e_fieldAddr fo29_2 rfl) ?_) | refine K.D.DW.skip (b := [15]) rfl rfl (fun _ => rfl) ?_
          first | (refine K.D.DW.want (b := [15, 16]) rfl (fun _ => rfl) ?_; first | refine K.D.DW.det (b := [15, 16]) (u := []) rfl rfl rfl (fun vs hf => K.e_ldE Try.isAgg27 rfl rfl (by assumption) rfl) ?_ | refine K.D.DW.det (b := [15, 16]) (u := []) rfl rfl rfl (fun vs hf => K.e_ldF Try.isAgg27 rfl rfl (by assumption) rfl) ?_ | refine K.D.DW.det (b := [15, 16]) (u := []) rfl rfl rfl (fun vs hf => K.e_load Try.isAgg27 rfl rfl) ?_ | refine K.D.DW.det (b := [15, 16]) (u := []) rfl rfl rfl (fun vs hf => K.e_load0 Try.isAgg27 rfl (by assumption)) ?_) | refine K.D.DW.skip (b := [15, 16]) rfl rfl (fun _ => rfl) ?_
          first | (refine K.D.DW.want (b := [15]) rfl (fun _ => rfl) ?_; first | refine K.D.DW.det (b := [15]) (u := []) rfl rfl rfl (fun vs hf => K.e_move rfl) ?_) | refine K.D.DW.skip (b := [15]) rfl rfl (fun _ => rfl) ?_
          first | (refine K.D.DW.want (b := [15]) rfl (fun _ => rfl) ?_; first | refine K.D.DW.det (b := [15]) (u := []) rfl rfl rfl (fun vs hf => K.e_move rfl) ?_) | refine K.D.DW.skip (b := [15]) rfl rfl (fun _ => rfl) ?_
          first | (refine K.D.DW.want (b := [15, 18, 19]) rfl (fun _ => rfl) ?_; first | refine K.D.DW.det (b := [15, 18, 19]) (u := []) rfl rfl rfl (fun vs hf => K.e_ixN sl56 rfl rfl rfl rfl (by omega)) ?_ | refine K.D.DW.det (b := [15, 18, 19]) (u := []) rfl rfl rfl (fun vs hf => K.e_ix sl56 rfl rfl rfl rfl (by omega) (by omega)) ?_ | refine K.D.DW.det (b := [15, 18, 19]) (u := []) rfl rfl rfl (fun vs hf => K.e_indexAddrS sl56 rfl rfl (by assumption) (by omega) (by omega)) ?_ | refine K.D.DW.det (b := [15, 18, 19]) (u := []) rfl rfl rfl (fun vs hf => K.e_indexAddr sl56 rfl rfl (by omega) (by omega)) ?_) | refine K.D.DW.skip (b := [15, 18, 19]) rfl rfl (fun _ => rfl) ?_
          first | (refine K.D.DW.want (b := [15, 20]) rfl (fun _ => rfl) ?_; first | refine K.D.DW.det (b := [15, 20]) (u := []) rfl rfl rfl (fun vs hf => K.e_ldE Try.isAgg3 rfl rfl (by assumption) rfl) ?_ | refine K.D.DW.det (b := [15, 20]) (u := []) rfl rfl rfl (fun vs hf => K.e_ldF Try.isAgg3 rfl rfl (by assumption) rfl) ?_ | refine K.D.DW.det (b := [15, 20]) (u := []) rfl rfl rfl (fun vs hf => K.e_load Try.isAgg3 rfl rfl) ?_ | refine K.D.DW.det (b := [15, 20]) (u := []) rfl rfl rfl (fun vs hf => K.e_load0 Try.isAgg3 rfl (by assumption)) ?_) | refine K.D.DW.skip (b := [15, 20]) rfl rfl (fun _ => rfl) ?_
          first | (refine K.D.DW.want (b := [15, 17, 21]) rfl (fun _ => rfl) ?_; first | refine K.D.DW.det (b := [15, 17, 21]) (u := []) rfl rfl rfl (fun vs hf => K.e_ixN sl27 rfl rfl rfl rfl (by omega)) ?_ | refine K.D.DW.det (b := [15, 17, 21]) (u := []) rfl rfl rfl (fun vs hf => K.e_ix sl27 rfl rfl rfl rfl (by omega) (by omega)) ?_ | refine K.D.DW.det (b := [15, 17, 21]) (u := []) rfl rfl rfl (fun vs hf => K.e_indexAddrS sl27 rfl rfl (by assumption) (by omega) (by omega)) ?_ | refine K.D.DW.det (b := [15, 17, 21]) (u := []) rfl rfl rfl (fun vs hf => K.e_indexAddr sl27 rfl rfl (by omega) (by omega)) ?_) | refine K.D.DW.skip (b := [15, 17, 21]) rfl rfl (fun _ => rfl) ?_
          first | (refine K.D.DW.want (b := [15, 22]) rfl (fun _ => rfl) ?_; first | refine K.D.DW.det (b := [15, 22]) (u := []) rfl rfl rfl (fun vs hf => K.e_fa fo62_0 rfl) ?_ | refine K.D.DW.det (b := [15, 22]) (u := []) rfl rfl rfl (fun vs hf => K.e_fieldAddr fo62_0 rfl) ?_) | refine K.D.DW.skip (b := [15, 22]) rfl rfl (fun _ => rfl) ?_
          first | (refine K.D.DW.want (b := [15, 23]) rfl (fun _ => rfl) ?_; first | refine K.D.DW.det (b := [15, 23]) (u := []) rfl rfl rfl (fun vs hf => K.e_ldE Try.isAgg2 rfl rfl (by assumption) rfl) ?_ | refine K.D.DW.det (b := [15, 23]) (u := []) rfl rfl rfl (fun vs hf => K.e_ldF Try.isAgg2 rfl rfl (by assumption) rfl) ?_ | refine K.D.DW.det (b := [15, 23]) (u := []) rfl rfl rfl (fun vs hf => K.e_load Try.isAgg2 rfl rfl) ?_ | refine K.D.DW.det (b := [15, 23]) (u := []) rfl rfl rfl (fun vs hf => K.e_load0 Try.isAgg2 rfl (by assumption)) ?_) | refine K.D.DW.skip (b := [15, 23]) rfl rfl (fun _ => rfl) ?_
          first | (refine K.D.DW.want (b := [15]) rfl (fun _ => rfl) ?_; first | refine K.D.DW.det (b := [15]) (u := []) rfl rfl rfl (fun vs hf => K.e_move rfl) ?_) | refine K.D.DW.skip (b := [15]) rfl rfl (fun _ => rfl) ?_
          first | (refine K.D.DW.want (b := [15, 24, 25]) rfl (fun _ => rfl) ?_; first | refine K.D.DW.det (b := [15, 24, 25]) (u := []) rfl rfl rfl (fun vs hf => (K.e_le rfl rfl).no (by omega)) ?_) | refine K.D.DW.skip (b := [15, 24, 25]) rfl rfl (fun _ => rfl) ?_
          first | refine K.D.DW.det (b := [15, 26]) (u := []) rfl rfl rfl (fun vs hf => K.e_pick_t rfl rfl) ?_ | refine K.D.DW.det (b := [15, 26]) (u := []) rfl rfl rfl (fun vs hf => K.e_pick_f rfl rfl) ?_
          refine K.D.DW.fin (fun vs hf => ?_)
          refine K.GL.keep [1, 2, 3, 4, 5, 6, 7, 8, 9, 10, 37, 38, 39, 40, 41, 42, 43, 44, 45, 46, 47, 48, 49, 50, 51, 52, 53, 54, 55, 56, 57, 58, 59, 60, 61, 62, 63, 64, 65, 66, 67, 68, 69, 70, 71, 72, 73, 74, 75, 76, 77, 78, 79, 80, 81, 82, 83, 84, 85, 86, 87, 88, 89, 90, 91, 92, 93, 94, 95, 96, 97, 98, 99, 100, 101, 102, 103, 104, 105, 106, 107, 108, 109, 110, 111, 112, 113, 114, 115, 116, 117, 118, 119, 120, 121, 122, 123, 124, 125, 126, 127, 128, 129, 130, 131, 132, 133, 134, 135, 136, 137, 138, 139, 140, 141, 142, 143, 144, 145, 146, 147, 148, 149, 150, 151, 152, 153, 154, 155, 156, 157, 158, 159, 160, 161, 162, 163, 164, 165, 166, 167, 168, 169, 170] rfl ?_
          refine K.D.GL.res0 rfl ?_
          clear hf
          try clear vs
          refine K.GL.nil ?_
          refine K.GQ.go ?_
          refine K.GC.condB rfl (fun h6 => ?_) (fun h6 => ?_)
          · first
            | exact absurd h6 (by decide)
            | try replace h6 := of_decide_eq_true h6
              refine K.GC.seq ?_
              refine K.GC.region ?_
              refine K.GL.det (K.e_assign rfl) rfl ?_
              refine K.GL.nil ?_
              refine K.GQ.go ?_
              refine K.GC.ret ?_
              refine K.GQ.then_ret ?_
              refine K.GQ.block_ret ?_
              refine K.GQ.then_ret ?_
              refine K.GQ.then_ret ?_
              refine K.GQ.block_ret ?_
              refine K.GQ.then_ret ?_
              refine K.GQ.ret1 Try.results9 rfl (fun w hT => ?_)
              exact ⟨rfl, hT.nil⟩
          · first
            | exact absurd h6 (by decide)
            | try replace h6 := of_decide_eq_false h6
              refine K.GC.skip ?_
              refine K.GQ.go ?_
              refine K.GC.seq ?_
              refine K.D.GC.drawn0 9 [[], [0], [], [], [2, 3], [2, 3, 4], [0, 1, 2, 3, 4, 5], [0, 1, 2, 3, 4, 5, 6], [0, 1, 2, 3, 4, 5, 6, 7], [0, 1, 2, 3, 4, 5, 6, 7, 8]] [[], [0], [], [], [2, 3], [4], [1, 5], [6], [7]] [[], [], [], [], [], [], [], [], []] [[], [], [], [], [], [], [], [], []] [] [1, 2, 3, 4, 5, 6, 7, 8, 9, 10, 37, 38, 39, 40, 41, 42, 43, 44, 45, 46, 47, 48, 49, 50, 51, 52, 53, 54, 55, 56, 57, 58, 59, 60, 61, 62, 63, 64, 65, 66, 67, 68, 69, 70, 80, 81, 82, 83, 84, 85, 86, 87, 88, 89, 90, 91, 92, 93, 94, 95, 96, 97, 98, 99, 100, 101, 102, 103, 104, 105, 106, 107, 108, 109, 110, 111, 112, 113, 114, 115, 116, 117, 118, 119, 120, 121, 122, 123, 124, 125, 126, 127, 128, 129, 130, 131, 132, 133, 134, 135, 136, 137, 138, 139, 140, 141, 142, 143, 144, 145, 146, 147, 148, 149, 150, 151, 152, 153, 154, 155, 156, 157, 158, 159, 160, 161, 162, 163, 164, 165, 166, 167, 168, 169, 170] (by kernel_rfl) (by kernel_rfl) (by kernel_rfl) rfl ?_
              first | refine K.D.DW.det (b := []) (u := []) rfl rfl rfl (fun vs hf => K.e_fa fo29_2 rfl) ?_ | refine K.D.DW.det (b := []) (u := []) rfl rfl rfl (fun vs hf => K.e_fieldAddr fo29_2 rfl) ?_
              first | refine K.D.DW.det (b := [0]) (u := []) rfl rfl rfl (fun vs hf => K.e_ldE Try.isAgg27 rfl rfl (by assumption) rfl) ?_ | refine K.D.DW.det (b := [0]) (u := []) rfl rfl rfl (fun vs hf => K.e_ldF Try.isAgg27 rfl rfl (by assumption) rfl) ?_ | refine K.D.DW.det (b := [0]) (u := []) rfl rfl rfl (fun vs hf => K.e_load Try.isAgg27 rfl rfl) ?_ | refine K.D.DW.det (b := [0]) (u := []) rfl rfl rfl (fun vs hf => K.e_load0 Try.isAgg27 rfl (by assumption)) ?_
              refine K.D.DW.det (b := []) (u := []) rfl rfl rfl (fun vs hf => K.e_move rfl) ?_
              refine K.D.DW.det (b := []) (u := []) rfl rfl rfl (fun vs hf => K.e_move rfl) ?_
              first | refine K.D.DW.det (b := [2, 3]) (u := []) rfl rfl rfl (fun vs hf => K.e_ixN sl56 rfl rfl rfl rfl (by omega)) ?_ | refine K.D.DW.det (b := [2, 3]) (u := []) rfl rfl rfl (fun vs hf => K.e_ix sl56 rfl rfl rfl rfl (by omega) (by omega)) ?_ | refine K.D.DW.det (b := [2, 3]) (u := []) rfl rfl rfl (fun vs hf => K.e_indexAddrS sl56 rfl rfl (by assumption) (by omega) (by omega)) ?_ | refine K.D.DW.det (b := [2, 3]) (u := []) rfl rfl rfl (fun vs hf => K.e_indexAddr sl56 rfl rfl (by omega) (by omega)) ?_
              first | refine K.D.DW.det (b := [4]) (u := []) rfl rfl rfl (fun vs hf => K.e_ldE Try.isAgg3 rfl rfl (by assumption) rfl) ?_ | refine K.D.DW.det (b := [4]) (u := []) rfl rfl rfl (fun vs hf => K.e_ldF Try.isAgg3 rfl rfl (by assumption) rfl) ?_ | refine K.D.DW.det (b := [4]) (u := []) rfl rfl rfl (fun vs hf => K.e_load Try.isAgg3 rfl rfl) ?_ | refine K.D.DW.det (b := [4]) (u := []) rfl rfl rfl (fun vs hf => K.e_load0 Try.isAgg3 rfl (by assumption)) ?_
              first | refine K.D.DW.det (b := [1, 5]) (u := []) rfl rfl rfl (fun vs hf => K.e_ixN sl27 rfl rfl rfl rfl (by omega)) ?_ | refine K.D.DW.det (b := [1, 5]) (u := []) rfl rfl rfl (fun vs hf => K.e_ix sl27 rfl rfl rfl rfl (by omega) (by omega)) ?_ | refine K.D.DW.det (b := [1, 5]) (u := []) rfl rfl rfl (fun vs hf => K.e_indexAddrS sl27 rfl rfl (by assumption) (by omega) (by omega)) ?_ | refine K.D.DW.det (b := [1, 5]) (u := []) rfl rfl rfl (fun vs hf => K.e_indexAddr sl27 rfl rfl (by omega) (by omega)) ?_
              first | refine K.D.DW.det (b := [6]) (u := []) rfl rfl rfl (fun vs hf => K.e_fa fo62_0 rfl) ?_ | refine K.D.DW.det (b := [6]) (u := []) rfl rfl rfl (fun vs hf => K.e_fieldAddr fo62_0 rfl) ?_
              first | refine K.D.DW.det (b := [7]) (u := []) rfl rfl rfl (fun vs hf => K.e_ldE Try.isAgg2 rfl rfl (by assumption) rfl) ?_ | refine K.D.DW.det (b := [7]) (u := []) rfl rfl rfl (fun vs hf => K.e_ldF Try.isAgg2 rfl rfl (by assumption) rfl) ?_ | refine K.D.DW.det (b := [7]) (u := []) rfl rfl rfl (fun vs hf => K.e_load Try.isAgg2 rfl rfl) ?_ | refine K.D.DW.det (b := [7]) (u := []) rfl rfl rfl (fun vs hf => K.e_load0 Try.isAgg2 rfl (by assumption)) ?_
              refine K.D.DW.fin (fun vs hf => ?_)
              refine K.GL.keep [1, 2, 3, 4, 5, 6, 7, 8, 9, 10, 37, 38, 39, 40, 41, 42, 43, 44, 45, 46, 47, 48, 49, 50, 51, 52, 53, 54, 55, 56, 57, 58, 59, 60, 61, 62, 63, 64, 65, 66, 67, 68, 69, 70, 71, 72, 73, 74, 75, 76, 77, 78, 79, 80, 81, 82, 83, 84, 85, 86, 87, 88, 89, 90, 91, 92, 93, 94, 95, 96, 97, 98, 99, 100, 101, 102, 103, 104, 105, 106, 107, 108, 109, 110, 111, 112, 113, 114, 115, 116, 117, 118, 119, 120, 121, 122, 123, 124, 125, 126, 127, 128, 129, 130, 131, 132, 133, 134, 135, 136, 137, 138, 139, 140, 141, 142, 143, 144, 145, 146, 147, 148, 149, 150, 151, 152, 153, 154, 155, 156, 157, 158, 159, 160, 161, 162, 163, 164, 165, 166, 167, 168, 169, 170] rfl ?_
              refine K.D.GL.res0 rfl ?_
              clear hf
              try clear vs
              refine K.GL.det (K.e_assign rfl) rfl ?_
              refine K.GL.nil ?_
              refine K.GQ.go ?_
              refine K.D.GC.drawn0 12 [[], [], [0, 1], [0, 1, 2], [], [], [4, 5], [4, 5, 6], [4, 5, 6, 7], [4, 5, 6, 7, 8], [4, 5, 6, 7, 8, 9], [0, 1, 2, 3, 4, 5, 6, 7, 8, 9, 10], [0, 1, 2, 3, 4, 5, 6, 7, 8, 9, 10, 11]] [[], [], [0, 1], [2], [], [], [4, 5], [6], [7], [8], [9], [3]] [[], [], [], [], [], [], [], [], [], [], [], []] [[], [], [], [], [], [], [], [], [], [], [], []] [] [1, 2, 3, 4, 5, 6, 7, 8, 9, 10, 37, 38, 39, 40, 41, 42, 43, 44, 45, 46, 47, 48, 49, 50, 51, 52, 53, 54, 55, 56, 57, 58, 59, 60, 61, 62, 63, 64, 65, 66, 67, 68, 69, 70, 71, 72, 73, 74, 75, 76, 77, 78, 79, 92, 93, 94, 95, 96, 97, 98, 99, 100, 101, 102, 103, 104, 105, 106, 107, 108, 109, 110, 111, 112, 113, 114, 115, 116, 117, 118, 119, 120, 121, 122, 123, 124, 125, 126, 127, 128, 129, 130, 131, 132, 133, 134, 135, 136, 137, 138, 139, 140, 141, 142, 143, 144, 145, 146, 147, 148, 149, 150, 151, 152, 153, 154, 155, 156, 157, 158, 159, 160, 161, 162, 163, 164, 165, 166, 167, 168, 169, 170] (by kernel_rfl) (by kernel_rfl) (by kernel_rfl) rfl ?_
              refine K.D.DW.det (b := []) (u := []) rfl rfl rfl (fun vs hf => K.e_move rfl) ?_
              refine K.D.DW.det (b := []) (u := []) rfl rfl rfl (fun vs hf => K.e_move rfl) ?_
              first | refine K.D.DW.det (b := [0, 1]) (u := []) rfl rfl rfl (fun vs hf => K.e_ixN sl56 rfl rfl rfl rfl (by omega)) ?_ | refine K.D.DW.det (b := [0, 1]) (u := []) rfl rfl rfl (fun vs hf => K.e_ix sl56 rfl rfl rfl rfl (by omega) (by omega)) ?_ | refine K.D.DW.det (b := [0, 1]) (u := []) rfl rfl rfl (fun vs hf => K.e_indexAddrS sl56 rfl rfl (by assumption) (by omega) (by omega)) ?_ | refine K.D.DW.det (b := [0, 1]) (u := []) rfl rfl rfl (fun vs hf => K.e_indexAddr sl56 rfl rfl (by omega) (by omega)) ?_
              first | refine K.D.DW.det (b := [2]) (u := []) rfl rfl rfl (fun vs hf => K.e_ldE Try.isAgg3 rfl rfl (by assumption) rfl) ?_ | refine K.D.DW.det (b := [2]) (u := []) rfl rfl rfl (fun vs hf => K.e_ldF Try.isAgg3 rfl rfl (by assumption) rfl) ?_ | refine K.D.DW.det (b := [2]) (u := []) rfl rfl rfl (fun vs hf => K.e_load Try.isAgg3 rfl rfl) ?_ | refine K.D.DW.det (b := [2]) (u := []) rfl rfl rfl (fun vs hf => K.e_load0 Try.isAgg3 rfl (by assumption)) ?_
              refine K.D.DW.det (b := []) (u := []) rfl rfl rfl (fun vs hf => K.e_move rfl) ?_
              refine K.D.DW.det (b := []) (u := []) rfl rfl rfl (fun vs hf => K.e_move rfl) ?_
              first | refine K.D.DW.det (b := [4, 5]) (u := []) rfl rfl rfl (fun vs hf => K.e_ixN sl56 rfl rfl rfl rfl (by omega)) ?_ | refine K.D.DW.det (b := [4, 5]) (u := []) rfl rfl rfl (fun vs hf => K.e_ix sl56 rfl rfl rfl rfl (by omega) (by omega)) ?_ | refine K.D.DW.det (b := [4, 5]) (u := []) rfl rfl rfl (fun vs hf => K.e_indexAddrS sl56 rfl rfl (by assumption) (by omega) (by omega)) ?_ | refine K.D.DW.det (b := [4, 5]) (u := []) rfl rfl rfl (fun vs hf => K.e_indexAddr sl56 rfl rfl (by omega) (by omega)) ?_
              first | refine K.D.DW.det (b := [6]) (u := []) rfl rfl rfl (fun vs hf => K.e_ldE Try.isAgg3 rfl rfl (by assumption) rfl) ?_ | refine K.D.DW.det (b := [6]) (u := []) rfl rfl rfl (fun vs hf => K.e_ldF Try.isAgg3 rfl rfl (by assumption) rfl) ?_ | refine K.D.DW.det (b := [6]) (u := []) rfl rfl rfl (fun vs hf => K.e_load Try.isAgg3 rfl rfl) ?_ | refine K.D.DW.det (b := [6]) (u := []) rfl rfl rfl (fun vs hf => K.e_load0 Try.isAgg3 rfl (by assumption)) ?_
              refine K.D.DW.det (b := [7]) (u := []) rfl rfl rfl (fun vs hf => K.e_indexAddrA arr60 rfl rfl (by omega) (by omega)) ?_
              refine K.D.DW.det (b := [8]) (u := []) rfl rfl rfl (fun vs hf => K.e_load Try.isAgg3 rfl (cn_load (by omega))) ?_
              first | refine K.D.DW.det (b := [9]) (u := []) rfl rfl rfl (fun vs hf => K.e_add rfl rfl ⟨by omega, by omega⟩) ?_ | refine K.D.DW.det (b := [9]) (u := []) rfl rfl rfl (fun vs hf => K.e_addw rfl rfl) ?_
              refine K.D.DW.det (b := [3]) (u := []) rfl rfl rfl (fun vs hf => K.e_indexAddrA arr60 rfl rfl (by omega) (by omega)) ?_
              refine K.D.DW.fin (fun vs hf => ?_)
              refine K.GL.keep [1, 2, 3, 4, 5, 6, 7, 8, 9, 10, 37, 38, 39, 40, 41, 42, 43, 44, 45, 46, 47, 48, 49, 50, 51, 52, 53, 54, 55, 56, 57, 58, 59, 60, 61, 62, 63, 64, 65, 66, 67, 68, 69, 70, 71, 72, 73, 74, 75, 76, 77, 78, 79, 80, 81, 82, 83, 84, 85, 86, 87, 88, 89, 90, 91, 92, 93, 94, 95, 96, 97, 98, 99, 100, 101, 102, 103, 104, 105, 106, 107, 108, 109, 110, 111, 112, 113, 114, 115, 116, 117, 118, 119, 120, 121, 122, 123, 124, 125, 126, 127, 128, 129, 130, 131, 132, 133, 134, 135, 136, 137, 138, 139, 140, 141, 142, 143, 144, 145, 146, 147, 148, 149, 150, 151, 152, 153, 154, 155, 156, 157, 158, 159, 160, 161, 162, 163, 164, 165, 166, 167, 168, 169, 170] rfl ?_
              refine K.D.GL.res0 rfl ?_
              clear hf
              try clear vs
              refine K.GL.storeP rfl rfl rfl Try.sizeOf3 rfl rfl (cn_store (by omega)) ?_
              refine K.GL.nil ?_
              refine K.GQ.block_normal ?_
              refine K.GQ.go ?_
              refine K.GC.region ?_
              refine K.GL.det (K.e_move rfl) rfl ?_
              first | refine K.GL.det (K.e_add rfl rfl ⟨by omega, by omega⟩) rfl ?_ | refine K.GL.det (K.e_addw rfl rfl) rfl ?_
              refine K.GL.det (K.e_assign rfl) rfl ?_
              refine K.GL.nil ?_
              exact K.GQ.round (x + 1) (by omega) (by omega) (by rw [prv_next hqj hv]; (repeat refine ⟨rfl, ?_⟩); exact trivial) (by rw [take_one hqj]; exact K.sb)
      · first
        | exact absurd h5 (by decide)
        | try replace h5 := of_decide_eq_false h5
          refine K.GC.exit ?_
          refine K.GQ.then_exit ?_
          refine K.GQ.then_exit ?_
          refine K.GQ.block_hit ?_
          refine K.GQ.go ?_
          refine K.GC.seq ?_
          refine K.GC.seq ?_
          obtain rfl : x = (ordT t).length := by omega
          rw [List.take_length, prv_all]
          have hz0 : cn (ordT t) = cn (ordT t ++ (freeT t).take 0) := by rw [List.take_zero, List.append_nil]
          rw [hz0]
          refine K.GC.region ?_
          refine K.GL.det (K.e_assign rfl) rfl ?_
          refine K.GL.nil ?_
          refine K.GQ.go ?_
          refine K.GC.block ?_
          refine K.GC.loopk (α := Nat) [1, 3, 4, 6, 7, 10, 153, 154, 155, 156, 157, 158, 159, 160, 161, 162, 163, 164, 165, 166, 167, 168, 169, 170] rfl (fun y => [(9, .int .i64 (y : Int))]) (fun y => [trow a36 c36 3 I6 (freeT t), trow a34 c34 3 I6 (ordT t), cl b4 60 (I6.fl (cn (ordT t ++ (freeT t).take y))), cl b1 29 (tabC t a c)]) (fun y => y ≤ (freeT t).length) (fun y => ((freeT t).length - y)) 0 (Nat.zero_le _) (by first | ((repeat refine ⟨rfl, ?_⟩); exact trivial) | (simp only [List.take_zero, List.map_nil, List.flatMap_nil, List.append_nil]; (repeat refine ⟨rfl, ?_⟩); exact trivial)) (K.Sub.refl _) (fun y hI => ?_)
          refine K.GC.seq ?_
          refine K.GC.seq ?_
          refine K.GC.region ?_
          refine K.GL.det (K.e_move rfl) rfl ?_
          refine K.GL.det (K.e_move rfl) rfl ?_
          refine K.GL.det (K.e_len Try.underlying56 rfl) rfl ?_
          first | refine K.GL.det ((K.e_lt rfl rfl).yes (by first | omega | assumption | decide +kernel)) rfl ?_ | refine K.GL.det ((K.e_lt rfl rfl).no (by first | omega | assumption | decide +kernel)) rfl ?_ | refine K.GL.det (K.e_lt rfl rfl) rfl ?_
          refine K.GL.nil ?_
          refine K.GQ.go ?_
          refine K.GC.condB rfl (fun h7 => ?_) (fun h7 => ?_)
          · first
            | exact absurd h7 (by decide)
            | try replace h7 := of_decide_eq_true h7
              refine K.GC.skip ?_
              refine K.GQ.go ?_
              refine K.GC.seq ?_
              refine K.GC.block ?_
              refine K.GC.seq ?_
              refine K.GC.seq ?_
              obtain ⟨j, v, hqj, hv, hjn, hv0, hpr⟩ := free_at hP (y := y) (by omega)
              have hct := List.count_le_length (a := (j : Int)) (l := ordT t ++ (freeT t).take y)
              rw [List.length_append, List.length_take] at hct
              have hcase : y = 0 ∨ ∃ y' k : Nat, y = y' + 1 ∧ (freeT t)[y']? = some (k : Int) ∧ k < j := by
                cases y with
                | zero => exact Or.inl rfl
                | succ y' => obtain ⟨k, hk, hkj⟩ := hpr y' rfl; exact Or.inr ⟨y', k, rfl, hk, hkj⟩
              rcases hcase with hy0 | ⟨y', k, hyk, hqk, hkj⟩
              all_goals
                refine K.D.GC.drawn0 43 [[], [], [0, 1], [0, 1, 2], [0, 1, 2, 3], [0, 1, 2, 3, 4], [0, 1, 2, 3, 4, 5], [0, 1, 2, 3, 4, 5], [0, 1, 2, 3, 4, 5, 6, 7], [0, 1, 2, 3, 4, 5, 6, 7, 8], [0, 1, 2, 3, 4, 5], [0, 1, 2, 3, 4, 5, 10], [0, 1, 2, 3, 4, 5, 10, 11], [0, 1, 2, 3, 4, 5, 6, 7, 8, 9, 10, 11, 12], [0, 1, 2, 3, 4, 5, 6, 7, 8, 9, 10, 11, 12, 13], [0, 1, 2, 3, 4, 5, 6, 7, 8, 9, 10, 11, 12, 13, 14], [0, 1, 2, 3, 4, 5, 6, 7, 8, 9, 10, 11, 12, 13, 14, 15], [0, 1, 2, 3, 4, 5, 6, 7, 8, 9, 10, 11, 12, 13, 14, 15, 16], [0, 1, 2, 3, 4, 5, 6, 7, 8, 9, 10, 11, 12, 13, 14, 15], [0, 1, 2, 3, 4, 5, 6, 7, 8, 9, 10, 11, 12, 13, 14, 15], [0, 1, 2, 3, 4, 5, 6, 7, 8, 9, 10, 11, 12, 13, 14, 15, 18, 19], [0, 1, 2, 3, 4, 5, 6, 7, 8, 9, 10, 11, 12, 13, 14, 15, 18, 19, 20], [0, 1, 2, 3, 4, 5, 6, 7, 8, 9, 10, 11, 12, 13, 14, 15, 16, 17, 18, 19, 20, 21], [0, 1, 2, 3, 4, 5, 6, 7, 8, 9, 10, 11, 12, 13, 14, 15, 16, 17, 18, 19, 20, 21, 22], [0, 1, 2, 3, 4, 5, 6, 7, 8, 9, 10, 11, 12, 13, 14, 15, 16, 17, 18, 19, 20, 21, 22, 23], [0, 1, 2, 3, 4, 5, 6, 7, 8, 9, 10, 11, 12, 13, 14, 15, 16, 17, 18, 19, 20, 21, 22, 23, 24], [0, 1, 2, 3, 4, 5, 6, 7, 8, 9, 10, 11, 12, 13, 14, 15, 16, 17, 18, 19, 20, 21, 22, 23, 24, 25], [0, 1, 2, 3, 4, 5, 6, 7, 8, 9, 10, 11, 12, 13, 14, 15, 16, 17, 18, 19, 20, 21, 22, 23, 24, 25, 26], [0, 1, 2, 3, 4, 5, 6, 7, 8, 9, 10, 11, 12, 13, 14, 15, 16, 17, 18, 19, 20, 21, 22, 23, 24, 25, 26, 27], [0, 1, 2, 3, 4, 5, 6, 7, 8, 9, 10, 11, 12, 13, 14, 15, 16, 17, 18, 19, 20, 21, 22, 23, 24, 25, 26, 27, 28], [0, 1, 2, 3, 4, 5, 6, 7, 8, 9, 10, 11, 12, 13, 14, 15, 16, 17, 18, 19, 20, 21, 22, 23, 24, 25, 26, 27, 28, 29], [0, 1, 2, 3, 4, 5, 6, 7, 8, 9, 10, 11, 12, 13, 14, 15, 16, 17, 18, 19, 20, 21, 22, 23, 24, 25, 26, 27, 28, 29, 30], [0, 1, 2, 3, 4, 5, 6, 7, 8, 9, 10, 11, 12, 13, 14, 15, 16, 17, 18, 19, 20, 21, 22, 23, 24, 25, 26, 27, 28, 29, 30], [0, 1, 2, 3, 4, 5, 6, 7, 8, 9, 10, 11, 12, 13, 14, 15, 16, 17, 18, 19, 20, 21, 22, 23, 24, 25, 26, 27, 28, 29, 30, 31, 32], [0, 1, 2, 3, 4, 5, 6, 7, 8, 9, 10, 11, 12, 13, 14, 15, 16, 17, 18, 19, 20, 21, 22, 23, 24, 25, 26, 27, 28, 29, 30, 31, 32, 33], [0, 1, 2, 3, 4, 5, 6, 7, 8, 9, 10, 11, 12, 13, 14, 15, 16, 17, 18, 19, 20, 21, 22, 23, 24, 25, 26, 27, 28, 29, 30], [0, 1, 2, 3, 4, 5, 6, 7, 8, 9, 10, 11, 12, 13, 14, 15, 16, 17, 18, 19, 20, 21, 22, 23, 24, 25, 26, 27, 28, 29, 30], [0, 1, 2, 3, 4, 5, 6, 7, 8, 9, 10, 11, 12, 13, 14, 15, 16, 17, 18, 19, 20, 21, 22, 23, 24, 25, 26, 27, 28, 29, 30, 36], [0, 1, 2, 3, 4, 5, 6, 7, 8, 9, 10, 11, 12, 13, 14, 15, 16, 17, 18, 19, 20, 21, 22, 23, 24, 25, 26, 27, 28, 29, 30, 35, 36, 37], [0, 1, 2, 3, 4, 5, 6, 7, 8, 9, 10, 11, 12, 13, 14, 15, 16, 17, 18, 19, 20, 21, 22, 23, 24, 25, 26, 27, 28, 29, 30, 35, 36, 37, 38], [0, 1, 2, 3, 4, 5, 6, 7, 8, 9, 10, 11, 12, 13, 14, 15, 16, 17, 18, 19, 20, 21, 22, 23, 24, 25, 26, 27, 28, 29, 30, 31, 32, 33, 34, 35, 36, 37, 38, 39], [0, 1, 2, 3, 4, 5, 6, 7, 8, 9, 10, 11, 12, 13, 14, 15, 16, 17, 18, 19, 20, 21, 22, 23, 24, 25, 26, 27, 28, 29, 30, 31, 32, 33, 34, 35, 36, 37, 38, 39, 40], [0, 1, 2, 3, 4, 5, 6, 7, 8, 9, 10, 11, 12, 13, 14, 15, 16, 17, 18, 19, 20, 21, 22, 23, 24, 25, 26, 27, 28, 29, 30, 31, 32, 33, 34, 35, 36, 37, 38, 39, 40, 41]] [[], [], [0, 1], [2], [3], [4], [5], [5], [5, 6, 7], [5, 8], [5], [5, 10], [5, 11], [5, 9, 12], [5, 13], [14], [15], [15, 16], [15], [15], [15, 18, 19], [15, 20], [15, 17, 21], [15, 22], [15, 23], [15, 24], [15, 25], [26], [27], [27, 28], [27, 29], [30], [30], [30, 31, 32], [30, 33], [30], [30], [30, 36], [30, 35, 37], [30, 38], [30, 34, 39], [27, 30, 40], [27, 41]] [[], [], [], [], [], [], [], [], [], [], [], [], [], [], [], [], [], [], [], [], [], [], [], [], [], [], [], [], [], [], [], [], [], [], [], [], [], [], [], [], [], [], []] [[], [], [], [], [], [], [], [], [], [], [], [], [], [], [], [], [], [], [], [], [], [], [], [], [], [], [], [], [], [], [], [], [], [], [], [], [], [], [], [], [], [], []] [] [1, 2, 3, 4, 6, 7, 9, 10, 92, 93, 94, 95, 96, 97, 141, 142, 143, 144, 145, 146, 147, 148, 149, 150, 151, 152, 153, 154, 155, 156, 157, 158, 159, 160, 161, 162, 163, 164, 165, 166, 167, 168, 169, 170] (by kernel_rfl) (by kernel_rfl) (by kernel_rfl) rfl ?_
                refine K.D.DW.det (b := []) (u := []) rfl rfl rfl (fun vs hf => K.e_move rfl) ?_
                refine K.D.DW.det (b := []) (u := []) rfl rfl rfl (fun vs hf => K.e_move rfl) ?_
                first | refine K.D.DW.det (b := [0, 1]) (u := []) rfl rfl rfl (fun vs hf => K.e_ixN sl56 rfl rfl rfl rfl (by omega)) ?_ | refine K.D.DW.det (b := [0, 1]) (u := []) rfl rfl rfl (fun vs hf => K.e_ix sl56 rfl rfl rfl rfl (by omega) (by omega)) ?_ | refine K.D.DW.det (b := [0, 1]) (u := []) rfl rfl rfl (fun vs hf => K.e_indexAddrS sl56 rfl rfl (by assumption) (by omega) (by omega)) ?_ | refine K.D.DW.det (b := [0, 1]) (u := []) rfl rfl rfl (fun vs hf => K.e_indexAddr sl56 rfl rfl (by omega) (by omega)) ?_
                first | refine K.D.DW.det (b := [2]) (u := []) rfl rfl rfl (fun vs hf => K.e_ldE Try.isAgg3 rfl rfl (by assumption) rfl) ?_ | refine K.D.DW.det (b := [2]) (u := []) rfl rfl rfl (fun vs hf => K.e_ldF Try.isAgg3 rfl rfl (by assumption) rfl) ?_ | refine K.D.DW.det (b := [2]) (u := []) rfl rfl rfl (fun vs hf => K.e_load Try.isAgg3 rfl rfl) ?_ | refine K.D.DW.det (b := [2]) (u := []) rfl rfl rfl (fun vs hf => K.e_load0 Try.isAgg3 rfl (by assumption)) ?_
                refine K.D.DW.det (b := [3]) (u := []) rfl rfl rfl (fun vs hf => (K.e_lt rfl rfl).no (by omega)) ?_
                refine K.D.DW.det (b := [4]) (u := []) rfl rfl rfl (fun vs hf => K.e_move rfl) ?_
                first | (refine K.D.DW.want (b := [5]) rfl (fun _ => rfl) ?_; first | refine K.D.DW.det (b := [5]) (u := []) rfl rfl rfl (fun vs hf => K.e_move rfl) ?_) | refine K.D.DW.skip (b := [5]) rfl rfl (fun _ => rfl) ?_
                first | (refine K.D.DW.want (b := [5]) rfl (fun _ => rfl) ?_; first | refine K.D.DW.det (b := [5]) (u := []) rfl rfl rfl (fun vs hf => K.e_move rfl) ?_) | refine K.D.DW.skip (b := [5]) rfl rfl (fun _ => rfl) ?_
                first | (refine K.D.DW.want (b := [5, 6, 7]) rfl (fun _ => rfl) ?_; first | refine K.D.DW.det (b := [5, 6, 7]) (u := []) rfl rfl rfl (fun vs hf => K.e_ixN sl56 rfl rfl rfl rfl (by omega)) ?_ | refine K.D.DW.det (b := [5, 6, 7]) (u := []) rfl rfl rfl (fun vs hf => K.e_ix sl56 rfl rfl rfl rfl (by omega) (by omega)) ?_ | refine K.D.DW.det (b := [5, 6, 7]) (u := []) rfl rfl rfl (fun vs hf => K.e_indexAddrS sl56 rfl rfl (by assumption) (by omega) (by omega)) ?_ | refine K.D.DW.det (b := [5, 6, 7]) (u := []) rfl rfl rfl (fun vs hf => K.e_indexAddr sl56 rfl rfl (by omega) (by omega)) ?_) | refine K.D.DW.skip (b := [5, 6, 7]) rfl rfl (fun _ => rfl) ?_
                first | (refine K.D.DW.want (b := [5, 8]) rfl (fun _ => rfl) ?_; first | refine K.D.DW.det (b := [5, 8]) (u := []) rfl rfl rfl (fun vs hf => K.e_ldE Try.isAgg3 rfl rfl (by assumption) rfl) ?_ | refine K.D.DW.det (b := [5, 8]) (u := []) rfl rfl rfl (fun vs hf => K.e_ldF Try.isAgg3 rfl rfl (by assumption) rfl) ?_ | refine K.D.DW.det (b := [5, 8]) (u := []) rfl rfl rfl (fun vs hf => K.e_load Try.isAgg3 rfl rfl) ?_ | refine K.D.DW.det (b := [5, 8]) (u := []) rfl rfl rfl (fun vs hf => K.e_load0 Try.isAgg3 rfl (by assumption)) ?_) | refine K.D.DW.skip (b := [5, 8]) rfl rfl (fun _ => rfl) ?_
                first | (refine K.D.DW.want (b := [5]) rfl (fun _ => rfl) ?_; first | refine K.D.DW.det (b := [5]) (u := []) rfl rfl rfl (fun vs hf => K.e_fa fo29_2 rfl) ?_ | refine K.D.DW.det (b := [5]) (u := []) rfl rfl rfl (fun vs hf => K.e_fieldAddr fo29_2 rfl) ?_) | refine K.D.DW.skip (b := [5]) rfl rfl (fun _ => rfl) ?_
                first | (refine K.D.DW.want (b := [5, 10]) rfl (fun _ => rfl) ?_; first | refine K.D.DW.det (b := [5, 10]) (u := []) rfl rfl rfl (fun vs hf => K.e_ldE Try.isAgg27 rfl rfl (by assumption) rfl) ?_ | refine K.D.DW.det (b := [5, 10]) (u := []) rfl rfl rfl (fun vs hf => K.e_ldF Try.isAgg27 rfl rfl (by assumption) rfl) ?_ | refine K.D.DW.det (b := [5, 10]) (u := []) rfl rfl rfl (fun vs hf => K.e_load Try.isAgg27 rfl rfl) ?_ | refine K.D.DW.det (b := [5, 10]) (u := []) rfl rfl rfl (fun vs hf => K.e_load0 Try.isAgg27 rfl (by assumption)) ?_) | refine K.D.DW.skip (b := [5, 10]) rfl rfl (fun _ => rfl) ?_
                first | (refine K.D.DW.want (b := [5, 11]) rfl (fun _ => rfl) ?_; first | refine K.D.DW.det (b := [5, 11]) (u := []) rfl rfl rfl (fun vs hf => K.e_len Try.underlying27 rfl) ?_) | refine K.D.DW.skip (b := [5, 11]) rfl rfl (fun _ => rfl) ?_
                first | (refine K.D.DW.want (b := [5, 9, 12]) rfl (fun _ => rfl) ?_; first | refine K.D.DW.det (b := [5, 9, 12]) (u := []) rfl rfl rfl (fun vs hf => (K.e_ge rfl rfl).no (by omega)) ?_) | refine K.D.DW.skip (b := [5, 9, 12]) rfl rfl (fun _ => rfl) ?_
                first | refine K.D.DW.det (b := [5, 13]) (u := []) rfl rfl rfl (fun vs hf => K.e_pick_t rfl rfl) ?_ | refine K.D.DW.det (b := [5, 13]) (u := []) rfl rfl rfl (fun vs hf => K.e_pick_f rfl rfl) ?_
                refine K.D.DW.det (b := [14]) (u := []) rfl rfl rfl (fun vs hf => K.e_move rfl) ?_
                first | (refine K.D.DW.want (b := [15]) rfl (fun _ => rfl) ?_; first | refine K.D.DW.det (b := [15]) (u := []) rfl rfl rfl (fun vs hf => K.e_fa fo29_2 rfl) ?_ | refine K.D.DW.det (b := [15]) (u := []) rfl rfl rfl (fun vs hf => K.e_fieldAddr fo29_2 rfl) ?_) | refine K.D.DW.skip (b := [15]) rfl rfl (fun _ => rfl) ?_
                first | (refine K.D.DW.want (b := [15, 16]) rfl (fun _ => rfl) ?_; first | refine K.D.DW.det (b := [15, 16]) (u := []) rfl rfl rfl (fun vs hf => K.e_ldE Try.isAgg27 rfl rfl (by assumption) rfl) ?_ | refine K.D.DW.det (b := [15, 16]) (u := []) rfl rfl rfl (fun vs hf => K.e_ldF Try.isAgg27 rfl rfl (by assumption) rfl) ?_ | refine K.D.DW.det (b := [15, 16]) (u := []) rfl rfl rfl (fun vs hf => K.e_load Try.isAgg27 rfl rfl) ?_ | refine K.D.DW.det (b := [15, 16]) (u := []) rfl rfl rfl (fun vs hf => K.e_load0 Try.isAgg27 rfl (by assumption)) ?_) | refine K.D.DW.skip (b := [15, 16]) rfl rfl (fun _ => rfl) ?_
                first | (refine K.D.DW.want (b := [15]) rfl (fun _ => rfl) ?_; first | refine K.D.DW.det (b := [15]) (u := []) rfl rfl rfl (fun vs hf => K.e_move rfl) ?_) | refine K.D.DW.skip (b := [15]) rfl rfl (fun _ => rfl) ?_
                first | (refine K.D.DW.want (b := [15]) rfl (fun _ => rfl) ?_; first | refine K.D.DW.det (b := [15]) (u := []) rfl rfl rfl (fun vs hf => K.e_move rfl) ?_) | refine K.D.DW.skip (b := [15]) rfl rfl (fun _ => rfl) ?_
                first | (refine K.D.DW.want (b := [15, 18, 19]) rfl (fun _ => rfl) ?_; first | refine K.D.DW.det (b := [15, 18, 19]) (u := []) rfl rfl rfl (fun vs hf => K.e_ixN sl56 rfl rfl rfl rfl (by omega)) ?_ | refine K.D.DW.det (b := [15, 18, 19]) (u := []) rfl rfl rfl (fun vs hf => K.e_ix sl56 rfl rfl rfl rfl (by omega) (by omega)) ?_ | refine K.D.DW.det (b := [15, 18, 19]) (u := []) rfl rfl rfl (fun vs hf => K.e_indexAddrS sl56 rfl rfl (by assumption) (by omega) (by omega)) ?_ | refine K.D.DW.det (b := [15, 18, 19]) (u := []) rfl rfl rfl (fun vs hf => K.e_indexAddr sl56 rfl rfl (by omega) (by omega)) ?_) | refine K.D.DW.skip (b := [15, 18, 19]) rfl rfl (fun _ => rfl) ?_
                first | (refine K.D.DW.want (b := [15, 20]) rfl (fun _ => rfl) ?_; first | refine K.D.DW.det (b := [15, 20]) (u := []) rfl rfl rfl (fun vs hf => K.e_ldE Try.isAgg3 rfl rfl (by assumption) rfl) ?_ | refine K.D.DW.det (b := [15, 20]) (u := []) rfl rfl rfl (fun vs hf => K.e_ldF Try.isAgg3 rfl rfl (by assumption) rfl) ?_ | refine K.D.DW.det (b := [15, 20]) (u := []) rfl rfl rfl (fun vs hf => K.e_load Try.isAgg3 rfl rfl) ?_ | refine K.D.DW.det (b := [15, 20]) (u := []) rfl rfl rfl (fun vs hf => K.e_load0 Try.isAgg3 rfl (by assumption)) ?_) | refine K.D.DW.skip (b := [15, 20]) rfl rfl (fun _ => rfl) ?_
                first | (refine K.D.DW.want (b := [15, 17, 21]) rfl (fun _ => rfl) ?_; first | refine K.D.DW.det (b := [15, 17, 21]) (u := []) rfl rfl rfl (fun vs hf => K.e_ixN sl27 rfl rfl rfl rfl (by omega)) ?_ | refine K.D.DW.det (b := [15, 17, 21]) (u := []) rfl rfl rfl (fun vs hf => K.e_ix sl27 rfl rfl rfl rfl (by omega) (by omega)) ?_ | refine K.D.DW.det (b := [15, 17, 21]) (u := []) rfl rfl rfl (fun vs hf => K.e_indexAddrS sl27 rfl rfl (by assumption) (by omega) (by omega)) ?_ | refine K.D.DW.det (b := [15, 17, 21]) (u := []) rfl rfl rfl (fun vs hf => K.e_indexAddr sl27 rfl rfl (by omega) (by omega)) ?_) | refine K.D.DW.skip (b := [15, 17, 21]) rfl rfl (fun _ => rfl) ?_
                first | (refine K.D.DW.want (b := [15, 22]) rfl (fun _ => rfl) ?_; first | refine K.D.DW.det (b := [15, 22]) (u := []) rfl rfl rfl (fun vs hf => K.e_fa fo62_0 rfl) ?_ | refine K.D.DW.det (b := [15, 22]) (u := []) rfl rfl rfl (fun vs hf => K.e_fieldAddr fo62_0 rfl) ?_) | refine K.D.DW.skip (b := [15, 22]) rfl rfl (fun _ => rfl) ?_
                first | (refine K.D.DW.want (b := [15, 23]) rfl (fun _ => rfl) ?_; first | refine K.D.DW.det (b := [15, 23]) (u := []) rfl rfl rfl (fun vs hf => K.e_ldE Try.isAgg2 rfl rfl (by assumption) rfl) ?_ | refine K.D.DW.det (b := [15, 23]) (u := []) rfl rfl rfl (fun vs hf => K.e_ldF Try.isAgg2 rfl rfl (by assumption) rfl) ?_ | refine K.D.DW.det (b := [15, 23]) (u := []) rfl rfl rfl (fun vs hf => K.e_load Try.isAgg2 rfl rfl) ?_ | refine K.D.DW.det (b := [15, 23]) (u := []) rfl rfl rfl (fun vs hf => K.e_load0 Try.isAgg2 rfl (by assumption)) ?_) | refine K.D.DW.skip (b := [15, 23]) rfl rfl (fun _ => rfl) ?_
                first | (refine K.D.DW.want (b := [15, 24]) rfl (fun _ => rfl) ?_; first | refine K.D.DW.det (b := [15, 24]) (u := []) rfl rfl rfl (fun vs hf => (K.e_ne rfl rfl).no (by omega)) ?_) | refine K.D.DW.skip (b := [15, 24]) rfl rfl (fun _ => rfl) ?_
                first | refine K.D.DW.det (b := [15, 25]) (u := []) rfl rfl rfl (fun vs hf => K.e_pick_t rfl rfl) ?_ | refine K.D.DW.det (b := [15, 25]) (u := []) rfl rfl rfl (fun vs hf => K.e_pick_f rfl rfl) ?_
                refine K.D.DW.det (b := [26]) (u := []) rfl rfl rfl (fun vs hf => K.e_move rfl) ?_
                first | (refine K.D.DW.want (b := [27]) rfl (fun _ => rfl) ?_; first | refine K.D.DW.det (b := [27]) (u := []) rfl rfl rfl (fun vs hf => K.e_move rfl) ?_) | refine K.D.DW.skip (b := [27]) rfl rfl (fun _ => rfl) ?_
                first | (refine K.D.DW.want (b := [27, 28]) rfl (fun _ => rfl) ?_; first | refine K.D.DW.det (b := [27, 28]) (u := []) rfl rfl rfl (fun vs hf => (K.e_gt rfl rfl).yes (by omega)) ?_ | refine K.D.DW.det (b := [27, 28]) (u := []) rfl rfl rfl (fun vs hf => (K.e_gt rfl rfl).no (by omega)) ?_) | refine K.D.DW.skip (b := [27, 28]) rfl rfl (fun _ => rfl) ?_
                first | (refine K.D.DW.want (b := [27, 29]) rfl (fun _ => rfl) ?_; first | refine K.D.DW.det (b := [27, 29]) (u := []) rfl rfl rfl (fun vs hf => K.e_move rfl) ?_) | refine K.D.DW.skip (b := [27, 29]) rfl rfl (fun _ => rfl) ?_
                first | (refine K.D.DW.want (b := [30]) rfl (fun _ => rfl) ?_; first | refine K.D.DW.det (b := [30]) (u := []) rfl rfl rfl (fun vs hf => K.e_move rfl) ?_) | refine K.D.DW.skip (b := [30]) rfl rfl (fun _ => rfl) ?_
                first | (refine K.D.DW.want (b := [30]) rfl (fun _ => rfl) ?_; first | refine K.D.DW.det (b := [30]) (u := []) rfl rfl rfl (fun vs hf => K.e_move rfl) ?_) | refine K.D.DW.skip (b := [30]) rfl rfl (fun _ => rfl) ?_
                first | (refine K.D.DW.want (b := [30, 31, 32]) rfl (fun _ => rfl) ?_; first | refine K.D.DW.det (b := [30, 31, 32]) (u := []) rfl rfl rfl (fun vs hf => K.e_ixN sl56 rfl rfl rfl rfl (by omega)) ?_ | refine K.D.DW.det (b := [30, 31, 32]) (u := []) rfl rfl rfl (fun vs hf => K.e_ix sl56 rfl rfl rfl rfl (by omega) (by omega)) ?_ | refine K.D.DW.det (b := [30, 31, 32]) (u := []) rfl rfl rfl (fun vs hf => K.e_indexAddrS sl56 rfl rfl (by assumption) (by omega) (by omega)) ?_ | refine K.D.DW.det (b := [30, 31, 32]) (u := []) rfl rfl rfl (fun vs hf => K.e_indexAddr sl56 rfl rfl (by omega) (by omega)) ?_) | refine K.D.DW.skip (b := [30, 31, 32]) rfl rfl (fun _ => rfl) ?_
                first | (refine K.D.DW.want (b := [30, 33]) rfl (fun _ => rfl) ?_; first | refine K.D.DW.det (b := [30, 33]) (u := []) rfl rfl rfl (fun vs hf => K.e_ldE Try.isAgg3 rfl rfl (by assumption) rfl) ?_ | refine K.D.DW.det (b := [30, 33]) (u := []) rfl rfl rfl (fun vs hf => K.e_ldF Try.isAgg3 rfl rfl (by assumption) rfl) ?_ | refine K.D.DW.det (b := [30, 33]) (u := []) rfl rfl rfl (fun vs hf => K.e_load Try.isAgg3 rfl rfl) ?_ | refine K.D.DW.det (b := [30, 33]) (u := []) rfl rfl rfl (fun vs hf => K.e_load0 Try.isAgg3 rfl (by assumption)) ?_) | refine K.D.DW.skip (b := [30, 33]) rfl rfl (fun _ => rfl) ?_
                first | (refine K.D.DW.want (b := [30]) rfl (fun _ => rfl) ?_; first | refine K.D.DW.det (b := [30]) (u := []) rfl rfl rfl (fun vs hf => K.e_move rfl) ?_) | refine K.D.DW.skip (b := [30]) rfl rfl (fun _ => rfl) ?_
                first | (refine K.D.DW.want (b := [30]) rfl (fun _ => rfl) ?_; first | refine K.D.DW.det (b := [30]) (u := []) rfl rfl rfl (fun vs hf => K.e_move rfl) ?_) | refine K.D.DW.skip (b := [30]) rfl rfl (fun _ => rfl) ?_
                first | (refine K.D.DW.want (b := [30, 36]) rfl (fun _ => rfl) ?_; first | refine K.D.DW.det (b := [30, 36]) (u := []) rfl rfl rfl (fun vs hf => (K.e_sub rfl rfl ⟨by omega, by omega⟩).cast_int (b := (y' : Int)) (by omega)) ?_) | refine K.D.DW.skip (b := [30, 36]) rfl rfl (fun _ => rfl) ?_
                first | (refine K.D.DW.want (b := [30, 35, 37]) rfl (fun _ => rfl) ?_; first | refine K.D.DW.det (b := [30, 35, 37]) (u := []) rfl rfl rfl (fun vs hf => K.e_ixN sl56 rfl rfl rfl rfl (by omega)) ?_ | refine K.D.DW.det (b := [30, 35, 37]) (u := []) rfl rfl rfl (fun vs hf => K.e_ix sl56 rfl rfl rfl rfl (by omega) (by omega)) ?_ | refine K.D.DW.det (b := [30, 35, 37]) (u := []) rfl rfl rfl (fun vs hf => K.e_indexAddrS sl56 rfl rfl (by assumption) (by omega) (by omega)) ?_ | refine K.D.DW.det (b := [30, 35, 37]) (u := []) rfl rfl rfl (fun vs hf => K.e_indexAddr sl56 rfl rfl (by omega) (by omega)) ?_) | refine K.D.DW.skip (b := [30, 35, 37]) rfl rfl (fun _ => rfl) ?_
                first | (refine K.D.DW.want (b := [30, 38]) rfl (fun _ => rfl) ?_; first | refine K.D.DW.det (b := [30, 38]) (u := []) rfl rfl rfl (fun vs hf => K.e_ldE Try.isAgg3 rfl rfl (by assumption) rfl) ?_ | refine K.D.DW.det (b := [30, 38]) (u := []) rfl rfl rfl (fun vs hf => K.e_ldF Try.isAgg3 rfl rfl (by assumption) rfl) ?_ | refine K.D.DW.det (b := [30, 38]) (u := []) rfl rfl rfl (fun vs hf => K.e_load Try.isAgg3 rfl rfl) ?_ | refine K.D.DW.det (b := [30, 38]) (u := []) rfl rfl rfl (fun vs hf => K.e_load0 Try.isAgg3 rfl (by assumption)) ?_) | refine K.D.DW.skip (b := [30, 38]) rfl rfl (fun _ => rfl) ?_
                first | (refine K.D.DW.want (b := [30, 34, 39]) rfl (fun _ => rfl) ?_; first | refine K.D.DW.det (b := [30, 34, 39]) (u := []) rfl rfl rfl (fun vs hf => (K.e_le rfl rfl).no (by omega)) ?_) | refine K.D.DW.skip (b := [30, 34, 39]) rfl rfl (fun _ => rfl) ?_
                first | (refine K.D.DW.want (b := [27, 30, 40]) rfl (fun _ => rfl) ?_; first | refine K.D.DW.det (b := [27, 30, 40]) (u := []) rfl rfl rfl (fun vs hf => K.e_pick_t rfl rfl) ?_ | refine K.D.DW.det (b := [27, 30, 40]) (u := []) rfl rfl rfl (fun vs hf => K.e_pick_f rfl rfl) ?_) | refine K.D.DW.skip (b := [27, 30, 40]) rfl rfl (fun _ => rfl) ?_
                first | refine K.D.DW.det (b := [27, 41]) (u := []) rfl rfl rfl (fun vs hf => K.e_pick_t rfl rfl) ?_ | refine K.D.DW.det (b := [27, 41]) (u := []) rfl rfl rfl (fun vs hf => K.e_pick_f rfl rfl) ?_
                refine K.D.DW.fin (fun vs hf => ?_)
                refine K.GL.keep [1, 2, 3, 4, 6, 7, 9, 10, 92, 93, 94, 95, 96, 97, 98, 99, 100, 101, 102, 103, 104, 105, 106, 107, 108, 109, 110, 111, 112, 113, 114, 115, 116, 117, 118, 119, 120, 121, 122, 123, 124, 125, 126, 127, 128, 129, 130, 131, 132, 133, 134, 135, 136, 137, 138, 139, 140, 141, 142, 143, 144, 145, 146, 147, 148, 149, 150, 151, 152, 153, 154, 155, 156, 157, 158, 159, 160, 161, 162, 163, 164, 165, 166, 167, 168, 169, 170] rfl ?_
                refine K.D.GL.res0 rfl ?_
                clear hf
                try clear vs
                refine K.GL.nil ?_
                refine K.GQ.go ?_
                refine K.GC.condB rfl (fun h8 => ?_) (fun h8 => ?_)
                · first
                  | exact absurd h8 (by decide)
                  | try replace h8 := of_decide_eq_true h8
                    refine K.GC.seq ?_
                    refine K.GC.region ?_
                    refine K.GL.det (K.e_assign rfl) rfl ?_
                    refine K.GL.nil ?_
                    refine K.GQ.go ?_
                    refine K.GC.ret ?_
                    refine K.GQ.then_ret ?_
                    refine K.GQ.block_ret ?_
                    refine K.GQ.then_ret ?_
                    refine K.GQ.then_ret ?_
                    refine K.GQ.block_ret ?_
                    refine K.GQ.then_ret ?_
                    refine K.GQ.ret1 Try.results9 rfl (fun w hT => ?_)
                    exact ⟨rfl, hT.nil⟩
                · first
                  | exact absurd h8 (by decide)
                  | try replace h8 := of_decide_eq_false h8
                    refine K.GC.skip ?_
                    refine K.GQ.go ?_
                    refine K.D.GC.drawn0 12 [[], [], [0, 1], [0, 1, 2], [], [], [4, 5], [4, 5, 6], [4, 5, 6, 7], [4, 5, 6, 7, 8], [4, 5, 6, 7, 8, 9], [0, 1, 2, 3, 4, 5, 6, 7, 8, 9, 10], [0, 1, 2, 3, 4, 5, 6, 7, 8, 9, 10, 11]] [[], [], [0, 1], [2], [], [], [4, 5], [6], [7], [8], [9], [3]] [[], [], [], [], [], [], [], [], [], [], [], []] [[], [], [], [], [], [], [], [], [], [], [], []] [] [1, 2, 3, 4, 6, 7, 9, 10, 92, 93, 94, 95, 96, 97, 98, 99, 100, 101, 102, 103, 104, 105, 106, 107, 108, 109, 110, 111, 112, 113, 114, 115, 116, 117, 118, 119, 120, 121, 122, 123, 124, 125, 126, 127, 128, 129, 130, 131, 132, 133, 134, 135, 136, 137, 138, 139, 140, 153, 154, 155, 156, 157, 158, 159, 160, 161, 162, 163, 164, 165, 166, 167, 168, 169, 170] (by kernel_rfl) (by kernel_rfl) (by kernel_rfl) rfl ?_
                    refine K.D.DW.det (b := []) (u := []) rfl rfl rfl (fun vs hf => K.e_move rfl) ?_
                    refine K.D.DW.det (b := []) (u := []) rfl rfl rfl (fun vs hf => K.e_move rfl) ?_
                    first | refine K.D.DW.det (b := [0, 1]) (u := []) rfl rfl rfl (fun vs hf => K.e_ixN sl56 rfl rfl rfl rfl (by omega)) ?_ | refine K.D.DW.det (b := [0, 1]) (u := []) rfl rfl rfl (fun vs hf => K.e_ix sl56 rfl rfl rfl rfl (by omega) (by omega)) ?_ | refine K.D.DW.det (b := [0, 1]) (u := []) rfl rfl rfl (fun vs hf => K.e_indexAddrS sl56 rfl rfl (by assumption) (by omega) (by omega)) ?_ | refine K.D.DW.det (b := [0, 1]) (u := []) rfl rfl rfl (fun vs hf => K.e_indexAddr sl56 rfl rfl (by omega) (by omega)) ?_
                    first | refine K.D.DW.det (b := [2]) (u := []) rfl rfl rfl (fun vs hf => K.e_ldE Try.isAgg3 rfl rfl (by assumption) rfl) ?_ | refine K.D.DW.det (b := [2]) (u := []) rfl rfl rfl (fun vs hf => K.e_ldF Try.isAgg3 rfl rfl (by assumption) rfl) ?_ | refine K.D.DW.det (b := [2]) (u := []) rfl rfl rfl (fun vs hf => K.e_load Try.isAgg3 rfl rfl) ?_ | refine K.D.DW.det (b := [2]) (u := []) rfl rfl rfl (fun vs hf => K.e_load0 Try.isAgg3 rfl (by assumption)) ?_
                    refine K.D.DW.det (b := []) (u := []) rfl rfl rfl (fun vs hf => K.e_move rfl) ?_
                    refine K.D.DW.det (b := []) (u := []) rfl rfl rfl (fun vs hf => K.e_move rfl) ?_
                    first | refine K.D.DW.det (b := [4, 5]) (u := []) rfl rfl rfl (fun vs hf => K.e_ixN sl56 rfl rfl rfl rfl (by omega)) ?_ | refine K.D.DW.det (b := [4, 5]) (u := []) rfl rfl rfl (fun vs hf => K.e_ix sl56 rfl rfl rfl rfl (by omega) (by omega)) ?_ | refine K.D.DW.det (b := [4, 5]) (u := []) rfl rfl rfl (fun vs hf => K.e_indexAddrS sl56 rfl rfl (by assumption) (by omega) (by omega)) ?_ | refine K.D.DW.det (b := [4, 5]) (u := []) rfl rfl rfl (fun vs hf => K.e_indexAddr sl56 rfl rfl (by omega) (by omega)) ?_
                    first | refine K.D.DW.det (b := [6]) (u := []) rfl rfl rfl (fun vs hf => K.e_ldE Try.isAgg3 rfl rfl (by assumption) rfl) ?_ | refine K.D.DW.det (b := [6]) (u := []) rfl rfl rfl (fun vs hf => K.e_ldF Try.isAgg3 rfl rfl (by assumption) rfl) ?_ | refine K.D.DW.det (b := [6]) (u := []) rfl rfl rfl (fun vs hf => K.e_load Try.isAgg3 rfl rfl) ?_ | refine K.D.DW.det (b := [6]) (u := []) rfl rfl rfl (fun vs hf => K.e_load0 Try.isAgg3 rfl (by assumption)) ?_
                    refine K.D.DW.det (b := [7]) (u := []) rfl rfl rfl (fun vs hf => K.e_indexAddrA arr60 rfl rfl (by omega) (by omega)) ?_
                    refine K.D.DW.det (b := [8]) (u := []) rfl rfl rfl (fun vs hf => K.e_load Try.isAgg3 rfl (cn_load (by omega))) ?_
                    first | refine K.D.DW.det (b := [9]) (u := []) rfl rfl rfl (fun vs hf => K.e_add rfl rfl ⟨by omega, by omega⟩) ?_ | refine K.D.DW.det (b := [9]) (u := []) rfl rfl rfl (fun vs hf => K.e_addw rfl rfl) ?_
                    refine K.D.DW.det (b := [3]) (u := []) rfl rfl rfl (fun vs hf => K.e_indexAddrA arr60 rfl rfl (by omega) (by omega)) ?_
                    refine K.D.DW.fin (fun vs hf => ?_)
                    refine K.GL.keep [1, 2, 3, 4, 6, 7, 9, 10, 92, 93, 94, 95, 96, 97, 98, 99, 100, 101, 102, 103, 104, 105, 106, 107, 108, 109, 110, 111, 112, 113, 114, 115, 116, 117, 118, 119, 120, 121, 122, 123, 124, 125, 126, 127, 128, 129, 130, 131, 132, 133, 134, 135, 136, 137, 138, 139, 140, 141, 142, 143, 144, 145, 146, 147, 148, 149, 150, 151, 152, 153, 154, 155, 156, 157, 158, 159, 160, 161, 162, 163, 164, 165, 166, 167, 168, 169, 170] rfl ?_
                    refine K.D.GL.res0 rfl ?_
                    clear hf
                    try clear vs
                    refine K.GL.storeP rfl rfl rfl Try.sizeOf3 rfl rfl (cn_store (by omega)) ?_
                    refine K.GL.nil ?_
                    refine K.GQ.block_normal ?_
                    refine K.GQ.go ?_
                    refine K.GC.region ?_
                    refine K.GL.det (K.e_move rfl) rfl ?_
                    first | refine K.GL.det (K.e_add rfl rfl ⟨by omega, by omega⟩) rfl ?_ | refine K.GL.det (K.e_addw rfl rfl) rfl ?_
                    refine K.GL.det (K.e_assign rfl) rfl ?_
                    refine K.GL.nil ?_
                    exact K.GQ.round (y + 1) (by omega) (by omega) (by (repeat refine ⟨rfl, ?_⟩); exact trivial) (by rw [take_one hqj, ← List.append_assoc]; exact K.sb)
          · first
            | exact absurd h7 (by decide)
            | try replace h7 := of_decide_eq_false h7
              refine K.GC.exit ?_
              refine K.GQ.then_exit ?_
              refine K.GQ.then_exit ?_
              refine K.GQ.block_hit ?_
              refine K.GQ.go ?_
              refine K.GC.seq ?_
              refine K.GC.seq ?_
              obtain rfl : y = (freeT t).length := by omega
              rw [List.take_length]
              refine K.GC.region ?_
              refine K.GL.det (K.e_assign rfl) rfl ?_
              refine K.GL.nil ?_
              refine K.GQ.go ?_
              refine K.GC.block ?_
              refine K.GC.loopk (α := Nat) [1, 3, 4, 7, 164, 165, 166, 167, 168, 169, 170] rfl (fun z => [(10, .int .i64 (z : Int))]) (fun z => [trow a36 c36 3 I6 (freeT t), trow a34 c34 3 I6 (ordT t), cl b4 60 (I6.fl (cn (ordT t ++ freeT t))), cl b1 29 (tabC t a c)]) (fun z => z ≤ t.exts.length) (fun z => (t.exts.length - z)) 0 (Nat.zero_le _) (by first | ((repeat refine ⟨rfl, ?_⟩); exact trivial) | (simp only [List.take_zero, List.map_nil, List.flatMap_nil, List.append_nil]; (repeat refine ⟨rfl, ?_⟩); exact trivial)) (K.Sub.refl _) (fun z hI => ?_)
              refine K.GC.seq ?_
              refine K.GC.seq ?_
              refine K.GC.region ?_
              refine K.GL.det (K.e_move rfl) rfl ?_
              first | refine K.GL.det (K.e_fa fo29_2 rfl) rfl ?_ | refine K.GL.det (K.e_fieldAddr fo29_2 rfl) rfl ?_
              first | refine K.GL.det (K.e_ldE Try.isAgg27 rfl rfl (by assumption) rfl) rfl ?_ | refine K.GL.det (K.e_ldF Try.isAgg27 rfl rfl (by assumption) rfl) rfl ?_ | refine K.GL.det (K.e_load Try.isAgg27 rfl rfl) rfl ?_ | refine K.GL.det (K.e_load0 Try.isAgg27 rfl (by assumption)) rfl ?_
              refine K.GL.det (K.e_len Try.underlying27 rfl) rfl ?_
              first | refine K.GL.det ((K.e_lt rfl rfl).yes (by first | omega | assumption | decide +kernel)) rfl ?_ | refine K.GL.det ((K.e_lt rfl rfl).no (by first | omega | assumption | decide +kernel)) rfl ?_ | refine K.GL.det (K.e_lt rfl rfl) rfl ?_
              refine K.GL.nil ?_
              refine K.GQ.go ?_
              refine K.GC.condB rfl (fun h9 => ?_) (fun h9 => ?_)
              · first
                | exact absurd h9 (by decide)
                | try replace h9 := of_decide_eq_true h9
                  refine K.GC.skip ?_
                  refine K.GQ.go ?_
                  refine K.GC.seq ?_
                  refine K.GC.block ?_
                  refine K.GC.seq ?_
                  have hone := all_one hP (k := z) (by omega)
                  refine K.GC.region ?_
                  refine K.GL.det (K.e_move rfl) rfl ?_
                  refine K.GL.det (K.e_indexAddrA arr60 rfl rfl (by omega) (by omega)) rfl ?_
                  refine K.GL.det (K.e_load Try.isAgg3 rfl (cn_load (by omega))) rfl ?_
                  refine K.GL.det ((K.e_ne rfl rfl).no (by omega)) rfl ?_
                  refine K.GL.nil ?_
                  refine K.GQ.go ?_
                  refine K.GC.condB rfl (fun h10 => ?_) (fun h10 => ?_)
                  · first
                    | exact absurd h10 (by decide)
                    | try replace h10 := of_decide_eq_true h10
                      refine K.GC.seq ?_
                      refine K.GC.region ?_
                      refine K.GL.det (K.e_assign rfl) rfl ?_
                      refine K.GL.nil ?_
                      refine K.GQ.go ?_
                      refine K.GC.ret ?_
                      refine K.GQ.block_ret ?_
                      refine K.GQ.then_ret ?_
                      refine K.GQ.then_ret ?_
                      refine K.GQ.block_ret ?_
                      refine K.GQ.then_ret ?_
                      refine K.GQ.ret1 Try.results9 rfl (fun w hT => ?_)
                      exact ⟨rfl, hT.nil⟩
                  · first
                    | exact absurd h10 (by decide)
                    | try replace h10 := of_decide_eq_false h10
                      refine K.GC.skip ?_
                      refine K.GQ.block_normal ?_
                      refine K.GQ.go ?_
                      refine K.GC.region ?_
                      refine K.GL.det (K.e_move rfl) rfl ?_
                      first | refine K.GL.det (K.e_add rfl rfl ⟨by omega, by omega⟩) rfl ?_ | refine K.GL.det (K.e_addw rfl rfl) rfl ?_
                      refine K.GL.det (K.e_assign rfl) rfl ?_
                      refine K.GL.nil ?_
                      exact K.GQ.round (z + 1) (by omega) (by omega) (by (repeat refine ⟨rfl, ?_⟩); exact trivial) (by first | exact K.sb | (dsimp only; exact K.sb))
              · first
                | exact absurd h9 (by decide)
                | try replace h9 := of_decide_eq_false h9
                  refine K.GC.exit ?_
                  refine K.GQ.then_exit ?_
                  refine K.GQ.then_exit ?_
                  refine K.GQ.block_hit ?_
                  refine K.GQ.go ?_
                  refine K.GC.seq ?_
                  refine K.GC.region ?_
                  refine K.GL.det (K.e_move rfl) rfl ?_
                  refine K.GL.det (K.e_move rfl) rfl ?_
                  first | refine K.GL.splitB 165 rfl (fun h11 => ?_) (fun h11 => ?_) | skip
                  all_goals first | exact absurd h11 (by decide) | replace h11 := of_decide_eq_true h11 | replace h11 := of_decide_eq_false h11 | skip
                  all_goals
                    first | (refine K.GL.want 165 rfl rfl rfl ?_; first | refine K.GL.det (K.e_ldA Try.isAgg29 Try.sizeOf29 rfl rfl (by assumption)) rfl ?_ | refine K.GL.det (K.e_ldAF Try.isAgg29 Try.sizeOf29 rfl rfl (by assumption) rfl) rfl ?_ | refine K.GL.det (K.e_loads Try.isAgg29 Try.sizeOf29 rfl rfl) rfl ?_) | refine K.GL.skip 165 rfl rfl rfl rfl ?_ | refine K.GL.skipU 165 rfl rfl rfl rfl ?_
                    first | (refine K.GL.want 165 rfl rfl rfl ?_; first | refine K.GL.det (ev_tlast_con Try.call37 rfl (by first | assumption | omega | rfl | decide)) rfl ?_) | refine K.GL.skip 165 rfl rfl rfl rfl ?_ | refine K.GL.skipU 165 rfl rfl rfl rfl ?_
                    first | (refine K.GL.want 165 rfl rfl rfl ?_; first | refine K.GL.det (K.e_move rfl) rfl ?_) | refine K.GL.skip 165 rfl rfl rfl rfl ?_ | refine K.GL.skipU 165 rfl rfl rfl rfl ?_
                    first | (refine K.GL.want 165 rfl rfl rfl ?_; first | refine K.GL.det ((K.e_eq rfl rfl).yes rfl) rfl ?_) | refine K.GL.skip 165 rfl rfl rfl rfl ?_ | refine K.GL.skipU 165 rfl rfl rfl rfl ?_
                    first | refine K.GL.det (K.e_pick_t rfl rfl) rfl ?_ | refine K.GL.det (K.e_pick_f rfl rfl) rfl ?_
                    refine K.GL.det (K.e_assign rfl) rfl ?_
                    refine K.GL.nil ?_
                    refine K.GQ.go ?_
                    refine K.GC.ret ?_
                    refine K.GQ.ret1 Try.results9 rfl (fun w hT => ?_)
                    exact ⟨rfl, hT.nil⟩
section
variable {ops : Array Oper} {Q : Exit → Act → World → Prop} {N : Nat} {U : Env} {w0 : World} {L0 L F : List Res} {ty : TypeId} {rest : List Oper} {pos : String} {after : Array Edge} {xs : List Operand} {tys : Array TypeId} {dT : Tmp}
theorem ev_all_con {t : Tab} {a : Option Addr} {c : Nat} (hf : ∀ args w, (callFunc 9 args).run Try.prog w = .ok (.enter 9 args) w) (hx : opvs U xs = some [.agg (tabC t a c).toArray]) (hl : t.exts.length ≤ 9223372036854775807) [o0 : RdC w0 L0 [] L a (encX) (t.exts)] : Ev Try.prog U w0 L0 L (.call ⟨.value (.func 9), xs.toArray, tys⟩) ty (Is (.bool true)) No :=
  K.e_call1 hf hx (fun w hT => by have _o0 := o0.out w hT; exact all_con hl)
end

set_option maxHeartbeats 1000000 in
set_option maxRecDepth 100000 in
theorem TableAll_lifted (os : Os) (started : os.Started) (H : Type) (enc : TypeId × Value → H) :
    ReturnsInHanded {} Try.checked os 9 .any (Rows.tableAllSpec.pre6 enc Try.prog Try.f9 Rows.tableAllRow.domain false) (Rows.tableAllSpec.post enc Try.prog Try.f9 false true false false) := by
  refine returnsInHanded_of_change_sized (C := Try.checked) own started (by kernel_rfl) Try.func9
    (ChangeSpec.witness6 (enc := enc) (C := Try.checked) false ⟨#[], #[.agg #[.int .i64 0, .int .i64 0, .slice none 0 0]], []⟩ 8 (by kernel_rfl) (by kernel_rfl) (by kernel_rfl) (by kernel_rfl)) ?_
  intro W base args ds gs before hval0 hW _ hsz0 _
  have hval : ∀ (j : Nat) t v, Try.f9.params[j]? = some t → args[j]? = some v → Value.okWide Try.prog W .any base t v := hval0
  have hsz : (DataW.weightsEach Try.prog (Try.f9.params.toList ++ []) (ds ++ gs)).all (· ≤ reachBytes) = true := hsz0
  have hW' := hW
  obtain ⟨p, q, hA0, hV, hpe, hfz, hnd⟩ := hW
  have hA : DataW.TrodAll enc Try.prog W 0 (fun _ => true) true Try.f9.params.toList args.toList ds p := hA0
  obtain ⟨rfl, rfl⟩ := trodVars_none hV
  rw [Try.params9] at hA hval hsz
  obtain ⟨v0, vs0, d0, ds0, p0, q0, hargs, rfl, rfl, h0, r0⟩ := trodAll_cons hA
  obtain ⟨rfl, rfl, rfl⟩ := trodAll_nil r0
  obtain rfl : args = #[v0] := by cases args; simp_all
  clear hA0 hval0 hsz0 hA hargs
  obtain ⟨csz, rfl, _⟩ := okWide_struct Try.underlying29 (hval 0 29 _ rfl rfl)
  obtain ⟨fuelz, hfz⟩ := h0
  obtain ⟨tz, az, cz, hcsz, hnz, hcz, hoz⟩ := open_tab _ _ _ hfz
  unfold maxLen at hnz
  obtain rfl : csz = (tabC tz az cz).toArray := by
    have : csz.toList = tabC tz az cz := by simpa [Value.cells] using hcsz
    rw [← this]
  have core : Calls Try.prog 9 #[.agg (tabC tz az cz).toArray] W fun e W' => e = .returned (.bool true) ∧ Tr W [] W' [] := all_con hnz
  exact core.mono fun e W' ⟨he, hT⟩ => ⟨_, he, law_post (tb := 4) hW' rfl rfl Try.underlying4 (fun _ => rfl) laidOut (by kernel_rfl) hT.below⟩
theorem TableAll_holds : Rows.TableAllSaid :=
  OpenClaim.holds_of_wide 9 Try.f9 rfl rfl rfl rfl rfl rfl rfl ⟨rfl, rfl, rfl, rfl, rfl⟩ rfl rfl rfl rfl rfl (by kernel_rfl) Try.func9 (by kernel_rfl)
    (of_decide_eq_true (by kernel_rfl)) (by unfold Func.isWrapper; first | (rw [if_pos (by decide +kernel)]; kernel_rfl) | (rw [if_neg (by decide +kernel)]; exact ⟨rfl, rfl⟩))
    (fun os started H enc _ => TableAll_lifted os started H enc)

end Go.Proofs.Ytdbedajaapamhaa
