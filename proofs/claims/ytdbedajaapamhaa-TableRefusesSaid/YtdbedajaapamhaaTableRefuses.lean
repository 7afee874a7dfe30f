/- TableRefuses returns true for all tables and places. -/
import Derived.ProofKit
import Derived.OpenShut
import Derived.SizedLaws
import Derived.Lib.SmallJoins
import Derived.Test.YtdbedajaapamhaaRows
import Derived.Test.YtdbedajaapamhaaTabO
namespace Go.Proofs.Ytdbedajaapamhaa
open Go Go.K Go.ChangeShapes Go.WideShapes Go.ChangeAt Go.RowKit Go.Joins
set_option linter.unusedVariables false
set_option linter.unusedSimpArgs false
attribute [local irreducible] Calls Ev GL GC GQ GR Code.wp
theorem own : ownKnob Try.prog.godebug = none := by kernel_rfl
theorem laidOut : laidOutB Try.prog = true := by kernel_rfl

def rE (t : Tab) (i j : Nat) : List Ext := (t.exts.set i ⟨77, 0⟩).set j ⟨77, 0⟩
def rU (t : Tab) (i j : Nat) : Tab := ⟨t.gen, (i : Int), rE t i j⟩
def rV (t : Tab) (i j : Nat) (q : Ext) : Tab := ⟨t.gen, (i : Int), (rE t i j).set i q⟩
def rX (t : Tab) : Tab := ⟨t.gen, -1, t.exts.take 3⟩
theorem rE_len (t : Tab) (i j : Nat) : (rE t i j).length = t.exts.length := by unfold rE; rw [List.length_set, List.length_set]
theorem rV_len (t : Tab) (i j : Nat) (q : Ext) : ((rE t i j).set i q).length = t.exts.length := by rw [List.length_set, rE_len]
theorem not_right {t : Tab} (h : ¬ RightP t) : rightB t = false := by
  cases h2 : rightB t with
  | false => rfl
  | true => exact absurd ((right_iff t).1 h2) h
theorem rU_bad {t : Tab} {i j : Nat} (hi : i < t.exts.length) (hj : j < t.exts.length) (hij : i ≠ j) : rightB (rU t i j) = false := not_right fun h => by
  have e1 : (rU t i j).exts[i]? = some ⟨77, 0⟩ := by
    show ((t.exts.set i ⟨77, 0⟩).set j ⟨77, 0⟩)[i]? = _
    rw [List.getElem?_set_ne (by omega), List.getElem?_set_self hi]
  have e2 : (rU t i j).exts[j]? = some ⟨77, 0⟩ := by
    show ((t.exts.set i ⟨77, 0⟩).set j ⟨77, 0⟩)[j]? = _
    rw [List.getElem?_set_self (by rw [List.length_set]; exact hj)]
  exact hij (dup_bad h e1 e2 rfl (by decide))
theorem rV_bad {t : Tab} {i j : Nat} {q : Ext} (hi : i < t.exts.length) (hq : (q.used && decide (q.len = 0)) = false) : rightB (rV t i j q) = false := not_right fun h => by
  have h1 := h.op
  rw [opn_at (q := q) (by show ¬ ((i : Int) < 0); omega) (by
    show ((rE t i j).set i q)[((i : Int)).toNat]? = _
    rw [Int.toNat_natCast, List.getElem?_set_self (by rw [rE_len]; exact hi)]), hq] at h1
  cases h1
theorem rX_bad {t : Tab} : rightB (rX t) = false := not_right fun h => by
  have h1 := h.n1
  have h2 : (rX t).exts.length = min 3 t.exts.length := List.length_take
  omega
/- turntable/turntablelaw09.TableRefuses -/
set_option maxHeartbeats 8000000 in
set_option maxRecDepth 100000 in
theorem refuses_con {t : Tab} {x y : Nat} {a : Option Addr} {c : Nat} {w : World} (hl : t.exts.length ≤ 9223372036854775807) (hc : t.exts.length ≤ c) (hx8 : x < 256) (hy8 : y < 256) [Old w [] a (encX) (t.exts)] :
    Calls Try.prog 11 #[.agg (tabC t a c).toArray, .int .u8 (x : Int), .int .u8 (y : Int)] w fun e w' => e = .returned (.bool true) ∧ Tr w [] w' [] := by
  refine K.enter0 (args := [_, _, _]) Try.func11 rfl Try.ntmps11 rfl ?_
  refine K.GC.seq ?_
  refine K.GC.region ?_
  refine K.GL.box rfl rfl rfl (fun b3 => ?_)
  refine K.GL.det (K.e_assign rfl) rfl ?_
  refine K.GL.nil ?_
  refine K.GQ.go ?_
  refine K.GC.seq ?_
  refine K.GC.region ?_
  refine K.GL.det (ev_head_con Try.call26 rfl ) rfl ?_
  refine K.GL.det (K.e_assign rfl) rfl ?_
  refine K.GL.nil ?_
  refine K.GQ.go ?_
  refine K.GC.seq ?_
  refine K.GC.seq ?_
  refine K.GC.region ?_
  first | refine K.GL.det (K.e_ldA Try.isAgg29 Try.sizeOf29 rfl rfl (by assumption)) rfl ?_ | refine K.GL.det (K.e_ldAF Try.isAgg29 Try.sizeOf29 rfl rfl (by assumption) rfl) rfl ?_ | refine K.GL.det (K.e_loads Try.isAgg29 Try.sizeOf29 rfl rfl) rfl ?_
  refine K.GL.det (ev_right_con Try.call29 rfl (by first | assumption | omega | rfl | decide)) rfl ?_
  first | refine K.GL.det (K.e_notp rfl) rfl ?_ | refine K.GL.det (K.e_not rfl) rfl ?_
  refine K.GL.nil ?_
  refine K.GQ.go ?_
  refine K.GC.condB rfl (fun h1 => ?_) (fun h1 => ?_)
  · first
    | exact absurd h1 (by decide)
    | try replace h1 := of_decide_eq_true h1
      refine K.GC.seq ?_
      refine K.GC.region ?_
      refine K.GL.det (K.e_move rfl) rfl ?_
      refine K.GL.det (K.e_assign rfl) rfl ?_
      refine K.GL.nil ?_
      refine K.GQ.go ?_
      refine K.GC.ret ?_
      refine K.GQ.then_ret ?_
      refine K.GQ.ret1 Try.results11 rfl (fun w hT => ?_)
      exact ⟨rfl, hT.nil⟩
  · first
    | exact absurd h1 (by decide)
    | try replace h1 := of_decide_eq_false h1
      refine K.GC.skip ?_
      refine K.GQ.go ?_
      refine K.GC.seq ?_
      have hP := (right_iff t).1 (by simp_all)
      have hn1 := hP.n1
      have hn2 := hP.n2
      refine K.GC.region ?_
      refine K.GL.det (K.e_move rfl) rfl ?_
      refine K.GL.det (K.e_conv Try.underlying5 Try.underlying3 rfl (K.wrap_i64 (by omega) (by omega))) rfl ?_
      first | refine K.GL.det (K.e_fa fo29_2 rfl) rfl ?_ | refine K.GL.det (K.e_fieldAddr fo29_2 rfl) rfl ?_
      first | refine K.GL.det (K.e_ldE Try.isAgg27 rfl rfl (by assumption) rfl) rfl ?_ | refine K.GL.det (K.e_ldF Try.isAgg27 rfl rfl (by assumption) rfl) rfl ?_ | refine K.GL.det (K.e_load Try.isAgg27 rfl rfl) rfl ?_ | refine K.GL.det (K.e_load0 Try.isAgg27 rfl (by assumption)) rfl ?_
      refine K.GL.det (K.e_len Try.underlying27 rfl) rfl ?_
      refine K.GL.det ((K.e_rem rfl rfl (by omega) (by omega) (by omega)).cast_int (b := ((x % t.exts.length : Nat) : Int)) (by omega)) rfl ?_
      refine K.GL.det (K.e_assign rfl) rfl ?_
      refine K.GL.nil ?_
      refine K.GQ.go ?_
      refine K.GC.seq ?_
      refine K.GC.region ?_
      refine K.GL.det (K.e_move rfl) rfl ?_
      refine K.GL.det (K.e_conv Try.underlying5 Try.underlying3 rfl (K.wrap_i64 (by omega) (by omega))) rfl ?_
      first | refine K.GL.det (K.e_fa fo29_2 rfl) rfl ?_ | refine K.GL.det (K.e_fieldAddr fo29_2 rfl) rfl ?_
      first | refine K.GL.det (K.e_ldE Try.isAgg27 rfl rfl (by assumption) rfl) rfl ?_ | refine K.GL.det (K.e_ldF Try.isAgg27 rfl rfl (by assumption) rfl) rfl ?_ | refine K.GL.det (K.e_load Try.isAgg27 rfl rfl) rfl ?_ | refine K.GL.det (K.e_load0 Try.isAgg27 rfl (by assumption)) rfl ?_
      refine K.GL.det (K.e_len Try.underlying27 rfl) rfl ?_
      refine K.GL.det ((K.e_rem rfl rfl (by omega) (by omega) (by omega)).cast_int (b := ((y % t.exts.length : Nat) : Int)) (by omega)) rfl ?_
      refine K.GL.det (K.e_assign rfl) rfl ?_
      refine K.GL.nil ?_
      refine K.GQ.go ?_
      refine K.GC.seq ?_
      have hi : x % t.exts.length < t.exts.length := Nat.mod_lt _ (by omega)
      have hj : y % t.exts.length < t.exts.length := Nat.mod_lt _ (by omega)
      generalize x % t.exts.length = i at hi ⊢
      generalize y % t.exts.length = j at hj ⊢
      refine K.GC.region ?_
      first | refine K.GL.det (K.e_ldA Try.isAgg29 Try.sizeOf29 rfl rfl (by assumption)) rfl ?_ | refine K.GL.det (K.e_ldAF Try.isAgg29 Try.sizeOf29 rfl rfl (by assumption) rfl) rfl ?_ | refine K.GL.det (K.e_loads Try.isAgg29 Try.sizeOf29 rfl rfl) rfl ?_
      refine K.GL.alloc Try.zeroValue29 rfl rfl (fun b10 => ?_)
      refine K.GL.storeP (vs := tabC t a c) (cs' := tabC t a c) rfl rfl rfl Try.sizeOf29 rfl rfl (by exact spliceO_all rfl) ?_
      refine K.GL.nil ?_
      refine K.GQ.go ?_
      refine K.GC.seq ?_
      refine K.GC.region ?_
      refine K.GL.buildT encX [] mk27 rfl rfl rfl rfl rfl (fun b32 => ?_)
      first | refine K.GL.det (K.e_fa fo29_2 rfl) rfl ?_ | refine K.GL.det (K.e_fieldAddr fo29_2 rfl) rfl ?_
      first | refine K.GL.det (K.e_ldE Try.isAgg27 rfl rfl (by assumption) rfl) rfl ?_ | refine K.GL.det (K.e_ldF Try.isAgg27 rfl rfl (by assumption) rfl) rfl ?_ | refine K.GL.det (K.e_load Try.isAgg27 rfl rfl) rfl ?_ | refine K.GL.det (K.e_load0 Try.isAgg27 rfl (by assumption)) rfl ?_
      first | refine K.GL.appendT mk27 rfl rfl rfl rfl rfl (by first | omega | (simp only [List.length_cons, List.length_nil, List.length_append]; omega)) (by first | omega | (simp only [List.length_cons, List.length_nil, List.length_append]; omega)) rfl (fun a35 c35 => ?_) | (refine K.GL.trow0 62 encX ?_; refine K.GL.appendT mk27 rfl rfl rfl rfl rfl (by first | omega | (simp only [List.length_cons, List.length_nil, List.length_append]; omega)) (by first | omega | (simp only [List.length_cons, List.length_nil, List.length_append]; omega)) rfl (fun a35 c35 => ?_))
      rw [List.nil_append]
      first | refine K.GL.det (K.e_fa fo29_2 rfl) rfl ?_ | refine K.GL.det (K.e_fieldAddr fo29_2 rfl) rfl ?_
      refine K.GL.store rfl rfl rfl Try.sizeOf27 rfl rfl ?_
      refine K.GL.nil ?_
      refine K.GQ.go ?_
      refine K.GC.seq ?_
      refine K.GC.region ?_
      first | refine K.GL.det (K.e_fa fo29_2 rfl) rfl ?_ | refine K.GL.det (K.e_fieldAddr fo29_2 rfl) rfl ?_
      first | refine K.GL.det (K.e_ldE Try.isAgg27 rfl rfl (by assumption) rfl) rfl ?_ | refine K.GL.det (K.e_ldF Try.isAgg27 rfl rfl (by assumption) rfl) rfl ?_ | refine K.GL.det (K.e_load Try.isAgg27 rfl rfl) rfl ?_ | refine K.GL.det (K.e_load0 Try.isAgg27 rfl (by assumption)) rfl ?_
      refine K.GL.det (K.e_move rfl) rfl ?_
      refine K.GL.det (K.e_build lay62 rfl) rfl ?_
      first | refine K.GL.ixK sl27 rfl rfl rfl rfl (by assumption) rfl ?_ | refine K.GL.ix sl27 rfl rfl rfl rfl (by omega) rfl (fun q41 hq41 => ?_) | refine K.GL.ixI sl27 rfl rfl rfl rfl (by omega) (by omega) rfl (fun q41 hq41 => ?_) | refine K.GL.det (K.e_indexAddrS sl27 rfl rfl (by assumption) (by omega) (by omega)) rfl ?_ | refine K.GL.det (K.e_indexAddr sl27 rfl rfl (by omega) (by omega)) rfl ?_
      refine K.GL.storeT (⟨77, 0⟩ : Ext) rfl rfl rfl Try.sizeOf62 rfl (by exact hi) ?_
      refine K.GL.nil ?_
      refine K.GQ.go ?_
      refine K.GC.seq ?_
      have hls : (t.exts.set i ⟨77, 0⟩).length = t.exts.length := List.length_set
      have eb10 : [Value.int .i64 t.gen, Value.int .i64 t.opn, Value.slice a35 t.exts.length c35] = tabC (⟨t.gen, t.opn, t.exts.set i ⟨77, 0⟩⟩ : Tab) a35 c35 := by show _ = [_, _, Value.slice a35 (Tab.exts (⟨t.gen, t.opn, t.exts.set i ⟨77, 0⟩⟩ : Tab)).length c35]; rw [show (Tab.exts (⟨t.gen, t.opn, t.exts.set i ⟨77, 0⟩⟩ : Tab)).length = t.exts.length from hls]; try rfl
      refine K.GC.res (L' := [trow a35 c35 62 encX (t.exts.set i ⟨77, 0⟩), cl b10 29 [Value.int .i64 t.gen, Value.int .i64 t.opn, Value.slice a35 t.exts.length c35], cl b3 29 (tabC t a c)]) ?_ (K.Sub.refl _)
      rw [eb10]
      refine K.GC.region ?_
      first | refine K.GL.det (K.e_fa fo29_2 rfl) rfl ?_ | refine K.GL.det (K.e_fieldAddr fo29_2 rfl) rfl ?_
      first | refine K.GL.det (K.e_ldE Try.isAgg27 rfl rfl (by assumption) rfl) rfl ?_ | refine K.GL.det (K.e_ldF Try.isAgg27 rfl rfl (by assumption) rfl) rfl ?_ | refine K.GL.det (K.e_load Try.isAgg27 rfl rfl) rfl ?_ | refine K.GL.det (K.e_load0 Try.isAgg27 rfl (by assumption)) rfl ?_
      refine K.GL.det (K.e_move rfl) rfl ?_
      refine K.GL.det (K.e_build lay62 rfl) rfl ?_
      refine K.GL.ix (j := j) sl27 rfl rfl rfl rfl (by rw [hls]; exact hj) rfl (fun q46 hq46 => ?_)
      refine K.GL.storeT (⟨77, 0⟩ : Ext) rfl rfl rfl Try.sizeOf62 rfl (by rw [List.length_set]; exact hj) ?_
      refine K.GL.nil ?_
      refine K.GQ.go ?_
      refine K.GC.seq ?_
      refine K.GC.region ?_
      refine K.GL.det (K.e_move rfl) rfl ?_
      first | refine K.GL.det (K.e_fa fo29_1 rfl) rfl ?_ | refine K.GL.det (K.e_fieldAddr fo29_1 rfl) rfl ?_
      refine K.GL.store rfl rfl rfl Try.sizeOf3 rfl rfl ?_
      refine K.GL.nil ?_
      refine K.GQ.go ?_
      refine K.GC.seq ?_
      have hls2 := rE_len t i j
      have hru : (rU t i j).exts.length = t.exts.length := hls2
      have eb10 : [Value.int .i64 t.gen, Value.int .i64 (i : Int), Value.slice a35 (t.exts.set i ⟨77, 0⟩).length c35] = tabC (rU t i j) a35 c35 := by show _ = [_, _, Value.slice a35 (Tab.exts (rU t i j)).length c35]; rw [show (Tab.exts (rU t i j)).length = (t.exts.set i ⟨77, 0⟩).length from ((rE_len t i j).trans hls.symm)]; try rfl
      refine K.GC.res (L' := [trow a35 c35 62 encX (rE t i j), cl b10 29 [Value.int .i64 t.gen, Value.int .i64 (i : Int), Value.slice a35 (t.exts.set i ⟨77, 0⟩).length c35], cl b3 29 (tabC t a c)]) ?_ (K.Sub.refl _)
      rw [eb10]
      refine K.GC.region ?_
      first | refine K.GL.det (K.e_ldA Try.isAgg29 Try.sizeOf29 rfl rfl (by assumption)) rfl ?_ | refine K.GL.det (K.e_ldAF Try.isAgg29 Try.sizeOf29 rfl rfl (by assumption) rfl) rfl ?_ | refine K.GL.det (K.e_loads Try.isAgg29 Try.sizeOf29 rfl rfl) rfl ?_
      refine K.GL.alloc Try.zeroValue29 rfl rfl (fun b11 => ?_)
      refine K.GL.storeP (vs := tabC (rU t i j) a35 c35) (cs' := tabC (rU t i j) a35 c35) rfl rfl rfl Try.sizeOf29 rfl rfl (by exact spliceO_all rfl) ?_
      refine K.GL.nil ?_
      refine K.GQ.go ?_
      refine K.GC.seq ?_
      refine K.GC.region ?_
      refine K.GL.buildT encX [] mk27 rfl rfl rfl rfl rfl (fun b50 => ?_)
      first | refine K.GL.det (K.e_fa fo29_2 rfl) rfl ?_ | refine K.GL.det (K.e_fieldAddr fo29_2 rfl) rfl ?_
      first | refine K.GL.det (K.e_ldE Try.isAgg27 rfl rfl (by assumption) rfl) rfl ?_ | refine K.GL.det (K.e_ldF Try.isAgg27 rfl rfl (by assumption) rfl) rfl ?_ | refine K.GL.det (K.e_load Try.isAgg27 rfl rfl) rfl ?_ | refine K.GL.det (K.e_load0 Try.isAgg27 rfl (by assumption)) rfl ?_
      first | refine K.GL.appendT mk27 rfl rfl rfl rfl rfl (by first | omega | (simp only [List.length_cons, List.length_nil, List.length_append]; omega)) (by first | omega | (simp only [List.length_cons, List.length_nil, List.length_append]; omega)) rfl (fun a53 c53 => ?_) | (refine K.GL.trow0 62 encX ?_; refine K.GL.appendT mk27 rfl rfl rfl rfl rfl (by first | omega | (simp only [List.length_cons, List.length_nil, List.length_append]; omega)) (by first | omega | (simp only [List.length_cons, List.length_nil, List.length_append]; omega)) rfl (fun a53 c53 => ?_))
      rw [List.nil_append]
      first | refine K.GL.det (K.e_fa fo29_2 rfl) rfl ?_ | refine K.GL.det (K.e_fieldAddr fo29_2 rfl) rfl ?_
      refine K.GL.store rfl rfl rfl Try.sizeOf27 rfl rfl ?_
      refine K.GL.nil ?_
      refine K.GQ.go ?_
      refine K.GC.seq ?_
      refine K.GC.region ?_
      first | refine K.GL.det (K.e_fa fo29_2 rfl) rfl ?_ | refine K.GL.det (K.e_fieldAddr fo29_2 rfl) rfl ?_
      first | refine K.GL.det (K.e_ldE Try.isAgg27 rfl rfl (by assumption) rfl) rfl ?_ | refine K.GL.det (K.e_ldF Try.isAgg27 rfl rfl (by assumption) rfl) rfl ?_ | refine K.GL.det (K.e_load Try.isAgg27 rfl rfl) rfl ?_ | refine K.GL.det (K.e_load0 Try.isAgg27 rfl (by assumption)) rfl ?_
      refine K.GL.det (K.e_move rfl) rfl ?_
      refine K.GL.det (K.e_build lay62 rfl) rfl ?_
      refine K.GL.ix (j := i) sl27 rfl rfl rfl rfl (by show i < (rE t i j).length; rw [hls2]; exact hi) rfl (fun q59 hq59 => ?_)
      refine K.GL.storeT (⟨0, 0⟩ : Ext) rfl rfl rfl Try.sizeOf62 rfl (by show i < (rE t i j).length; rw [hls2]; exact hi) ?_
      refine K.GL.nil ?_
      refine K.GQ.go ?_
      refine K.GC.seq ?_
      have eb11 : [Value.int .i64 t.gen, Value.int .i64 (i : Int), Value.slice a53 (rE t i j).length c53] = tabC (rV t i j ⟨0, 0⟩) a53 c53 := by show _ = [_, _, Value.slice a53 (Tab.exts (rV t i j ⟨0, 0⟩)).length c53]; rw [show (Tab.exts (rV t i j ⟨0, 0⟩)).length = (rE t i j).length from ((rV_len t i j _).trans (rE_len t i j).symm)]; try rfl
      refine K.GC.res (L' := [trow a53 c53 62 encX ((rE t i j).set i ⟨0, 0⟩), cl b11 29 [Value.int .i64 t.gen, Value.int .i64 (i : Int), Value.slice a53 (rE t i j).length c53], trow a35 c35 62 encX (rE t i j), cl b10 29 (tabC (rU t i j) a35 c35), cl b3 29 (tabC t a c)]) ?_ (K.Sub.refl _)
      rw [eb11]
      refine K.GC.region ?_
      first | refine K.GL.det (K.e_ldA Try.isAgg29 Try.sizeOf29 rfl rfl (by assumption)) rfl ?_ | refine K.GL.det (K.e_ldAF Try.isAgg29 Try.sizeOf29 rfl rfl (by assumption) rfl) rfl ?_ | refine K.GL.det (K.e_loads Try.isAgg29 Try.sizeOf29 rfl rfl) rfl ?_
      refine K.GL.alloc Try.zeroValue29 rfl rfl (fun b12 => ?_)
      refine K.GL.storeP (vs := tabC (rU t i j) a35 c35) (cs' := tabC (rU t i j) a35 c35) rfl rfl rfl Try.sizeOf29 rfl rfl (by exact spliceO_all rfl) ?_
      refine K.GL.nil ?_
      refine K.GQ.go ?_
      refine K.GC.seq ?_
      refine K.GC.region ?_
      refine K.GL.buildT encX [] mk27 rfl rfl rfl rfl rfl (fun b61 => ?_)
      first | refine K.GL.det (K.e_fa fo29_2 rfl) rfl ?_ | refine K.GL.det (K.e_fieldAddr fo29_2 rfl) rfl ?_
      first | refine K.GL.det (K.e_ldE Try.isAgg27 rfl rfl (by assumption) rfl) rfl ?_ | refine K.GL.det (K.e_ldF Try.isAgg27 rfl rfl (by assumption) rfl) rfl ?_ | refine K.GL.det (K.e_load Try.isAgg27 rfl rfl) rfl ?_ | refine K.GL.det (K.e_load0 Try.isAgg27 rfl (by assumption)) rfl ?_
      first | refine K.GL.appendT mk27 rfl rfl rfl rfl rfl (by first | omega | (simp only [List.length_cons, List.length_nil, List.length_append]; omega)) (by first | omega | (simp only [List.length_cons, List.length_nil, List.length_append]; omega)) rfl (fun a64 c64 => ?_) | (refine K.GL.trow0 62 encX ?_; refine K.GL.appendT mk27 rfl rfl rfl rfl rfl (by first | omega | (simp only [List.length_cons, List.length_nil, List.length_append]; omega)) (by first | omega | (simp only [List.length_cons, List.length_nil, List.length_append]; omega)) rfl (fun a64 c64 => ?_))
      rw [List.nil_append]
      first | refine K.GL.det (K.e_fa fo29_2 rfl) rfl ?_ | refine K.GL.det (K.e_fieldAddr fo29_2 rfl) rfl ?_
      refine K.GL.store rfl rfl rfl Try.sizeOf27 rfl rfl ?_
      refine K.GL.nil ?_
      refine K.GQ.go ?_
      refine K.GC.seq ?_
      refine K.GC.region ?_
      first | refine K.GL.det (K.e_fa fo29_2 rfl) rfl ?_ | refine K.GL.det (K.e_fieldAddr fo29_2 rfl) rfl ?_
      first | refine K.GL.det (K.e_ldE Try.isAgg27 rfl rfl (by assumption) rfl) rfl ?_ | refine K.GL.det (K.e_ldF Try.isAgg27 rfl rfl (by assumption) rfl) rfl ?_ | refine K.GL.det (K.e_load Try.isAgg27 rfl rfl) rfl ?_ | refine K.GL.det (K.e_load0 Try.isAgg27 rfl (by assumption)) rfl ?_
      refine K.GL.det (K.e_move rfl) rfl ?_
      refine K.GL.det (K.e_build lay62 rfl) rfl ?_
      refine K.GL.ix (j := i) sl27 rfl rfl rfl rfl (by show i < (rE t i j).length; rw [hls2]; exact hi) rfl (fun q70 hq70 => ?_)
      refine K.GL.storeT (⟨77, 1⟩ : Ext) rfl rfl rfl Try.sizeOf62 rfl (by show i < (rE t i j).length; rw [hls2]; exact hi) ?_
      refine K.GL.nil ?_
      refine K.GQ.go ?_
      refine K.GC.seq ?_
      have eb12 : [Value.int .i64 t.gen, Value.int .i64 (i : Int), Value.slice a64 (rE t i j).length c64] = tabC (rV t i j ⟨77, 1⟩) a64 c64 := by show _ = [_, _, Value.slice a64 (Tab.exts (rV t i j ⟨77, 1⟩)).length c64]; rw [show (Tab.exts (rV t i j ⟨77, 1⟩)).length = (rE t i j).length from ((rV_len t i j _).trans (rE_len t i j).symm)]; try rfl
      refine K.GC.res (L' := [trow a64 c64 62 encX ((rE t i j).set i ⟨77, 1⟩), cl b12 29 [Value.int .i64 t.gen, Value.int .i64 (i : Int), Value.slice a64 (rE t i j).length c64], trow a53 c53 62 encX ((rE t i j).set i ⟨0, 0⟩), cl b11 29 (tabC (rV t i j ⟨0, 0⟩) a53 c53), trow a35 c35 62 encX (rE t i j), cl b10 29 (tabC (rU t i j) a35 c35), cl b3 29 (tabC t a c)]) ?_ (K.Sub.refl _)
      rw [eb12]
      refine K.GC.region ?_
      first | refine K.GL.det (K.e_ldA Try.isAgg29 Try.sizeOf29 rfl rfl (by assumption)) rfl ?_ | refine K.GL.det (K.e_ldAF Try.isAgg29 Try.sizeOf29 rfl rfl (by assumption) rfl) rfl ?_ | refine K.GL.det (K.e_loads Try.isAgg29 Try.sizeOf29 rfl rfl) rfl ?_
      refine K.GL.alloc Try.zeroValue29 rfl rfl (fun b13 => ?_)
      refine K.GL.storeP (vs := tabC t a c) (cs' := tabC t a c) rfl rfl rfl Try.sizeOf29 rfl rfl (by exact spliceO_all rfl) ?_
      refine K.GL.nil ?_
      refine K.GQ.go ?_
      refine K.GC.seq ?_
      refine K.GC.region ?_
      first | refine K.GL.det (K.e_fa fo29_2 rfl) rfl ?_ | refine K.GL.det (K.e_fieldAddr fo29_2 rfl) rfl ?_
      first | refine K.GL.det (K.e_ldE Try.isAgg27 rfl rfl (by assumption) rfl) rfl ?_ | refine K.GL.det (K.e_ldF Try.isAgg27 rfl rfl (by assumption) rfl) rfl ?_ | refine K.GL.det (K.e_load Try.isAgg27 rfl rfl) rfl ?_ | refine K.GL.det (K.e_load0 Try.isAgg27 rfl (by assumption)) rfl ?_
      refine K.GL.partH (j := 3) sl27 rfl rfl rfl rfl (by omega) (by omega) rfl (fun a74 hp74 hc74 => ?_)
      first | refine K.GL.det (K.e_fa fo29_2 rfl) rfl ?_ | refine K.GL.det (K.e_fieldAddr fo29_2 rfl) rfl ?_
      refine K.GL.store rfl rfl rfl Try.sizeOf27 rfl rfl ?_
      refine K.GL.nil ?_
      refine K.GQ.go ?_
      refine K.GC.seq ?_
      refine K.GC.region ?_
      first | refine K.GL.det (K.e_fa fo29_1 rfl) rfl ?_ | refine K.GL.det (K.e_fieldAddr fo29_1 rfl) rfl ?_
      refine K.GL.store rfl rfl rfl Try.sizeOf3 rfl rfl ?_
      refine K.GL.nil ?_
      refine K.GQ.go ?_
      refine K.GC.seq ?_
      by_cases hij : i = j
      all_goals
        refine K.GC.region ?_
        refine K.GL.det (K.e_move rfl) rfl ?_
        refine K.GL.det (K.e_move rfl) rfl ?_
        first | refine K.GL.splitB 78 rfl (fun h2 => ?_) (fun h2 => ?_) | skip
        all_goals first | exact absurd h2 (by decide) | replace h2 := of_decide_eq_true h2 | replace h2 := of_decide_eq_false h2 | skip
        all_goals
          first | (refine K.GL.want 78 rfl rfl rfl ?_; first | refine K.GL.det (K.e_move rfl) rfl ?_) | refine K.GL.skip 78 rfl rfl rfl rfl ?_ | refine K.GL.skipU 78 rfl rfl rfl rfl ?_
          first | (refine K.GL.want 78 rfl rfl rfl ?_; first | refine K.GL.det (K.e_move rfl) rfl ?_) | refine K.GL.skip 78 rfl rfl rfl rfl ?_ | refine K.GL.skipU 78 rfl rfl rfl rfl ?_
          first | (refine K.GL.want 78 rfl rfl rfl ?_; first | refine K.GL.det ((K.e_eq rfl rfl).yes (by omega)) rfl ?_ | refine K.GL.det ((K.e_eq rfl rfl).no (by omega)) rfl ?_) | refine K.GL.skip 78 rfl rfl rfl rfl ?_ | refine K.GL.skipU 78 rfl rfl rfl rfl ?_
          first | (refine K.GL.want 78 rfl rfl rfl ?_; first | refine K.GL.det (K.e_move rfl) rfl ?_) | refine K.GL.skip 78 rfl rfl rfl rfl ?_ | refine K.GL.skipU 78 rfl rfl rfl rfl ?_
          first | refine K.GL.splitB 82 rfl (fun h3 => ?_) (fun h3 => ?_) | skip
          all_goals first | exact absurd h3 (by decide) | replace h3 := of_decide_eq_true h3 | replace h3 := of_decide_eq_false h3 | skip
          all_goals
            first | (refine K.GL.want 82 rfl rfl rfl ?_; first | refine K.GL.det (K.e_ldA Try.isAgg29 Try.sizeOf29 rfl rfl (by assumption)) rfl ?_ | refine K.GL.det (K.e_ldAF Try.isAgg29 Try.sizeOf29 rfl rfl (by assumption) rfl) rfl ?_ | refine K.GL.det (K.e_loads Try.isAgg29 Try.sizeOf29 rfl rfl) rfl ?_) | refine K.GL.skip 82 rfl rfl rfl rfl ?_ | refine K.GL.skipU 82 rfl rfl rfl rfl ?_
            first | (refine K.GL.want 82 rfl rfl rfl ?_; first | refine K.GL.det ((ev_right_con (t := rU t i j) (a := a35) (c := c35) Try.call29 rfl (by first | (show (rE t i j).length ≤ _; rw [rE_len]; exact hl) | (show ((rE t i j).set i _).length ≤ _; rw [rV_len]; exact hl) | (show (t.exts.take 3).length ≤ _; rw [List.length_take]; omega))).cast_bool (b := false) (rU_bad hi hj hij)) rfl ?_) | refine K.GL.skip 82 rfl rfl rfl rfl ?_ | refine K.GL.skipU 82 rfl rfl rfl rfl ?_
            first | (refine K.GL.want 82 rfl rfl rfl ?_; first | refine K.GL.det (K.e_notp rfl) rfl ?_ | refine K.GL.det (K.e_not rfl) rfl ?_) | refine K.GL.skip 82 rfl rfl rfl rfl ?_ | refine K.GL.skipU 82 rfl rfl rfl rfl ?_
            first | (refine K.GL.want 78 rfl rfl rfl ?_; first | refine K.GL.det (K.e_pick_t rfl rfl) rfl ?_ | refine K.GL.det (K.e_pick_f rfl rfl) rfl ?_) | refine K.GL.skip 78 rfl rfl rfl rfl ?_ | refine K.GL.skipU 78 rfl rfl rfl rfl ?_
            first | refine K.GL.det (K.e_pick_t rfl rfl) rfl ?_ | refine K.GL.det (K.e_pick_f rfl rfl) rfl ?_
            refine K.GL.det (K.e_move rfl) rfl ?_
            first | refine K.GL.splitB 88 rfl (fun h4 => ?_) (fun h4 => ?_) | skip
            all_goals first | exact absurd h4 (by decide) | replace h4 := of_decide_eq_true h4 | replace h4 := of_decide_eq_false h4 | skip
            all_goals
              first | (refine K.GL.want 88 rfl rfl rfl ?_; first | refine K.GL.det (K.e_ldA Try.isAgg29 Try.sizeOf29 rfl rfl (by assumption)) rfl ?_ | refine K.GL.det (K.e_ldAF Try.isAgg29 Try.sizeOf29 rfl rfl (by assumption) rfl) rfl ?_ | refine K.GL.det (K.e_loads Try.isAgg29 Try.sizeOf29 rfl rfl) rfl ?_) | refine K.GL.skip 88 rfl rfl rfl rfl ?_ | refine K.GL.skipU 88 rfl rfl rfl rfl ?_
              first | (refine K.GL.want 88 rfl rfl rfl ?_; first | refine K.GL.det ((ev_right_con (t := rV t i j ⟨0, 0⟩) (a := a53) (c := c53) Try.call29 rfl (by first | (show (rE t i j).length ≤ _; rw [rE_len]; exact hl) | (show ((rE t i j).set i _).length ≤ _; rw [rV_len]; exact hl) | (show (t.exts.take 3).length ≤ _; rw [List.length_take]; omega))).cast_bool (b := false) (rV_bad hi rfl)) rfl ?_) | refine K.GL.skip 88 rfl rfl rfl rfl ?_ | refine K.GL.skipU 88 rfl rfl rfl rfl ?_
              first | (refine K.GL.want 88 rfl rfl rfl ?_; first | refine K.GL.det (K.e_notp rfl) rfl ?_ | refine K.GL.det (K.e_not rfl) rfl ?_) | refine K.GL.skip 88 rfl rfl rfl rfl ?_ | refine K.GL.skipU 88 rfl rfl rfl rfl ?_
              first | refine K.GL.det (K.e_pick_t rfl rfl) rfl ?_ | refine K.GL.det (K.e_pick_f rfl rfl) rfl ?_
              refine K.GL.det (K.e_move rfl) rfl ?_
              first | refine K.GL.splitB 93 rfl (fun h5 => ?_) (fun h5 => ?_) | skip
              all_goals first | exact absurd h5 (by decide) | replace h5 := of_decide_eq_true h5 | replace h5 := of_decide_eq_false h5 | skip
              all_goals
                first | (refine K.GL.want 93 rfl rfl rfl ?_; first | refine K.GL.det (K.e_ldA Try.isAgg29 Try.sizeOf29 rfl rfl (by assumption)) rfl ?_ | refine K.GL.det (K.e_ldAF Try.isAgg29 Try.sizeOf29 rfl rfl (by assumption) rfl) rfl ?_ | refine K.GL.det (K.e_loads Try.isAgg29 Try.sizeOf29 rfl rfl) rfl ?_) | refine K.GL.skip 93 rfl rfl rfl rfl ?_ | refine K.GL.skipU 93 rfl rfl rfl rfl ?_
                first | (refine K.GL.want 93 rfl rfl rfl ?_; first | refine K.GL.det ((ev_right_con (t := rV t i j ⟨77, 1⟩) (a := a64) (c := c64) Try.call29 rfl (by first | (show (rE t i j).length ≤ _; rw [rE_len]; exact hl) | (show ((rE t i j).set i _).length ≤ _; rw [rV_len]; exact hl) | (show (t.exts.take 3).length ≤ _; rw [List.length_take]; omega))).cast_bool (b := false) (rV_bad hi rfl)) rfl ?_) | refine K.GL.skip 93 rfl rfl rfl rfl ?_ | refine K.GL.skipU 93 rfl rfl rfl rfl ?_
                first | (refine K.GL.want 93 rfl rfl rfl ?_; first | refine K.GL.det (K.e_notp rfl) rfl ?_ | refine K.GL.det (K.e_not rfl) rfl ?_) | refine K.GL.skip 93 rfl rfl rfl rfl ?_ | refine K.GL.skipU 93 rfl rfl rfl rfl ?_
                first | refine K.GL.det (K.e_pick_t rfl rfl) rfl ?_ | refine K.GL.det (K.e_pick_f rfl rfl) rfl ?_
                refine K.GL.det (K.e_move rfl) rfl ?_
                first | refine K.GL.splitB 98 rfl (fun h6 => ?_) (fun h6 => ?_) | skip
                all_goals first | exact absurd h6 (by decide) | replace h6 := of_decide_eq_true h6 | replace h6 := of_decide_eq_false h6 | skip
                all_goals
                  first | (refine K.GL.want 98 rfl rfl rfl ?_; first | refine K.GL.det (K.e_ldA Try.isAgg29 Try.sizeOf29 rfl rfl (by assumption)) rfl ?_ | refine K.GL.det (K.e_ldAF Try.isAgg29 Try.sizeOf29 rfl rfl (by assumption) rfl) rfl ?_ | refine K.GL.det (K.e_loads Try.isAgg29 Try.sizeOf29 rfl rfl) rfl ?_) | refine K.GL.skip 98 rfl rfl rfl rfl ?_ | refine K.GL.skipU 98 rfl rfl rfl rfl ?_
                  first | (refine K.GL.want 98 rfl rfl rfl ?_; first | refine K.GL.det ((ev_right_con (t := rX t) (a := a74) (c := c) Try.call29 rfl (by first | (show (rE t i j).length ≤ _; rw [rE_len]; exact hl) | (show ((rE t i j).set i _).length ≤ _; rw [rV_len]; exact hl) | (show (t.exts.take 3).length ≤ _; rw [List.length_take]; omega))).cast_bool (b := false) rX_bad) rfl ?_) | refine K.GL.skip 98 rfl rfl rfl rfl ?_ | refine K.GL.skipU 98 rfl rfl rfl rfl ?_
                  first | (refine K.GL.want 98 rfl rfl rfl ?_; first | refine K.GL.det (K.e_notp rfl) rfl ?_ | refine K.GL.det (K.e_not rfl) rfl ?_) | refine K.GL.skip 98 rfl rfl rfl rfl ?_ | refine K.GL.skipU 98 rfl rfl rfl rfl ?_
                  first | refine K.GL.det (K.e_pick_t rfl rfl) rfl ?_ | refine K.GL.det (K.e_pick_f rfl rfl) rfl ?_
                  refine K.GL.det (K.e_assign rfl) rfl ?_
                  refine K.GL.nil ?_
                  refine K.GQ.go ?_
                  refine K.GC.ret ?_
                  refine K.GQ.ret1 Try.results11 rfl (fun w hT => ?_)
                  exact ⟨rfl, hT.nil⟩
section
variable {ops : Array Oper} {Q : Exit → Act → World → Prop} {N : Nat} {U : Env} {w0 : World} {L0 L F : List Res} {ty : TypeId} {rest : List Oper} {pos : String} {after : Array Edge} {xs : List Operand} {tys : Array TypeId} {dT : Tmp}
theorem ev_refuses_con {t : Tab} {x y : Nat} {a : Option Addr} {c : Nat} (hf : ∀ args w, (callFunc 11 args).run Try.prog w = .ok (.enter 11 args) w) (hx : opvs U xs = some [.agg (tabC t a c).toArray, .int .u8 (x : Int), .int .u8 (y : Int)]) (hl : t.exts.length ≤ 9223372036854775807) (hc : t.exts.length ≤ c) (hx8 : x < 256) (hy8 : y < 256) [o0 : RdC w0 L0 [] L a (encX) (t.exts)] : Ev Try.prog U w0 L0 L (.call ⟨.value (.func 11), xs.toArray, tys⟩) ty (Is (.bool true)) No :=
  K.e_call1 hf hx (fun w hT => by have _o0 := o0.out w hT; exact refuses_con hl hc hx8 hy8)
end

set_option maxHeartbeats 1000000 in
set_option maxRecDepth 100000 in
theorem TableRefuses_lifted (os : Os) (started : os.Started) (H : Type) (enc : TypeId × Value → H) :
    ReturnsInHanded {} Try.checked os 11 .any (Rows.tableRefusesSpec.pre6 enc Try.prog Try.f11 Rows.tableRefusesRow.domain false) (Rows.tableRefusesSpec.post enc Try.prog Try.f11 false true false false) := by
  refine returnsInHanded_of_change_sized (C := Try.checked) own started (by kernel_rfl) Try.func11
    (ChangeSpec.witness6 (enc := enc) (C := Try.checked) false ⟨#[], #[.agg #[.int .i64 0, .int .i64 0, .slice none 0 0], .int .u8 0, .int .u8 0], []⟩ 8 (by kernel_rfl) (by kernel_rfl) (by kernel_rfl) (by kernel_rfl)) ?_
  intro W base args ds gs before hval0 hW _ hsz0 _
  have hval : ∀ (j : Nat) t v, Try.f11.params[j]? = some t → args[j]? = some v → Value.okWide Try.prog W .any base t v := hval0
  have hsz : (DataW.weightsEach Try.prog (Try.f11.params.toList ++ []) (ds ++ gs)).all (· ≤ reachBytes) = true := hsz0
  have hW' := hW
  obtain ⟨p, q, hA0, hV, hpe, hfz, hnd⟩ := hW
  have hA : DataW.TrodAll enc Try.prog W 0 (fun _ => true) true Try.f11.params.toList args.toList ds p := hA0
  obtain ⟨rfl, rfl⟩ := trodVars_none hV
  rw [Try.params11] at hA hval hsz
  obtain ⟨v0, vs0, d0, ds0, p0, q0, hargs, rfl, rfl, h0, r0⟩ := trodAll_cons hA
  obtain ⟨v1, vs1, d1, ds1, p1, q1, rfl, rfl, rfl, h1, r1⟩ := trodAll_cons r0
  obtain ⟨v2, vs2, d2, ds2, p2, q2, rfl, rfl, rfl, h2, r2⟩ := trodAll_cons r1
  obtain ⟨rfl, rfl, rfl⟩ := trodAll_nil r2
  obtain rfl : args = #[v0, v1, v2] := by cases args; simp_all
  clear hA0 hval0 hsz0 hA hargs
  obtain ⟨csz, rfl, _⟩ := okWide_struct Try.underlying29 (hval 0 29 _ rfl rfl)
  obtain ⟨fuelz, hfz⟩ := h0
  obtain ⟨tz, az, cz, hcsz, hnz, hcz, hoz⟩ := open_tab _ _ _ hfz
  unfold maxLen at hnz
  obtain rfl : csz = (tabC tz az cz).toArray := by
    have : csz.toList = tabC tz az cz := by simpa [Value.cells] using hcsz
    rw [← this]
  obtain ⟨x, rfl, rfl, rfl, wx⟩ := open_int Try.underlying5 (hval 1 5 _ rfl rfl) h1
  have hbx := bounds_u8 wx
  obtain ⟨nx, rfl⟩ := Int.eq_ofNat_of_zero_le hbx.1
  obtain ⟨y, rfl, rfl, rfl, wy⟩ := open_int Try.underlying5 (hval 2 5 _ rfl rfl) h2
  have hby := bounds_u8 wy
  obtain ⟨ny, rfl⟩ := Int.eq_ofNat_of_zero_le hby.1
  have core : Calls Try.prog 11 #[.agg (tabC tz az cz).toArray, .int .u8 (nx : Int), .int .u8 (ny : Int)] W fun e W' => e = .returned (.bool true) ∧ Tr W [] W' [] := refuses_con hnz hcz (by omega) (by omega)
  exact core.mono fun e W' ⟨he, hT⟩ => ⟨_, he, law_post (tb := 4) hW' rfl rfl Try.underlying4 (fun _ => rfl) laidOut (by kernel_rfl) hT.below⟩
theorem TableRefuses_holds : Rows.TableRefusesSaid :=
  OpenClaim.holds_of_wide 11 Try.f11 rfl rfl rfl rfl rfl rfl rfl ⟨rfl, rfl, rfl, rfl, rfl⟩ rfl rfl rfl rfl rfl (by kernel_rfl) Try.func11 (by kernel_rfl)
    (of_decide_eq_true (by kernel_rfl)) (by unfold Func.isWrapper; first | (rw [if_pos (by decide +kernel)]; kernel_rfl) | (rw [if_neg (by decide +kernel)]; exact ⟨rfl, rfl⟩))
    (fun os started H enc _ => TableRefuses_lifted os started H enc)

end Go.Proofs.Ytdbedajaapamhaa
