/- TableGens returns true for all tables. -/
import Derived.ProofKit
import Derived.OpenShut
import Derived.SizedLaws
import Derived.Lib.SmallJoins
import Derived.Test.YtdbedajaapamhaaRows
import Derived.Test.YtdbedajaapamhaaTabO
namespace Go.Proofs.Ytdbedajaapamhaa
open Go Go.K Go.ChangeShapes Go.WideShapes Go.ChangeAt Go.RowKit Go.Joins
set_option linter.unusedVariables false
set_option linter.unusedSimpArgs false
attribute [local irreducible] Calls Ev GL GC GQ GR Code.wp
theorem own : ownKnob Try.prog.godebug = none := by kernel_rfl
theorem laidOut : laidOutB Try.prog = true := by kernel_rfl
theorem gens_right {t : Tab} (h : RightP t) : RightP (⟨t.gen % 2147483648 + 1, t.opn, t.exts⟩ : Tab) := by
  have h1 := h.g1
  exact ⟨by show (1 : Int) ≤ t.gen % 2147483648 + 1; omega, by show t.gen % 2147483648 + 1 ≤ (2147483648 : Int); omega, h.n1, h.n2, h.o1, h.o2, h.ok, h.nd, h.op⟩
theorem gens_ne {t : Tab} (h : RightP t) : putT (⟨t.gen % 2147483648 + 1, t.opn, t.exts⟩ : Tab) ≠ putT t := by
  intro e
  have h2 := put_inj (gens_right h) h e
  have h3 := congrArg Tab.gen h2
  have h1 := h.g1
  have h4 := h.g2
  have h5 : t.gen % 2147483648 + 1 = t.gen := h3
  omega
theorem gens_eq {t u : Tab} (h : RightP t) (h2 : RightP u) : decide (decide (putT t = putT u) = decide (t = u)) = true := by
  rw [decide_eq_true_eq, decide_eq_decide]
  exact ⟨put_inj h h2, fun e => by rw [e]⟩
/- turntable/turntablelaw09.TableGens -/
set_option maxHeartbeats 8000000 in
set_option maxRecDepth 100000 in
theorem gens_con {t u : Tab} {a a2 : Option Addr} {c c2 : Nat} {w : World} (hl : t.exts.length ≤ 9223372036854775807) (hl2 : u.exts.length ≤ 9223372036854775807) [Old w [] a (encX) (t.exts)] [Old w [] a2 (encX) (u.exts)] :
    Calls Try.prog 12 #[.agg (tabC t a c).toArray, .agg (tabC u a2 c2).toArray] w fun e w' => e = .returned (.bool true) ∧ Tr w [] w' [] := by
  refine K.enter0 (args := [_, _]) Try.func12 rfl Try.ntmps12 rfl ?_
  refine K.GC.seq ?_
  refine K.GC.region ?_
  refine K.GL.box rfl rfl rfl (fun b2 => ?_)
  refine K.GL.box rfl rfl rfl (fun b3 => ?_)
  refine K.GL.det (K.e_assign rfl) rfl ?_
  refine K.GL.nil ?_
  refine K.GQ.go ?_
  refine K.GC.seq ?_
  refine K.GC.region ?_
  refine K.GL.det (ev_head_con Try.call26 rfl ) rfl ?_
  refine K.GL.det (K.e_assign rfl) rfl ?_
  refine K.GL.nil ?_
  refine K.GQ.go ?_
  refine K.GC.seq ?_
  refine K.GC.seq ?_
  refine K.GC.region ?_
  first | refine K.GL.det (K.e_ldA Try.isAgg29 Try.sizeOf29 rfl rfl (by assumption)) rfl ?_ | refine K.GL.det (K.e_ldAF Try.isAgg29 Try.sizeOf29 rfl rfl (by assumption) rfl) rfl ?_ | refine K.GL.det (K.e_loads Try.isAgg29 Try.sizeOf29 rfl rfl) rfl ?_
  refine K.GL.det (ev_right_con Try.call29 rfl (by first | assumption | omega | rfl | decide)) rfl ?_
  first | refine K.GL.det (K.e_notp rfl) rfl ?_ | refine K.GL.det (K.e_not rfl) rfl ?_
  refine K.GL.det (K.e_move rfl) rfl ?_
  first | refine K.GL.splitB 11 rfl (fun h1 => ?_) (fun h1 => ?_) | skip
  all_goals first | exact absurd h1 (by decide) | replace h1 := of_decide_eq_true h1 | replace h1 := of_decide_eq_false h1 | skip
  all_goals
    first | (refine K.GL.want 11 rfl rfl rfl ?_; first | refine K.GL.det (K.e_ldA Try.isAgg29 Try.sizeOf29 rfl rfl (by assumption)) rfl ?_ | refine K.GL.det (K.e_ldAF Try.isAgg29 Try.sizeOf29 rfl rfl (by assumption) rfl) rfl ?_ | refine K.GL.det (K.e_loads Try.isAgg29 Try.sizeOf29 rfl rfl) rfl ?_) | refine K.GL.skip 11 rfl rfl rfl rfl ?_ | refine K.GL.skipU 11 rfl rfl rfl rfl ?_
    first | (refine K.GL.want 11 rfl rfl rfl ?_; first | refine K.GL.det (ev_right_con Try.call29 rfl (by first | assumption | omega | rfl | decide)) rfl ?_) | refine K.GL.skip 11 rfl rfl rfl rfl ?_ | refine K.GL.skipU 11 rfl rfl rfl rfl ?_
    first | (refine K.GL.want 11 rfl rfl rfl ?_; first | refine K.GL.det (K.e_notp rfl) rfl ?_ | refine K.GL.det (K.e_not rfl) rfl ?_) | refine K.GL.skip 11 rfl rfl rfl rfl ?_ | refine K.GL.skipU 11 rfl rfl rfl rfl ?_
    first | refine K.GL.det (K.e_pick_t rfl rfl) rfl ?_ | refine K.GL.det (K.e_pick_f rfl rfl) rfl ?_
    refine K.GL.nil ?_
    refine K.GQ.go ?_
    refine K.GC.condB rfl (fun h2 => ?_) (fun h2 => ?_)
    · first
      | exact absurd h2 (by decide)
      | try replace h2 := of_decide_eq_true h2
        refine K.GC.seq ?_
        refine K.GC.region ?_
        refine K.GL.det (K.e_move rfl) rfl ?_
        refine K.GL.det (K.e_assign rfl) rfl ?_
        refine K.GL.nil ?_
        refine K.GQ.go ?_
        refine K.GC.ret ?_
        refine K.GQ.then_ret ?_
        refine K.GQ.ret1 Try.results12 rfl (fun w hT => ?_)
        exact ⟨rfl, hT.nil⟩
    · first
      | exact absurd h2 (by decide)
      | try replace h2 := of_decide_eq_false h2
        refine K.GC.skip ?_
        refine K.GQ.go ?_
        refine K.GC.seq ?_
        have hP := (right_iff t).1 (by simp_all)
        have hP2 := (right_iff u).1 (by simp_all)
        have hg1 := hP.g1
        have hg2 := hP.g2
        refine K.GC.region ?_
        first | refine K.GL.det (K.e_ldA Try.isAgg29 Try.sizeOf29 rfl rfl (by assumption)) rfl ?_ | refine K.GL.det (K.e_ldAF Try.isAgg29 Try.sizeOf29 rfl rfl (by assumption) rfl) rfl ?_ | refine K.GL.det (K.e_loads Try.isAgg29 Try.sizeOf29 rfl rfl) rfl ?_
        refine K.GL.alloc Try.zeroValue29 rfl rfl (fun b6 => ?_)
        refine K.GL.storeP (vs := tabC t a c) (cs' := tabC t a c) rfl rfl rfl Try.sizeOf29 rfl rfl (by exact spliceO_all rfl) ?_
        refine K.GL.nil ?_
        refine K.GQ.go ?_
        refine K.GC.seq ?_
        refine K.GC.region ?_
        first | refine K.GL.det (K.e_fa fo29_0 rfl) rfl ?_ | refine K.GL.det (K.e_fieldAddr fo29_0 rfl) rfl ?_
        first | refine K.GL.det (K.e_ldE Try.isAgg2 rfl rfl (by assumption) rfl) rfl ?_ | refine K.GL.det (K.e_ldF Try.isAgg2 rfl rfl (by assumption) rfl) rfl ?_ | refine K.GL.det (K.e_load Try.isAgg2 rfl rfl) rfl ?_ | refine K.GL.det (K.e_load0 Try.isAgg2 rfl (by assumption)) rfl ?_
        refine K.GL.det ((K.e_rem rfl rfl (by omega) (by omega) (by omega))) rfl ?_
        first | refine K.GL.det (K.e_add rfl rfl ⟨by omega, by omega⟩) rfl ?_ | refine K.GL.det (K.e_addw rfl rfl) rfl ?_
        first | refine K.GL.det (K.e_fa fo29_0 rfl) rfl ?_ | refine K.GL.det (K.e_fieldAddr fo29_0 rfl) rfl ?_
        refine K.GL.store rfl rfl rfl Try.sizeOf2 rfl rfl ?_
        refine K.GL.nil ?_
        refine K.GQ.go ?_
        refine K.GC.seq ?_
        refine K.GC.res (L' := [cl b6 29 (tabC (⟨t.gen % 2147483648 + 1, t.opn, t.exts⟩ : Tab) a c), cl b3 29 (tabC u a2 c2), cl b2 29 (tabC t a c)]) ?_ (K.Sub.refl _)
        refine K.D.GC.drawn0 29 [[], [0], [0, 1], [0, 1, 2], [0, 1, 2, 3], [0, 1], [0, 1, 2, 3, 5], [0, 1, 2, 3, 5, 6], [0, 1, 2, 3, 4, 5, 6, 7], [0, 1], [0, 1], [0, 1, 2, 3, 5, 6, 9, 10], [0, 1, 2, 3, 4, 5, 6, 7, 8, 9, 10, 11], [0, 1, 2, 3, 4, 5, 6, 7, 8, 9, 10, 11, 12], [0, 1, 2, 3, 4, 5, 6, 7, 8, 9, 10, 11, 12, 13], [0, 1, 2, 3, 4, 5, 6, 7, 8, 9, 10, 11, 12, 13, 14], [0, 1, 2, 3, 4, 5, 6, 7, 8, 9, 10, 11, 12, 13, 14, 15], [0, 1, 2, 3, 4, 5, 6, 7, 8, 9, 10, 11, 12, 13, 14, 15, 16], [0, 1, 2, 3, 4, 5, 6, 7, 8, 9, 10, 11, 12, 13, 14], [0, 1, 2, 3, 4, 5, 6, 7, 8, 9, 10, 11, 12, 13, 14, 15, 16, 18], [0, 1, 2, 3, 4, 5, 6, 7, 8, 9, 10, 11, 12, 13, 14, 15, 16, 18, 19], [0, 1, 2, 3, 4, 5, 6, 7, 8, 9, 10, 11, 12, 13, 14, 15, 16, 17, 18, 19, 20], [0, 1, 2, 3, 4, 5, 6, 7, 8, 9, 10, 11, 12, 13, 14, 15, 16, 17, 18, 19, 20, 21], [0, 1, 2, 3, 4, 5, 6, 7, 8, 9, 10, 11, 12, 13, 14, 15, 16, 17, 18, 19, 20, 21, 22], [0, 1, 2, 3, 4, 5, 6, 7, 8, 9, 10, 11, 12, 13, 14, 15, 16, 17, 18, 19, 20, 21, 22, 23], [0, 1, 2, 3, 4, 5, 6, 7, 8, 9, 10, 11, 12, 13, 14, 15, 16, 17, 18, 19, 20, 21, 22, 23, 24], [0, 1, 2, 3, 4, 5, 6, 7, 8, 9, 10, 11, 12, 13, 14, 15, 16, 17, 18, 19, 20, 21, 22, 23, 24, 25], [0, 1, 2, 3, 4, 5, 6, 7, 8, 9, 10, 11, 12, 13, 14, 15, 16, 17, 18, 19, 20, 21, 22, 23, 24, 25, 26], [0, 1, 2, 3, 4, 5, 6, 7, 8, 9, 10, 11, 12, 13, 14, 15, 16, 17, 18, 19, 20, 21, 22, 23, 24, 25, 26, 27], [0, 1, 2, 3, 4, 5, 6, 7, 8, 9, 10, 11, 12, 13, 14, 15, 16, 17, 18, 19, 20, 21, 22, 23, 24, 25, 26, 27, 28]] [[], [0], [1], [1, 2], [1, 3], [1], [1, 5], [1, 6], [1, 4, 7], [1], [1], [1, 9, 10], [1, 8, 11], [1, 12], [13], [14], [14, 15], [14, 16], [14], [14, 18], [14, 19], [14, 17, 20], [14, 21], [22], [23], [23, 24], [23, 25], [23, 26], [23, 27]] [[], [], [], [], [3], [], [], [6], [], [], [], [], [], [], [], [], [], [16], [], [], [19], [], [], [], [], [], [], [], []] [[], [], [], [], [], [], [], [], [], [], [], [], [], [], [], [], [], [], [], [], [], [], [], [], [], [], [], [], []] [] [2, 3, 4, 5, 6] (by kernel_rfl) (by kernel_rfl) (by kernel_rfl) rfl ?_
        refine K.D.DW.det (b := []) (u := []) rfl rfl rfl (fun vs hf => K.e_move rfl) ?_
        refine K.D.DW.det (b := [0]) (u := []) rfl rfl rfl (fun vs hf => K.e_move rfl) ?_
        first | (refine K.D.DW.want (b := [1]) rfl (fun _ => rfl) ?_; first | refine K.D.DW.det (b := [1]) (u := []) rfl rfl rfl (fun vs hf => K.e_ldA Try.isAgg29 Try.sizeOf29 rfl rfl (by assumption)) ?_ | refine K.D.DW.det (b := [1]) (u := []) rfl rfl rfl (fun vs hf => K.e_ldAF Try.isAgg29 Try.sizeOf29 rfl rfl (by assumption) rfl) ?_ | refine K.D.DW.det (b := [1]) (u := []) rfl rfl rfl (fun vs hf => K.e_loads Try.isAgg29 Try.sizeOf29 rfl rfl) ?_) | refine K.D.DW.skip (b := [1]) rfl rfl (fun _ => rfl) ?_
        first | (refine K.D.DW.want (b := [1, 2]) rfl (fun _ => rfl) ?_; first | refine K.D.DW.ev0 (b := [1, 2]) (u := []) (a := []) rfl rfl rfl (fun vs hf => show K.D.EvM _ _ _ _ (_) [] _ _ _ _ _ from em_tput_con Try.call31 rfl (by first | assumption | omega | rfl | decide)) ?_) | refine K.D.DW.skip (b := [1, 2]) rfl rfl (fun _ => rfl) ?_
        first | (refine K.D.DW.want (b := [1, 3]) rfl (fun _ => rfl) ?_; first | refine K.D.DW.det (b := [1, 3]) (u := [3]) rfl rfl rfl (fun vs ⟨hf26, _⟩ => show K.Ev _ _ _ _ (_ :: _) _ _ _ _ from K.e_str Try.underlying37 Try.underlying5 Try.underlying9 rfl rfl) ?_ | refine K.D.DW.det (b := [1, 3]) (u := [3]) rfl rfl rfl (fun vs ⟨hf26, _⟩ => show K.Ev _ _ _ _ (_ :: _) _ _ _ _ from K.e_b2s Try.underlying37 Try.underlying5 Try.underlying9 rfl (by first | assumption | omega | rfl | simp [*])) ?_) | refine K.D.DW.skip (b := [1, 3]) rfl rfl (fun _ => rfl) ?_
        first | (refine K.D.DW.want (b := [1]) rfl (fun _ => rfl) ?_; first | refine K.D.DW.det (b := [1]) (u := []) rfl rfl rfl (fun vs hf => K.e_ldA Try.isAgg29 Try.sizeOf29 rfl rfl (by assumption)) ?_ | refine K.D.DW.det (b := [1]) (u := []) rfl rfl rfl (fun vs hf => K.e_ldAF Try.isAgg29 Try.sizeOf29 rfl rfl (by assumption) rfl) ?_ | refine K.D.DW.det (b := [1]) (u := []) rfl rfl rfl (fun vs hf => K.e_loads Try.isAgg29 Try.sizeOf29 rfl rfl) ?_) | refine K.D.DW.skip (b := [1]) rfl rfl (fun _ => rfl) ?_
        first | (refine K.D.DW.want (b := [1, 5]) rfl (fun _ => rfl) ?_; first | refine K.D.DW.ev0 (b := [1, 5]) (u := []) (a := []) rfl rfl rfl (fun vs hf => show K.D.EvM _ _ _ _ (_) [] _ _ _ _ _ from em_tput_con Try.call31 rfl (by first | assumption | omega | rfl | decide)) ?_) | refine K.D.DW.skip (b := [1, 5]) rfl rfl (fun _ => rfl) ?_
        first | (refine K.D.DW.want (b := [1, 6]) rfl (fun _ => rfl) ?_; first | refine K.D.DW.det (b := [1, 6]) (u := [6]) rfl rfl rfl (fun vs ⟨hf29, _⟩ => show K.Ev _ _ _ _ (_ :: _) _ _ _ _ from K.e_str Try.underlying37 Try.underlying5 Try.underlying9 rfl rfl) ?_ | refine K.D.DW.det (b := [1, 6]) (u := [6]) rfl rfl rfl (fun vs ⟨hf29, _⟩ => show K.Ev _ _ _ _ (_ :: _) _ _ _ _ from K.e_b2s Try.underlying37 Try.underlying5 Try.underlying9 rfl (by first | assumption | omega | rfl | simp [*])) ?_) | refine K.D.DW.skip (b := [1, 6]) rfl rfl (fun _ => rfl) ?_
        first | (refine K.D.DW.want (b := [1, 4, 7]) rfl (fun _ => rfl) ?_; first | refine K.D.DW.det (b := [1, 4, 7]) (u := []) rfl rfl rfl (fun vs hf => (K.e_eqs Try.underlying9 rfl rfl).yes (by first | omega | assumption | decide +kernel)) ?_ | refine K.D.DW.det (b := [1, 4, 7]) (u := []) rfl rfl rfl (fun vs hf => (K.e_eqs Try.underlying9 rfl rfl).no (by first | omega | assumption | decide +kernel)) ?_ | refine K.D.DW.det (b := [1, 4, 7]) (u := []) rfl rfl rfl (fun vs hf => K.e_eqs Try.underlying9 rfl rfl) ?_) | refine K.D.DW.skip (b := [1, 4, 7]) rfl rfl (fun _ => rfl) ?_
        first | (refine K.D.DW.want (b := [1]) rfl (fun _ => rfl) ?_; first | refine K.D.DW.det (b := [1]) (u := []) rfl rfl rfl (fun vs hf => K.e_ldA Try.isAgg29 Try.sizeOf29 rfl rfl (by assumption)) ?_ | refine K.D.DW.det (b := [1]) (u := []) rfl rfl rfl (fun vs hf => K.e_ldAF Try.isAgg29 Try.sizeOf29 rfl rfl (by assumption) rfl) ?_ | refine K.D.DW.det (b := [1]) (u := []) rfl rfl rfl (fun vs hf => K.e_loads Try.isAgg29 Try.sizeOf29 rfl rfl) ?_) | refine K.D.DW.skip (b := [1]) rfl rfl (fun _ => rfl) ?_
        first | (refine K.D.DW.want (b := [1]) rfl (fun _ => rfl) ?_; first | refine K.D.DW.det (b := [1]) (u := []) rfl rfl rfl (fun vs hf => K.e_ldA Try.isAgg29 Try.sizeOf29 rfl rfl (by assumption)) ?_ | refine K.D.DW.det (b := [1]) (u := []) rfl rfl rfl (fun vs hf => K.e_ldAF Try.isAgg29 Try.sizeOf29 rfl rfl (by assumption) rfl) ?_ | refine K.D.DW.det (b := [1]) (u := []) rfl rfl rfl (fun vs hf => K.e_loads Try.isAgg29 Try.sizeOf29 rfl rfl) ?_) | refine K.D.DW.skip (b := [1]) rfl rfl (fun _ => rfl) ?_
        first | (refine K.D.DW.want (b := [1, 9, 10]) rfl (fun _ => rfl) ?_; first | refine K.D.DW.det (b := [1, 9, 10]) (u := []) rfl rfl rfl (fun vs hf => ev_rsame_con Try.call18 rfl (by first | assumption | omega | rfl | decide) (by first | assumption | omega | rfl | decide)) ?_) | refine K.D.DW.skip (b := [1, 9, 10]) rfl rfl (fun _ => rfl) ?_
        first | (refine K.D.DW.want (b := [1, 8, 11]) rfl (fun _ => rfl) ?_; first | refine K.D.DW.det (b := [1, 8, 11]) (u := []) rfl rfl rfl (fun vs hf => (K.e_eqb Try.underlying4 rfl rfl).cast_bool (b := true) (gens_eq hP hP2)) ?_) | refine K.D.DW.skip (b := [1, 8, 11]) rfl rfl (fun _ => rfl) ?_
        first | refine K.D.DW.det (b := [1, 12]) (u := []) rfl rfl rfl (fun vs hf => K.e_pick_t rfl rfl) ?_ | refine K.D.DW.det (b := [1, 12]) (u := []) rfl rfl rfl (fun vs hf => K.e_pick_f rfl rfl) ?_
        refine K.D.DW.det (b := [13]) (u := []) rfl rfl rfl (fun vs hf => K.e_move rfl) ?_
        first | (refine K.D.DW.want (b := [14]) rfl (fun _ => rfl) ?_; first | refine K.D.DW.det (b := [14]) (u := []) rfl rfl rfl (fun vs hf => K.e_ldA Try.isAgg29 Try.sizeOf29 rfl rfl (by assumption)) ?_ | refine K.D.DW.det (b := [14]) (u := []) rfl rfl rfl (fun vs hf => K.e_ldAF Try.isAgg29 Try.sizeOf29 rfl rfl (by assumption) rfl) ?_ | refine K.D.DW.det (b := [14]) (u := []) rfl rfl rfl (fun vs hf => K.e_loads Try.isAgg29 Try.sizeOf29 rfl rfl) ?_) | refine K.D.DW.skip (b := [14]) rfl rfl (fun _ => rfl) ?_
        first | (refine K.D.DW.want (b := [14, 15]) rfl (fun _ => rfl) ?_; first | refine K.D.DW.ev0 (b := [14, 15]) (u := []) (a := []) rfl rfl rfl (fun vs hf => show K.D.EvM _ _ _ _ (_) [] _ _ _ _ _ from em_tput_con (t := (⟨t.gen % 2147483648 + 1, t.opn, t.exts⟩ : Tab)) Try.call31 rfl hl) ?_) | refine K.D.DW.skip (b := [14, 15]) rfl rfl (fun _ => rfl) ?_
        first | (refine K.D.DW.want (b := [14, 16]) rfl (fun _ => rfl) ?_; first | refine K.D.DW.det (b := [14, 16]) (u := [16]) rfl rfl rfl (fun vs ⟨hf39, _⟩ => show K.Ev _ _ _ _ (_ :: _) _ _ _ _ from K.e_str Try.underlying37 Try.underlying5 Try.underlying9 rfl rfl) ?_ | refine K.D.DW.det (b := [14, 16]) (u := [16]) rfl rfl rfl (fun vs ⟨hf39, _⟩ => show K.Ev _ _ _ _ (_ :: _) _ _ _ _ from K.e_b2s Try.underlying37 Try.underlying5 Try.underlying9 rfl (by first | assumption | omega | rfl | simp [*])) ?_) | refine K.D.DW.skip (b := [14, 16]) rfl rfl (fun _ => rfl) ?_
        first | (refine K.D.DW.want (b := [14]) rfl (fun _ => rfl) ?_; first | refine K.D.DW.det (b := [14]) (u := []) rfl rfl rfl (fun vs hf => K.e_ldA Try.isAgg29 Try.sizeOf29 rfl rfl (by assumption)) ?_ | refine K.D.DW.det (b := [14]) (u := []) rfl rfl rfl (fun vs hf => K.e_ldAF Try.isAgg29 Try.sizeOf29 rfl rfl (by assumption) rfl) ?_ | refine K.D.DW.det (b := [14]) (u := []) rfl rfl rfl (fun vs hf => K.e_loads Try.isAgg29 Try.sizeOf29 rfl rfl) ?_) | refine K.D.DW.skip (b := [14]) rfl rfl (fun _ => rfl) ?_
        first | (refine K.D.DW.want (b := [14, 18]) rfl (fun _ => rfl) ?_; first | refine K.D.DW.ev0 (b := [14, 18]) (u := []) (a := []) rfl rfl rfl (fun vs hf => show K.D.EvM _ _ _ _ (_) [] _ _ _ _ _ from em_tput_con Try.call31 rfl (by first | assumption | omega | rfl | decide)) ?_) | refine K.D.DW.skip (b := [14, 18]) rfl rfl (fun _ => rfl) ?_
        first | (refine K.D.DW.want (b := [14, 19]) rfl (fun _ => rfl) ?_; first | refine K.D.DW.det (b := [14, 19]) (u := [19]) rfl rfl rfl (fun vs ⟨hf42, _⟩ => show K.Ev _ _ _ _ (_ :: _) _ _ _ _ from K.e_str Try.underlying37 Try.underlying5 Try.underlying9 rfl rfl) ?_ | refine K.D.DW.det (b := [14, 19]) (u := [19]) rfl rfl rfl (fun vs ⟨hf42, _⟩ => show K.Ev _ _ _ _ (_ :: _) _ _ _ _ from K.e_b2s Try.underlying37 Try.underlying5 Try.underlying9 rfl (by first | assumption | omega | rfl | simp [*])) ?_) | refine K.D.DW.skip (b := [14, 19]) rfl rfl (fun _ => rfl) ?_
        first | (refine K.D.DW.want (b := [14, 17, 20]) rfl (fun _ => rfl) ?_; first | refine K.D.DW.det (b := [14, 17, 20]) (u := []) rfl rfl rfl (fun vs hf => (K.e_nes Try.underlying9 rfl rfl).yes (gens_ne hP)) ?_) | refine K.D.DW.skip (b := [14, 17, 20]) rfl rfl (fun _ => rfl) ?_
        first | refine K.D.DW.det (b := [14, 21]) (u := []) rfl rfl rfl (fun vs hf => K.e_pick_t rfl rfl) ?_ | refine K.D.DW.det (b := [14, 21]) (u := []) rfl rfl rfl (fun vs hf => K.e_pick_f rfl rfl) ?_
        refine K.D.DW.det (b := [22]) (u := []) rfl rfl rfl (fun vs hf => K.e_move rfl) ?_
        first | (refine K.D.DW.want (b := [23]) rfl (fun _ => rfl) ?_; first | refine K.D.DW.det (b := [23]) (u := []) rfl rfl rfl (fun vs hf => K.e_ldA Try.isAgg29 Try.sizeOf29 rfl rfl (by assumption)) ?_ | refine K.D.DW.det (b := [23]) (u := []) rfl rfl rfl (fun vs hf => K.e_ldAF Try.isAgg29 Try.sizeOf29 rfl rfl (by assumption) rfl) ?_ | refine K.D.DW.det (b := [23]) (u := []) rfl rfl rfl (fun vs hf => K.e_loads Try.isAgg29 Try.sizeOf29 rfl rfl) ?_) | refine K.D.DW.skip (b := [23]) rfl rfl (fun _ => rfl) ?_
        first | (refine K.D.DW.want (b := [23, 24]) rfl (fun _ => rfl) ?_; first | refine K.D.DW.ev0 (b := [23, 24]) (u := []) (a := []) rfl rfl rfl (fun vs hf => show K.D.EvM _ _ _ _ (_) [] _ _ _ _ _ from em_tput_con (t := (⟨t.gen % 2147483648 + 1, t.opn, t.exts⟩ : Tab)) Try.call31 rfl hl) ?_) | refine K.D.DW.skip (b := [23, 24]) rfl rfl (fun _ => rfl) ?_
        first | (refine K.D.DW.want (b := [23, 25]) rfl (fun _ => rfl) ?_; first | refine K.D.DW.det (b := [23, 25]) (u := []) rfl rfl rfl (fun vs ⟨hf48, _⟩ => K.e_len Try.underlying37 rfl) ?_) | refine K.D.DW.skip (b := [23, 25]) rfl rfl (fun _ => rfl) ?_
        first | (refine K.D.DW.want (b := [23, 26]) rfl (fun _ => rfl) ?_; first | refine K.D.DW.det (b := [23, 26]) (u := []) rfl rfl rfl (fun vs hf => (K.e_eq rfl rfl).yes (by rw [putT_len ((right_iff _).2 (gens_right hP))]; rfl)) ?_) | refine K.D.DW.skip (b := [23, 26]) rfl rfl (fun _ => rfl) ?_
        first | refine K.D.DW.det (b := [23, 27]) (u := []) rfl rfl rfl (fun vs hf => K.e_pick_t rfl rfl) ?_ | refine K.D.DW.det (b := [23, 27]) (u := []) rfl rfl rfl (fun vs hf => K.e_pick_f rfl rfl) ?_
        refine K.D.DW.fin (fun vs hf => ?_)
        refine K.GL.keep [4, 51] rfl ?_
        refine K.D.GL.res0 rfl ?_
        clear hf
        try clear vs
        refine K.GL.det (K.e_assign rfl) rfl ?_
        refine K.GL.nil ?_
        refine K.GQ.go ?_
        refine K.GC.ret ?_
        refine K.GQ.ret1 Try.results12 rfl (fun w hT => ?_)
        exact ⟨rfl, hT.nil⟩
section
variable {ops : Array Oper} {Q : Exit → Act → World → Prop} {N : Nat} {U : Env} {w0 : World} {L0 L F : List Res} {ty : TypeId} {rest : List Oper} {pos : String} {after : Array Edge} {xs : List Operand} {tys : Array TypeId} {dT : Tmp}
theorem ev_gens_con {t u : Tab} {a a2 : Option Addr} {c c2 : Nat} (hf : ∀ args w, (callFunc 12 args).run Try.prog w = .ok (.enter 12 args) w) (hx : opvs U xs = some [.agg (tabC t a c).toArray, .agg (tabC u a2 c2).toArray]) (hl : t.exts.length ≤ 9223372036854775807) (hl2 : u.exts.length ≤ 9223372036854775807) [o0 : RdC w0 L0 [] L a (encX) (t.exts)] [o1 : RdC w0 L0 [] L a2 (encX) (u.exts)] : Ev Try.prog U w0 L0 L (.call ⟨.value (.func 12), xs.toArray, tys⟩) ty (Is (.bool true)) No :=
  K.e_call1 hf hx (fun w hT => by have _o0 := o0.out w hT; have _o1 := o1.out w hT; exact gens_con hl hl2)
end

set_option maxHeartbeats 1000000 in
set_option maxRecDepth 100000 in
theorem TableGens_lifted (os : Os) (started : os.Started) (H : Type) (enc : TypeId × Value → H) :
    ReturnsInHanded {} Try.checked os 12 .any (Rows.tableGensSpec.pre6 enc Try.prog Try.f12 Rows.tableGensRow.domain false) (Rows.tableGensSpec.post enc Try.prog Try.f12 false true false false) := by
  refine returnsInHanded_of_change_sized (C := Try.checked) own started (by kernel_rfl) Try.func12
    (ChangeSpec.witness6 (enc := enc) (C := Try.checked) false ⟨#[], #[.agg #[.int .i64 0, .int .i64 0, .slice none 0 0], .agg #[.int .i64 0, .int .i64 0, .slice none 0 0]], []⟩ 8 (by kernel_rfl) (by kernel_rfl) (by kernel_rfl) (by kernel_rfl)) ?_
  intro W base args ds gs before hval0 hW _ hsz0 _
  have hval : ∀ (j : Nat) t v, Try.f12.params[j]? = some t → args[j]? = some v → Value.okWide Try.prog W .any base t v := hval0
  have hsz : (DataW.weightsEach Try.prog (Try.f12.params.toList ++ []) (ds ++ gs)).all (· ≤ reachBytes) = true := hsz0
  have hW' := hW
  obtain ⟨p, q, hA0, hV, hpe, hfz, hnd⟩ := hW
  have hA : DataW.TrodAll enc Try.prog W 0 (fun _ => true) true Try.f12.params.toList args.toList ds p := hA0
  obtain ⟨rfl, rfl⟩ := trodVars_none hV
  rw [Try.params12] at hA hval hsz
  obtain ⟨v0, vs0, d0, ds0, p0, q0, hargs, rfl, rfl, h0, r0⟩ := trodAll_cons hA
  obtain ⟨v1, vs1, d1, ds1, p1, q1, rfl, rfl, rfl, h1, r1⟩ := trodAll_cons r0
  obtain ⟨rfl, rfl, rfl⟩ := trodAll_nil r1
  obtain rfl : args = #[v0, v1] := by cases args; simp_all
  clear hA0 hval0 hsz0 hA hargs
  obtain ⟨csx, rfl, _⟩ := okWide_struct Try.underlying29 (hval 0 29 _ rfl rfl)
  obtain ⟨fuelx, hfx⟩ := h0
  obtain ⟨tx, ax, cx, hcsx, hnx, hcx, hox⟩ := open_tab _ _ _ hfx
  unfold maxLen at hnx
  obtain rfl : csx = (tabC tx ax cx).toArray := by
    have : csx.toList = tabC tx ax cx := by simpa [Value.cells] using hcsx
    rw [← this]
  obtain ⟨csy, rfl, _⟩ := okWide_struct Try.underlying29 (hval 1 29 _ rfl rfl)
  obtain ⟨fuely, hfy⟩ := h1
  obtain ⟨ty, ay, cy, hcsy, hny, hcy, hoy⟩ := open_tab _ _ _ hfy
  unfold maxLen at hny
  obtain rfl : csy = (tabC ty ay cy).toArray := by
    have : csy.toList = tabC ty ay cy := by simpa [Value.cells] using hcsy
    rw [← this]
  have core : Calls Try.prog 12 #[.agg (tabC tx ax cx).toArray, .agg (tabC ty ay cy).toArray] W fun e W' => e = .returned (.bool true) ∧ Tr W [] W' [] := gens_con hnx hny
  exact core.mono fun e W' ⟨he, hT⟩ => ⟨_, he, law_post (tb := 4) hW' rfl rfl Try.underlying4 (fun _ => rfl) laidOut (by kernel_rfl) hT.below⟩
theorem TableGens_holds : Rows.TableGensSaid :=
  OpenClaim.holds_of_wide 12 Try.f12 rfl rfl rfl rfl rfl rfl rfl ⟨rfl, rfl, rfl, rfl, rfl⟩ rfl rfl rfl rfl rfl (by kernel_rfl) Try.func12 (by kernel_rfl)
    (of_decide_eq_true (by kernel_rfl)) (by unfold Func.isWrapper; first | (rw [if_pos (by decide +kernel)]; kernel_rfl) | (rw [if_neg (by decide +kernel)]; exact ⟨rfl, rfl⟩))
    (fun os started H enc _ => TableGens_lifted os started H enc)

end Go.Proofs.Ytdbedajaapamhaa
