/- TableTells returns true for all tables and bytes. -/
import Derived.ProofKit
import Derived.OpenShut
import Derived.SizedLaws
import Derived.Lib.SmallJoins
import Derived.Test.YtdbedajaapamhaaRows
import Derived.Test.YtdbedajaapamhaaTabO
namespace Go.Proofs.Ytdbedajaapamhaa
open Go Go.K Go.ChangeShapes Go.WideShapes Go.ChangeAt Go.RowKit Go.Joins
set_option linter.unusedVariables false
set_option linter.unusedSimpArgs false
attribute [local irreducible] Calls Ev GL GC GQ GR Code.wp
theorem own : ownKnob Try.prog.godebug = none := by kernel_rfl
theorem laidOut : laidOutB Try.prog = true := by kernel_rfl
theorem freeT_le (t : Tab) : (freeT t).length ≤ t.exts.length := by
  have h := plc_len Ext.free t.exts
  unfold freeT
  split
  · exact h
  · simp
/- turntable/turntablelaw09.TableTells -/
set_option maxHeartbeats 8000000 in
set_option maxRecDepth 100000 in
theorem tells_con {t : Tab} {l : Bytes} {a a2 : Option Addr} {c c2 : Nat} {w : World} (hl : t.exts.length ≤ 9223372036854775807) (hc2 : l.length ≤ c2) (hl2 : l.length ≤ 9223372036854775807) [Old w [] a (encX) (t.exts)] [Old w [] a2 (encB) (l)] :
    Calls Try.prog 7 #[.agg (tabC t a c).toArray, .slice a2 l.length c2] w fun e w' => e = .returned (.bool true) ∧ Tr w [] w' [] := by
  refine K.enter0 (args := [_, _]) Try.func7 rfl Try.ntmps7 rfl ?_
  refine K.GC.seq ?_
  refine K.GC.region ?_
  refine K.GL.box rfl rfl rfl (fun b2 => ?_)
  refine K.GL.det (K.e_assign rfl) rfl ?_
  refine K.GL.nil ?_
  refine K.GQ.go ?_
  refine K.GC.seq ?_
  refine K.GC.region ?_
  refine K.GL.det (ev_head_con Try.call26 rfl ) rfl ?_
  refine K.GL.det (K.e_assign rfl) rfl ?_
  refine K.GL.nil ?_
  refine K.GQ.go ?_
  refine K.GC.seq ?_
  refine K.GC.seq ?_
  refine K.GC.region ?_
  first | refine K.GL.det (K.e_fa fo29_2 rfl) rfl ?_ | refine K.GL.det (K.e_fieldAddr fo29_2 rfl) rfl ?_
  first | refine K.GL.det (K.e_ldE Try.isAgg27 rfl rfl (by assumption) rfl) rfl ?_ | refine K.GL.det (K.e_ldF Try.isAgg27 rfl rfl (by assumption) rfl) rfl ?_ | refine K.GL.det (K.e_load Try.isAgg27 rfl rfl) rfl ?_ | refine K.GL.det (K.e_load0 Try.isAgg27 rfl (by assumption)) rfl ?_
  refine K.GL.det (K.e_len Try.underlying27 rfl) rfl ?_
  first | refine K.GL.det ((K.e_gt rfl rfl).yes (by first | omega | assumption | decide +kernel)) rfl ?_ | refine K.GL.det ((K.e_gt rfl rfl).no (by first | omega | assumption | decide +kernel)) rfl ?_ | refine K.GL.det (K.e_gt rfl rfl) rfl ?_
  refine K.GL.det (K.e_move rfl) rfl ?_
  first | refine K.GL.splitB 15 rfl (fun h1 => ?_) (fun h1 => ?_) | skip
  all_goals first | exact absurd h1 (by decide) | replace h1 := of_decide_eq_true h1 | replace h1 := of_decide_eq_false h1 | skip
  all_goals
    first | (refine K.GL.want 15 rfl rfl rfl ?_; first | refine K.GL.det (K.e_move rfl) rfl ?_) | refine K.GL.skip 15 rfl rfl rfl rfl ?_ | refine K.GL.skipU 15 rfl rfl rfl rfl ?_
    first | (refine K.GL.want 15 rfl rfl rfl ?_; first | refine K.GL.det (K.e_len Try.underlying37 rfl) rfl ?_) | refine K.GL.skip 15 rfl rfl rfl rfl ?_ | refine K.GL.skipU 15 rfl rfl rfl rfl ?_
    first | (refine K.GL.want 15 rfl rfl rfl ?_; first | refine K.GL.det ((K.e_gt rfl rfl).yes (by first | omega | assumption | decide +kernel)) rfl ?_ | refine K.GL.det ((K.e_gt rfl rfl).no (by first | omega | assumption | decide +kernel)) rfl ?_ | refine K.GL.det (K.e_gt rfl rfl) rfl ?_) | refine K.GL.skip 15 rfl rfl rfl rfl ?_ | refine K.GL.skipU 15 rfl rfl rfl rfl ?_
    first | refine K.GL.det (K.e_pick_t rfl rfl) rfl ?_ | refine K.GL.det (K.e_pick_f rfl rfl) rfl ?_
    refine K.GL.nil ?_
    refine K.GQ.go ?_
    refine K.GC.condB rfl (fun h2 => ?_) (fun h2 => ?_)
    · first
      | exact absurd h2 (by decide)
      | try replace h2 := of_decide_eq_true h2
        refine K.GC.seq ?_
        refine K.GC.region ?_
        refine K.GL.det (K.e_move rfl) rfl ?_
        refine K.GL.det (K.e_assign rfl) rfl ?_
        refine K.GL.nil ?_
        refine K.GQ.go ?_
        refine K.GC.ret ?_
        refine K.GQ.then_ret ?_
        refine K.GQ.ret1 Try.results7 rfl (fun w hT => ?_)
        exact ⟨rfl, hT.nil⟩
    · first
      | exact absurd h2 (by decide)
      | try replace h2 := of_decide_eq_false h2
        refine K.GC.skip ?_
        refine K.GQ.go ?_
        refine K.GC.seq ?_
        refine K.GC.region ?_
        refine K.GL.det (K.e_move rfl) rfl ?_
        refine gl_tget_con Try.call27 rfl (by first | assumption | omega | rfl | decide) (by first | assumption | omega | rfl | decide) rfl (fun a23 c23 => ?_)
        refine K.GL.det (K.e_move rfl) rfl ?_
        refine K.GL.det (K.e_extract rfl rfl) rfl ?_
        refine K.GL.det (K.e_extract rfl rfl) rfl ?_
        refine K.GL.alloc Try.zeroValue29 rfl rfl (fun b6 => ?_)
        refine K.GL.storeP (vs := tabC (getT l) a23 c23) (cs' := tabC (getT l) a23 c23) rfl rfl rfl Try.sizeOf29 rfl rfl (by exact spliceO_all rfl) ?_
        refine K.GL.det (K.e_assign rfl) rfl ?_
        refine K.GL.nil ?_
        refine K.GQ.go ?_
        refine K.GC.seq ?_
        refine K.GC.region ?_
        refine K.GL.det (K.e_move rfl) rfl ?_
        refine gl_rtget_con Try.call28 rfl (by first | assumption | omega | rfl | decide) (by first | assumption | omega | rfl | decide) rfl (fun a28 c28 => ?_)
        refine K.GL.det (K.e_move rfl) rfl ?_
        refine K.GL.det (K.e_extract rfl rfl) rfl ?_
        refine K.GL.det (K.e_extract rfl rfl) rfl ?_
        refine K.GL.alloc Try.zeroValue29 rfl rfl (fun b8 => ?_)
        refine K.GL.storeP (vs := tabC (getT l) a28 c28) (cs' := tabC (getT l) a28 c28) rfl rfl rfl Try.sizeOf29 rfl rfl (by exact spliceO_all rfl) ?_
        refine K.GL.det (K.e_assign rfl) rfl ?_
        refine K.GL.nil ?_
        refine K.GQ.go ?_
        refine K.GC.seq ?_
        have hgl : (getT l).exts.length ≤ 9223372036854775807 := getT_len l
        refine K.D.GC.drawn0 48 [[], [0], [0, 1], [0, 1, 2], [0, 1], [0, 1, 2, 3, 4], [0, 1, 2, 3, 4, 5], [0, 1, 2, 3, 4, 5, 6], [0, 1, 2, 3, 4, 5, 6, 7], [0, 1, 2, 3, 4, 5, 6, 7, 8], [0, 1, 2, 3, 4, 5, 6, 7, 8, 9], [0, 1, 2, 3, 4, 5, 6, 7, 8, 9, 10], [0, 1, 2, 3, 4, 5, 6, 7, 8], [0, 1, 2, 3, 4, 5, 6, 7, 8, 9, 10, 12], [0, 1, 2, 3, 4, 5, 6, 7, 8, 9, 10, 12, 13], [0, 1, 2, 3, 4, 5, 6, 7, 8, 9, 10, 11, 12, 13, 14], [0, 1, 2, 3, 4, 5, 6, 7, 8, 9, 10, 11, 12, 13, 14, 15], [0, 1, 2, 3, 4, 5, 6, 7, 8, 9, 10, 11, 12, 13, 14, 15, 16], [0, 1, 2, 3, 4, 5, 6, 7, 8, 9, 10, 11, 12, 13, 14, 15, 16, 17], [0, 1, 2, 3, 4, 5, 6, 7, 8, 9, 10, 11, 12, 13, 14, 15, 16, 17, 18], [0, 1, 2, 3, 4, 5, 6, 7, 8, 9, 10, 11, 12, 13, 14, 15, 16, 17], [0, 1, 2, 3, 4, 5, 6, 7, 8, 9, 10, 11, 12, 13, 14, 15, 16, 17, 18, 19, 20], [0, 1, 2, 3, 4, 5, 6, 7, 8, 9, 10, 11, 12, 13, 14, 15, 16, 17, 18, 19, 20, 21], [0, 1, 2, 3, 4, 5, 6, 7, 8, 9, 10, 11, 12, 13, 14, 15, 16, 17, 18, 19, 20, 21, 22], [0, 1, 2, 3, 4, 5, 6, 7, 8, 9, 10, 11, 12, 13, 14, 15, 16, 17, 18, 19, 20, 21, 22, 23], [0, 1, 2, 3, 4, 5, 6, 7, 8, 9, 10, 11, 12, 13, 14, 15, 16, 17, 18, 19, 20, 21, 22, 23, 24], [0, 1, 2, 3, 4, 5, 6, 7, 8, 9, 10, 11, 12, 13, 14, 15, 16, 17, 18, 19, 20, 21, 22, 23, 24, 25], [0, 1, 2, 3, 4, 5, 6, 7, 8, 9, 10, 11, 12, 13, 14, 15, 16, 17, 18, 19, 20, 21, 22, 23, 24], [0, 1, 2, 3, 4, 5, 6, 7, 8, 9, 10, 11, 12, 13, 14, 15, 16, 17, 18, 19, 20, 21, 22, 23, 24, 25, 26, 27], [0, 1, 2, 3, 4, 5, 6, 7, 8, 9, 10, 11, 12, 13, 14, 15, 16, 17, 18, 19, 20, 21, 22, 23, 24, 25, 26, 27, 28], [0, 1, 2, 3, 4, 5, 6, 7, 8, 9, 10, 11, 12, 13, 14, 15, 16, 17, 18, 19, 20, 21, 22, 23, 24, 25, 26, 27, 28, 29], [0, 1, 2, 3, 4, 5, 6, 7, 8, 9, 10, 11, 12, 13, 14, 15, 16, 17, 18, 19, 20, 21, 22, 23, 24, 25, 26, 27, 28, 29, 30], [0, 1, 2, 3, 4, 5, 6, 7, 8, 9, 10, 11, 12, 13, 14, 15, 16, 17, 18, 19, 20, 21, 22, 23, 24, 25, 26, 27, 28, 29, 30, 31], [0, 1, 2, 3, 4, 5, 6, 7, 8, 9, 10, 11, 12, 13, 14, 15, 16, 17, 18, 19, 20, 21, 22, 23, 24, 25, 26, 27, 28, 29, 30, 31, 32], [0, 1, 2, 3, 4, 5, 6, 7, 8, 9, 10, 11, 12, 13, 14, 15, 16, 17, 18, 19, 20, 21, 22, 23, 24, 25, 26, 27, 28, 29, 30, 31], [0, 1, 2, 3, 4, 5, 6, 7, 8, 9, 10, 11, 12, 13, 14, 15, 16, 17, 18, 19, 20, 21, 22, 23, 24, 25, 26, 27, 28, 29, 30, 31, 32, 33, 34], [0, 1, 2, 3, 4, 5, 6, 7, 8, 9, 10, 11, 12, 13, 14, 15, 16, 17, 18, 19, 20, 21, 22, 23, 24, 25, 26, 27, 28, 29, 30, 31, 32, 33, 34, 35], [0, 1, 2, 3, 4, 5, 6, 7, 8, 9, 10, 11, 12, 13, 14, 15, 16, 17, 18, 19, 20, 21, 22, 23, 24, 25, 26, 27, 28, 29, 30, 31, 32, 33, 34, 35, 36], [0, 1, 2, 3, 4, 5, 6, 7, 8, 9, 10, 11, 12, 13, 14, 15, 16, 17, 18, 19, 20, 21, 22, 23, 24, 25, 26, 27, 28, 29, 30, 31, 32, 33, 34, 35, 36, 37], [0, 1, 2, 3, 4, 5, 6, 7, 8, 9, 10, 11, 12, 13, 14, 15, 16, 17, 18, 19, 20, 21, 22, 23, 24, 25, 26, 27, 28, 29, 30, 31, 32, 33, 34, 35, 36, 37, 38], [0, 1, 2, 3, 4, 5, 6, 7, 8, 9, 10, 11, 12, 13, 14, 15, 16, 17, 18, 19, 20, 21, 22, 23, 24, 25, 26, 27, 28, 29, 30, 31, 32, 33, 34, 35, 36, 37, 38], [0, 1, 2, 3, 4, 5, 6, 7, 8, 9, 10, 11, 12, 13, 14, 15, 16, 17, 18, 19, 20, 21, 22, 23, 24, 25, 26, 27, 28, 29, 30, 31, 32, 33, 34, 35, 36, 37, 38, 39, 40], [0, 1, 2, 3, 4, 5, 6, 7, 8, 9, 10, 11, 12, 13, 14, 15, 16, 17, 18, 19, 20, 21, 22, 23, 24, 25, 26, 27, 28, 29, 30, 31, 32, 33, 34, 35, 36, 37, 38, 39, 40, 41], [0, 1, 2, 3, 4, 5, 6, 7, 8, 9, 10, 11, 12, 13, 14, 15, 16, 17, 18, 19, 20, 21, 22, 23, 24, 25, 26, 27, 28, 29, 30, 31, 32, 33, 34, 35, 36, 37, 38, 39, 40, 41, 42], [0, 1, 2, 3, 4, 5, 6, 7, 8, 9, 10, 11, 12, 13, 14, 15, 16, 17, 18, 19, 20, 21, 22, 23, 24, 25, 26, 27, 28, 29, 30, 31, 32, 33, 34, 35, 36, 37, 38, 39, 40, 41, 42, 43], [0, 1, 2, 3, 4, 5, 6, 7, 8, 9, 10, 11, 12, 13, 14, 15, 16, 17, 18, 19, 20, 21, 22, 23, 24, 25, 26, 27, 28, 29, 30, 31, 32, 33, 34, 35, 36, 37, 38, 39, 40, 41, 42, 43], [0, 1, 2, 3, 4, 5, 6, 7, 8, 9, 10, 11, 12, 13, 14, 15, 16, 17, 18, 19, 20, 21, 22, 23, 24, 25, 26, 27, 28, 29, 30, 31, 32, 33, 34, 35, 36, 37, 38, 39, 40, 41, 42, 43, 44, 45], [0, 1, 2, 3, 4, 5, 6, 7, 8, 9, 10, 11, 12, 13, 14, 15, 16, 17, 18, 19, 20, 21, 22, 23, 24, 25, 26, 27, 28, 29, 30, 31, 32, 33, 34, 35, 36, 37, 38, 39, 40, 41, 42, 43, 44, 45, 46], [0, 1, 2, 3, 4, 5, 6, 7, 8, 9, 10, 11, 12, 13, 14, 15, 16, 17, 18, 19, 20, 21, 22, 23, 24, 25, 26, 27, 28, 29, 30, 31, 32, 33, 34, 35, 36, 37, 38, 39, 40, 41, 42, 43, 44, 45, 46, 47]] [[], [0], [1], [1, 2], [1], [1, 4], [1, 3, 5], [1, 6], [7], [8], [8, 9], [8, 10], [8], [8, 12], [8, 13], [8, 11, 14], [8, 15], [16], [17], [17, 18], [17], [17, 20], [17, 19, 21], [17, 22], [23], [24], [24, 25], [24], [24, 27], [24, 26, 28], [24, 29], [30], [31], [31, 32], [31], [31, 34], [31, 33, 35], [31, 36], [37], [38], [38], [38, 39, 40], [38, 41], [42], [43], [43], [43, 44, 45], [43, 46]] [[], [], [], [], [], [], [], [], [], [], [], [10], [], [], [13], [], [], [], [], [], [], [], [19, 21], [], [], [], [], [], [], [26, 28], [], [], [], [], [], [], [], [], [], [], [], [], [], [], [], [], [], []] [[], [], [], [], [], [], [], [], [], [], [], [], [], [], [], [], [], [], [], [], [], [], [], [], [], [], [], [], [], [], [], [], [], [], [], [], [], [], [], [], [], [], [], [], [], [], [], []] [] [2, 4, 5, 6, 7, 8, 9] (by kernel_rfl) (by kernel_rfl) (by kernel_rfl) rfl ?_
        refine K.D.DW.det (b := []) (u := []) rfl rfl rfl (fun vs hf => K.e_move rfl) ?_
        refine K.D.DW.det (b := [0]) (u := []) rfl rfl rfl (fun vs hf => K.e_move rfl) ?_
        first | (refine K.D.DW.want (b := [1]) rfl (fun _ => rfl) ?_; first | refine K.D.DW.det (b := [1]) (u := []) rfl rfl rfl (fun vs hf => K.e_ldA Try.isAgg29 Try.sizeOf29 rfl rfl (by assumption)) ?_ | refine K.D.DW.det (b := [1]) (u := []) rfl rfl rfl (fun vs hf => K.e_ldAF Try.isAgg29 Try.sizeOf29 rfl rfl (by assumption) rfl) ?_ | refine K.D.DW.det (b := [1]) (u := []) rfl rfl rfl (fun vs hf => K.e_loads Try.isAgg29 Try.sizeOf29 rfl rfl) ?_) | refine K.D.DW.skip (b := [1]) rfl rfl (fun _ => rfl) ?_
        first | (refine K.D.DW.want (b := [1, 2]) rfl (fun _ => rfl) ?_; first | refine K.D.DW.det (b := [1, 2]) (u := []) rfl rfl rfl (fun vs hf => ev_right_con Try.call29 rfl (by first | assumption | omega | rfl | decide)) ?_) | refine K.D.DW.skip (b := [1, 2]) rfl rfl (fun _ => rfl) ?_
        first | (refine K.D.DW.want (b := [1]) rfl (fun _ => rfl) ?_; first | refine K.D.DW.det (b := [1]) (u := []) rfl rfl rfl (fun vs hf => K.e_ldA Try.isAgg29 Try.sizeOf29 rfl rfl (by assumption)) ?_ | refine K.D.DW.det (b := [1]) (u := []) rfl rfl rfl (fun vs hf => K.e_ldAF Try.isAgg29 Try.sizeOf29 rfl rfl (by assumption) rfl) ?_ | refine K.D.DW.det (b := [1]) (u := []) rfl rfl rfl (fun vs hf => K.e_loads Try.isAgg29 Try.sizeOf29 rfl rfl) ?_) | refine K.D.DW.skip (b := [1]) rfl rfl (fun _ => rfl) ?_
        first | (refine K.D.DW.want (b := [1, 4]) rfl (fun _ => rfl) ?_; first | refine K.D.DW.det (b := [1, 4]) (u := []) rfl rfl rfl (fun vs hf => ev_rright_con Try.call30 rfl (by first | assumption | omega | rfl | decide)) ?_) | refine K.D.DW.skip (b := [1, 4]) rfl rfl (fun _ => rfl) ?_
        first | (refine K.D.DW.want (b := [1, 3, 5]) rfl (fun _ => rfl) ?_; first | refine K.D.DW.det (b := [1, 3, 5]) (u := []) rfl rfl rfl (fun vs hf => (K.e_eqb Try.underlying4 rfl rfl).cast_bool (b := true) (by first | rfl | simp)) ?_) | refine K.D.DW.skip (b := [1, 3, 5]) rfl rfl (fun _ => rfl) ?_
        first | refine K.D.DW.det (b := [1, 6]) (u := []) rfl rfl rfl (fun vs hf => K.e_pick_t rfl rfl) ?_ | refine K.D.DW.det (b := [1, 6]) (u := []) rfl rfl rfl (fun vs hf => K.e_pick_f rfl rfl) ?_
        refine K.D.DW.det (b := [7]) (u := []) rfl rfl rfl (fun vs hf => K.e_move rfl) ?_
        first | (refine K.D.DW.want (b := [8]) rfl (fun _ => rfl) ?_; first | refine K.D.DW.det (b := [8]) (u := []) rfl rfl rfl (fun vs hf => K.e_ldA Try.isAgg29 Try.sizeOf29 rfl rfl (by assumption)) ?_ | refine K.D.DW.det (b := [8]) (u := []) rfl rfl rfl (fun vs hf => K.e_ldAF Try.isAgg29 Try.sizeOf29 rfl rfl (by assumption) rfl) ?_ | refine K.D.DW.det (b := [8]) (u := []) rfl rfl rfl (fun vs hf => K.e_loads Try.isAgg29 Try.sizeOf29 rfl rfl) ?_) | refine K.D.DW.skip (b := [8]) rfl rfl (fun _ => rfl) ?_
        first | (refine K.D.DW.want (b := [8, 9]) rfl (fun _ => rfl) ?_; first | refine K.D.DW.ev0 (b := [8, 9]) (u := []) (a := []) rfl rfl rfl (fun vs hf => show K.D.EvM _ _ _ _ (_) [] _ _ _ _ _ from em_tput_con Try.call31 rfl (by first | assumption | omega | rfl | decide)) ?_) | refine K.D.DW.skip (b := [8, 9]) rfl rfl (fun _ => rfl) ?_
        first | (refine K.D.DW.want (b := [8, 10]) rfl (fun _ => rfl) ?_; first | refine K.D.DW.det (b := [8, 10]) (u := [10]) rfl rfl rfl (fun vs ⟨hf41, _⟩ => show K.Ev _ _ _ _ (_ :: _) _ _ _ _ from K.e_str Try.underlying37 Try.underlying5 Try.underlying9 rfl rfl) ?_ | refine K.D.DW.det (b := [8, 10]) (u := [10]) rfl rfl rfl (fun vs ⟨hf41, _⟩ => show K.Ev _ _ _ _ (_ :: _) _ _ _ _ from K.e_b2s Try.underlying37 Try.underlying5 Try.underlying9 rfl (by first | assumption | omega | rfl | simp [*])) ?_) | refine K.D.DW.skip (b := [8, 10]) rfl rfl (fun _ => rfl) ?_
        first | (refine K.D.DW.want (b := [8]) rfl (fun _ => rfl) ?_; first | refine K.D.DW.det (b := [8]) (u := []) rfl rfl rfl (fun vs hf => K.e_ldA Try.isAgg29 Try.sizeOf29 rfl rfl (by assumption)) ?_ | refine K.D.DW.det (b := [8]) (u := []) rfl rfl rfl (fun vs hf => K.e_ldAF Try.isAgg29 Try.sizeOf29 rfl rfl (by assumption) rfl) ?_ | refine K.D.DW.det (b := [8]) (u := []) rfl rfl rfl (fun vs hf => K.e_loads Try.isAgg29 Try.sizeOf29 rfl rfl) ?_) | refine K.D.DW.skip (b := [8]) rfl rfl (fun _ => rfl) ?_
        first | (refine K.D.DW.want (b := [8, 12]) rfl (fun _ => rfl) ?_; first | refine K.D.DW.ev0 (b := [8, 12]) (u := []) (a := []) rfl rfl rfl (fun vs hf => show K.D.EvM _ _ _ _ (_) [] _ _ _ _ _ from em_rtput_con Try.call21 rfl (by first | assumption | omega | rfl | decide)) ?_) | refine K.D.DW.skip (b := [8, 12]) rfl rfl (fun _ => rfl) ?_
        first | (refine K.D.DW.want (b := [8, 13]) rfl (fun _ => rfl) ?_; first | refine K.D.DW.det (b := [8, 13]) (u := [13]) rfl rfl rfl (fun vs ⟨hf44, _⟩ => show K.Ev _ _ _ _ (_ :: _) _ _ _ _ from K.e_str Try.underlying37 Try.underlying5 Try.underlying9 rfl rfl) ?_ | refine K.D.DW.det (b := [8, 13]) (u := [13]) rfl rfl rfl (fun vs ⟨hf44, _⟩ => show K.Ev _ _ _ _ (_ :: _) _ _ _ _ from K.e_b2s Try.underlying37 Try.underlying5 Try.underlying9 rfl (by first | assumption | omega | rfl | simp [*])) ?_) | refine K.D.DW.skip (b := [8, 13]) rfl rfl (fun _ => rfl) ?_
        first | (refine K.D.DW.want (b := [8, 11, 14]) rfl (fun _ => rfl) ?_; first | refine K.D.DW.det (b := [8, 11, 14]) (u := []) rfl rfl rfl (fun vs hf => (K.e_eqs Try.underlying9 rfl rfl).yes rfl) ?_) | refine K.D.DW.skip (b := [8, 11, 14]) rfl rfl (fun _ => rfl) ?_
        first | refine K.D.DW.det (b := [8, 15]) (u := []) rfl rfl rfl (fun vs hf => K.e_pick_t rfl rfl) ?_ | refine K.D.DW.det (b := [8, 15]) (u := []) rfl rfl rfl (fun vs hf => K.e_pick_f rfl rfl) ?_
        refine K.D.DW.det (b := [16]) (u := []) rfl rfl rfl (fun vs hf => K.e_move rfl) ?_
        first | (refine K.D.DW.want (b := [17]) rfl (fun _ => rfl) ?_; first | refine K.D.DW.det (b := [17]) (u := []) rfl rfl rfl (fun vs hf => K.e_ldA Try.isAgg29 Try.sizeOf29 rfl rfl (by assumption)) ?_ | refine K.D.DW.det (b := [17]) (u := []) rfl rfl rfl (fun vs hf => K.e_ldAF Try.isAgg29 Try.sizeOf29 rfl rfl (by assumption) rfl) ?_ | refine K.D.DW.det (b := [17]) (u := []) rfl rfl rfl (fun vs hf => K.e_loads Try.isAgg29 Try.sizeOf29 rfl rfl) ?_) | refine K.D.DW.skip (b := [17]) rfl rfl (fun _ => rfl) ?_
        first | (refine K.D.DW.want (b := [17, 18]) rfl (fun _ => rfl) ?_; first | refine K.D.DW.ev0 (b := [17, 18]) (u := []) (a := []) rfl rfl rfl (fun vs hf => show K.D.EvM _ _ _ _ (_) [] _ _ _ _ _ from em_tord_con Try.call33 rfl (by first | assumption | omega | rfl | decide)) ?_) | refine K.D.DW.skip (b := [17, 18]) rfl rfl (fun _ => rfl) ?_
        first | (refine K.D.DW.want (b := [17]) rfl (fun _ => rfl) ?_; first | refine K.D.DW.det (b := [17]) (u := []) rfl rfl rfl (fun vs hf => K.e_ldA Try.isAgg29 Try.sizeOf29 rfl rfl (by assumption)) ?_ | refine K.D.DW.det (b := [17]) (u := []) rfl rfl rfl (fun vs hf => K.e_ldAF Try.isAgg29 Try.sizeOf29 rfl rfl (by assumption) rfl) ?_ | refine K.D.DW.det (b := [17]) (u := []) rfl rfl rfl (fun vs hf => K.e_loads Try.isAgg29 Try.sizeOf29 rfl rfl) ?_) | refine K.D.DW.skip (b := [17]) rfl rfl (fun _ => rfl) ?_
        first | (refine K.D.DW.want (b := [17, 20]) rfl (fun _ => rfl) ?_; first | refine K.D.DW.ev0 (b := [17, 20]) (u := []) (a := []) rfl rfl rfl (fun vs hf => show K.D.EvM _ _ _ _ (_) [] _ _ _ _ _ from em_rtord_con Try.call34 rfl (by first | assumption | omega | rfl | decide)) ?_) | refine K.D.DW.skip (b := [17, 20]) rfl rfl (fun _ => rfl) ?_
        first | (refine K.D.DW.want (b := [17, 19, 21]) rfl (fun _ => rfl) ?_; first | refine K.D.DW.det (b := [17, 19, 21]) (u := [19, 21]) rfl rfl rfl (fun vs ⟨hf50, hf52, _⟩ => show K.Ev _ _ _ _ (_ :: _ :: _) _ _ _ _ from (ev_sint_con (l := ordT t) (m := ordT t) Try.call32 rfl (by have := ordT_le t; have := freeT_le t; omega) (by have := ordT_le t; have := freeT_le t; omega)).cast_bool (b := true) (decide_eq_true rfl)) ?_) | refine K.D.DW.skip (b := [17, 19, 21]) rfl rfl (fun _ => rfl) ?_
        first | refine K.D.DW.det (b := [17, 22]) (u := []) rfl rfl rfl (fun vs hf => K.e_pick_t rfl rfl) ?_ | refine K.D.DW.det (b := [17, 22]) (u := []) rfl rfl rfl (fun vs hf => K.e_pick_f rfl rfl) ?_
        refine K.D.DW.det (b := [23]) (u := []) rfl rfl rfl (fun vs hf => K.e_move rfl) ?_
        first | (refine K.D.DW.want (b := [24]) rfl (fun _ => rfl) ?_; first | refine K.D.DW.det (b := [24]) (u := []) rfl rfl rfl (fun vs hf => K.e_ldA Try.isAgg29 Try.sizeOf29 rfl rfl (by assumption)) ?_ | refine K.D.DW.det (b := [24]) (u := []) rfl rfl rfl (fun vs hf => K.e_ldAF Try.isAgg29 Try.sizeOf29 rfl rfl (by assumption) rfl) ?_ | refine K.D.DW.det (b := [24]) (u := []) rfl rfl rfl (fun vs hf => K.e_loads Try.isAgg29 Try.sizeOf29 rfl rfl) ?_) | refine K.D.DW.skip (b := [24]) rfl rfl (fun _ => rfl) ?_
        first | (refine K.D.DW.want (b := [24, 25]) rfl (fun _ => rfl) ?_; first | refine K.D.DW.ev0 (b := [24, 25]) (u := []) (a := []) rfl rfl rfl (fun vs hf => show K.D.EvM _ _ _ _ (_) [] _ _ _ _ _ from em_tfree_con Try.call35 rfl (by first | assumption | omega | rfl | decide)) ?_) | refine K.D.DW.skip (b := [24, 25]) rfl rfl (fun _ => rfl) ?_
        first | (refine K.D.DW.want (b := [24]) rfl (fun _ => rfl) ?_; first | refine K.D.DW.det (b := [24]) (u := []) rfl rfl rfl (fun vs hf => K.e_ldA Try.isAgg29 Try.sizeOf29 rfl rfl (by assumption)) ?_ | refine K.D.DW.det (b := [24]) (u := []) rfl rfl rfl (fun vs hf => K.e_ldAF Try.isAgg29 Try.sizeOf29 rfl rfl (by assumption) rfl) ?_ | refine K.D.DW.det (b := [24]) (u := []) rfl rfl rfl (fun vs hf => K.e_loads Try.isAgg29 Try.sizeOf29 rfl rfl) ?_) | refine K.D.DW.skip (b := [24]) rfl rfl (fun _ => rfl) ?_
        first | (refine K.D.DW.want (b := [24, 27]) rfl (fun _ => rfl) ?_; first | refine K.D.DW.ev0 (b := [24, 27]) (u := []) (a := []) rfl rfl rfl (fun vs hf => show K.D.EvM _ _ _ _ (_) [] _ _ _ _ _ from em_rtfree_con Try.call36 rfl (by first | assumption | omega | rfl | decide)) ?_) | refine K.D.DW.skip (b := [24, 27]) rfl rfl (fun _ => rfl) ?_
        first | (refine K.D.DW.want (b := [24, 26, 28]) rfl (fun _ => rfl) ?_; first | refine K.D.DW.det (b := [24, 26, 28]) (u := [26, 28]) rfl rfl rfl (fun vs ⟨hf57, hf59, _⟩ => show K.Ev _ _ _ _ (_ :: _ :: _) _ _ _ _ from (ev_sint_con (l := freeT t) (m := freeT t) Try.call32 rfl (by have := ordT_le t; have := freeT_le t; omega) (by have := ordT_le t; have := freeT_le t; omega)).cast_bool (b := true) (decide_eq_true rfl)) ?_) | refine K.D.DW.skip (b := [24, 26, 28]) rfl rfl (fun _ => rfl) ?_
        first | refine K.D.DW.det (b := [24, 29]) (u := []) rfl rfl rfl (fun vs hf => K.e_pick_t rfl rfl) ?_ | refine K.D.DW.det (b := [24, 29]) (u := []) rfl rfl rfl (fun vs hf => K.e_pick_f rfl rfl) ?_
        refine K.D.DW.det (b := [30]) (u := []) rfl rfl rfl (fun vs hf => K.e_move rfl) ?_
        first | (refine K.D.DW.want (b := [31]) rfl (fun _ => rfl) ?_; first | refine K.D.DW.det (b := [31]) (u := []) rfl rfl rfl (fun vs hf => K.e_ldA Try.isAgg29 Try.sizeOf29 rfl rfl (by assumption)) ?_ | refine K.D.DW.det (b := [31]) (u := []) rfl rfl rfl (fun vs hf => K.e_ldAF Try.isAgg29 Try.sizeOf29 rfl rfl (by assumption) rfl) ?_ | refine K.D.DW.det (b := [31]) (u := []) rfl rfl rfl (fun vs hf => K.e_loads Try.isAgg29 Try.sizeOf29 rfl rfl) ?_) | refine K.D.DW.skip (b := [31]) rfl rfl (fun _ => rfl) ?_
        first | (refine K.D.DW.want (b := [31, 32]) rfl (fun _ => rfl) ?_; first | refine K.D.DW.det (b := [31, 32]) (u := []) rfl rfl rfl (fun vs hf => ev_tlast_con Try.call37 rfl (by first | assumption | omega | rfl | decide)) ?_) | refine K.D.DW.skip (b := [31, 32]) rfl rfl (fun _ => rfl) ?_
        first | (refine K.D.DW.want (b := [31]) rfl (fun _ => rfl) ?_; first | refine K.D.DW.det (b := [31]) (u := []) rfl rfl rfl (fun vs hf => K.e_ldA Try.isAgg29 Try.sizeOf29 rfl rfl (by assumption)) ?_ | refine K.D.DW.det (b := [31]) (u := []) rfl rfl rfl (fun vs hf => K.e_ldAF Try.isAgg29 Try.sizeOf29 rfl rfl (by assumption) rfl) ?_ | refine K.D.DW.det (b := [31]) (u := []) rfl rfl rfl (fun vs hf => K.e_loads Try.isAgg29 Try.sizeOf29 rfl rfl) ?_) | refine K.D.DW.skip (b := [31]) rfl rfl (fun _ => rfl) ?_
        first | (refine K.D.DW.want (b := [31, 34]) rfl (fun _ => rfl) ?_; first | refine K.D.DW.det (b := [31, 34]) (u := []) rfl rfl rfl (fun vs hf => ev_rtlast_con Try.call38 rfl (by first | assumption | omega | rfl | decide)) ?_) | refine K.D.DW.skip (b := [31, 34]) rfl rfl (fun _ => rfl) ?_
        first | (refine K.D.DW.want (b := [31, 33, 35]) rfl (fun _ => rfl) ?_; first | refine K.D.DW.det (b := [31, 33, 35]) (u := []) rfl rfl rfl (fun vs hf => (K.e_eq rfl rfl).yes rfl) ?_) | refine K.D.DW.skip (b := [31, 33, 35]) rfl rfl (fun _ => rfl) ?_
        first | refine K.D.DW.det (b := [31, 36]) (u := []) rfl rfl rfl (fun vs hf => K.e_pick_t rfl rfl) ?_ | refine K.D.DW.det (b := [31, 36]) (u := []) rfl rfl rfl (fun vs hf => K.e_pick_f rfl rfl) ?_
        refine K.D.DW.det (b := [37]) (u := []) rfl rfl rfl (fun vs hf => K.e_move rfl) ?_
        first | (refine K.D.DW.want (b := [38]) rfl (fun _ => rfl) ?_; first | refine K.D.DW.det (b := [38]) (u := []) rfl rfl rfl (fun vs hf => K.e_ldA Try.isAgg29 Try.sizeOf29 rfl rfl (by assumption)) ?_ | refine K.D.DW.det (b := [38]) (u := []) rfl rfl rfl (fun vs hf => K.e_ldAF Try.isAgg29 Try.sizeOf29 rfl rfl (by assumption) rfl) ?_ | refine K.D.DW.det (b := [38]) (u := []) rfl rfl rfl (fun vs hf => K.e_loads Try.isAgg29 Try.sizeOf29 rfl rfl) ?_) | refine K.D.DW.skip (b := [38]) rfl rfl (fun _ => rfl) ?_
        first | (refine K.D.DW.want (b := [38]) rfl (fun _ => rfl) ?_; first | refine K.D.DW.det (b := [38]) (u := []) rfl rfl rfl (fun vs hf => K.e_ldA Try.isAgg29 Try.sizeOf29 rfl rfl (by assumption)) ?_ | refine K.D.DW.det (b := [38]) (u := []) rfl rfl rfl (fun vs hf => K.e_ldAF Try.isAgg29 Try.sizeOf29 rfl rfl (by assumption) rfl) ?_ | refine K.D.DW.det (b := [38]) (u := []) rfl rfl rfl (fun vs hf => K.e_loads Try.isAgg29 Try.sizeOf29 rfl rfl) ?_) | refine K.D.DW.skip (b := [38]) rfl rfl (fun _ => rfl) ?_
        first | (refine K.D.DW.want (b := [38, 39, 40]) rfl (fun _ => rfl) ?_; first | refine K.D.DW.det (b := [38, 39, 40]) (u := []) rfl rfl rfl (fun vs hf => (ev_rsame_con (t := getT l) (u := getT l) Try.call18 rfl hgl hgl).cast_bool (b := true) (decide_eq_true rfl)) ?_) | refine K.D.DW.skip (b := [38, 39, 40]) rfl rfl (fun _ => rfl) ?_
        first | refine K.D.DW.det (b := [38, 41]) (u := []) rfl rfl rfl (fun vs hf => K.e_pick_t rfl rfl) ?_ | refine K.D.DW.det (b := [38, 41]) (u := []) rfl rfl rfl (fun vs hf => K.e_pick_f rfl rfl) ?_
        refine K.D.DW.det (b := [42]) (u := []) rfl rfl rfl (fun vs hf => K.e_move rfl) ?_
        first | (refine K.D.DW.want (b := [43]) rfl (fun _ => rfl) ?_; first | refine K.D.DW.det (b := [43]) (u := []) rfl rfl rfl (fun vs hf => K.e_move rfl) ?_) | refine K.D.DW.skip (b := [43]) rfl rfl (fun _ => rfl) ?_
        first | (refine K.D.DW.want (b := [43]) rfl (fun _ => rfl) ?_; first | refine K.D.DW.det (b := [43]) (u := []) rfl rfl rfl (fun vs hf => K.e_move rfl) ?_) | refine K.D.DW.skip (b := [43]) rfl rfl (fun _ => rfl) ?_
        first | (refine K.D.DW.want (b := [43, 44, 45]) rfl (fun _ => rfl) ?_; first | refine K.D.DW.det (b := [43, 44, 45]) (u := []) rfl rfl rfl (fun vs hf => (K.e_eqb Try.underlying4 rfl rfl).cast_bool (b := true) (by first | rfl | simp)) ?_) | refine K.D.DW.skip (b := [43, 44, 45]) rfl rfl (fun _ => rfl) ?_
        first | refine K.D.DW.det (b := [43, 46]) (u := []) rfl rfl rfl (fun vs hf => K.e_pick_t rfl rfl) ?_ | refine K.D.DW.det (b := [43, 46]) (u := []) rfl rfl rfl (fun vs hf => K.e_pick_f rfl rfl) ?_
        refine K.D.DW.fin (fun vs hf => ?_)
        refine K.GL.keep [4, 78] rfl ?_
        refine K.D.GL.res0 rfl ?_
        clear hf
        try clear vs
        refine K.GL.det (K.e_assign rfl) rfl ?_
        refine K.GL.nil ?_
        refine K.GQ.go ?_
        refine K.GC.ret ?_
        refine K.GQ.ret1 Try.results7 rfl (fun w hT => ?_)
        exact ⟨rfl, hT.nil⟩
section
variable {ops : Array Oper} {Q : Exit → Act → World → Prop} {N : Nat} {U : Env} {w0 : World} {L0 L F : List Res} {ty : TypeId} {rest : List Oper} {pos : String} {after : Array Edge} {xs : List Operand} {tys : Array TypeId} {dT : Tmp}
theorem ev_tells_con {t : Tab} {l : Bytes} {a a2 : Option Addr} {c c2 : Nat} (hf : ∀ args w, (callFunc 7 args).run Try.prog w = .ok (.enter 7 args) w) (hx : opvs U xs = some [.agg (tabC t a c).toArray, .slice a2 l.length c2]) (hl : t.exts.length ≤ 9223372036854775807) (hc2 : l.length ≤ c2) (hl2 : l.length ≤ 9223372036854775807) [o0 : RdC w0 L0 [] L a (encX) (t.exts)] [o1 : RdC w0 L0 [] L a2 (encB) (l)] : Ev Try.prog U w0 L0 L (.call ⟨.value (.func 7), xs.toArray, tys⟩) ty (Is (.bool true)) No :=
  K.e_call1 hf hx (fun w hT => by have _o0 := o0.out w hT; have _o1 := o1.out w hT; exact tells_con hl hc2 hl2)
end

set_option maxHeartbeats 1000000 in
set_option maxRecDepth 100000 in
theorem TableTells_lifted (os : Os) (started : os.Started) (H : Type) (enc : TypeId × Value → H) :
    ReturnsInHanded {} Try.checked os 7 .any (Rows.tableTellsSpec.pre6 enc Try.prog Try.f7 Rows.tableTellsRow.domain false) (Rows.tableTellsSpec.post enc Try.prog Try.f7 false true false false) := by
  refine returnsInHanded_of_change_sized (C := Try.checked) own started (by kernel_rfl) Try.func7
    (ChangeSpec.witness6 (enc := enc) (C := Try.checked) false ⟨#[], #[.agg #[.int .i64 0, .int .i64 0, .slice none 0 0], .slice none 0 0], []⟩ 8 (by kernel_rfl) (by kernel_rfl) (by kernel_rfl) (by kernel_rfl)) ?_
  intro W base args ds gs before hval0 hW _ hsz0 _
  have hval : ∀ (j : Nat) t v, Try.f7.params[j]? = some t → args[j]? = some v → Value.okWide Try.prog W .any base t v := hval0
  have hsz : (DataW.weightsEach Try.prog (Try.f7.params.toList ++ []) (ds ++ gs)).all (· ≤ reachBytes) = true := hsz0
  have hW' := hW
  obtain ⟨p, q, hA0, hV, hpe, hfz, hnd⟩ := hW
  have hA : DataW.TrodAll enc Try.prog W 0 (fun _ => true) true Try.f7.params.toList args.toList ds p := hA0
  obtain ⟨rfl, rfl⟩ := trodVars_none hV
  rw [Try.params7] at hA hval hsz
  obtain ⟨v0, vs0, d0, ds0, p0, q0, hargs, rfl, rfl, h0, r0⟩ := trodAll_cons hA
  obtain ⟨v1, vs1, d1, ds1, p1, q1, rfl, rfl, rfl, h1, r1⟩ := trodAll_cons r0
  obtain ⟨rfl, rfl, rfl⟩ := trodAll_nil r1
  obtain rfl : args = #[v0, v1] := by cases args; simp_all
  clear hA0 hval0 hsz0 hA hargs
  obtain ⟨csx, rfl, _⟩ := okWide_struct Try.underlying29 (hval 0 29 _ rfl rfl)
  obtain ⟨fuelx, hfx⟩ := h0
  obtain ⟨tx, ax, cx, hcsx, hnx, hcx, hox⟩ := open_tab _ _ _ hfx
  unfold maxLen at hnx
  obtain rfl : csx = (tabC tx ax cx).toArray := by
    have : csx.toList = tabC tx ax cx := by simpa [Value.cells] using hcsx
    rw [← this]
  obtain ⟨ay, nny, cy, rfl⟩ := okWide_slice Try.underlying37 (hval 1 37 _ rfl rfl)
  obtain ⟨fuely, hfy⟩ := h1
  obtain ⟨aay, ccy, ly, hcsy, hny, hcy, hoy, hGy⟩ := open_row (e := encB) Try.underlying37 (by kernel_rfl) (each_u8 Try.underlying5) hfy
  have hcsy' : Value.slice ay nny cy = .slice aay ly.length ccy := by simpa [Value.cells] using hcsy
  simp only [Value.slice.injEq] at hcsy'
  obtain ⟨rfl, rfl, rfl⟩ := hcsy'
  unfold maxLen at hny
  have core : Calls Try.prog 7 #[.agg (tabC tx ax cx).toArray, .slice ay ly.length cy] W fun e W' => e = .returned (.bool true) ∧ Tr W [] W' [] := tells_con hnx hcy hny
  exact core.mono fun e W' ⟨he, hT⟩ => ⟨_, he, law_post (tb := 4) hW' rfl rfl Try.underlying4 (fun _ => rfl) laidOut (by kernel_rfl) hT.below⟩
theorem TableTells_holds : Rows.TableTellsSaid :=
  OpenClaim.holds_of_wide 7 Try.f7 rfl rfl rfl rfl rfl rfl rfl ⟨rfl, rfl, rfl, rfl, rfl⟩ rfl rfl rfl rfl rfl (by kernel_rfl) Try.func7 (by kernel_rfl)
    (of_decide_eq_true (by kernel_rfl)) (by unfold Func.isWrapper; first | (rw [if_pos (by decide +kernel)]; kernel_rfl) | (rw [if_neg (by decide +kernel)]; exact ⟨rfl, rfl⟩))
    (fun os started H enc _ => TableTells_lifted os started H enc)

end Go.Proofs.Ytdbedajaapamhaa
