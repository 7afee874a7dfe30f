/- TableBack returns true for all tables and bytes. -/
import Derived.ProofKit
import Derived.OpenShut
import Derived.SizedLaws
import Derived.Lib.SmallJoins
import Derived.Test.YtdbedajaapamhaaRows
import Derived.Test.YtdbedajaapamhaaTabO
namespace Go.Proofs.Ytdbedajaapamhaa
open Go Go.K Go.ChangeShapes Go.WideShapes Go.ChangeAt Go.RowKit Go.Joins
set_option linter.unusedVariables false
set_option linter.unusedSimpArgs false
attribute [local irreducible] Calls Ev GL GC GQ GR Code.wp
theorem own : ownKnob Try.prog.godebug = none := by kernel_rfl
theorem laidOut : laidOutB Try.prog = true := by kernel_rfl
/- turntable/turntablelaw09.TableBack -/
set_option maxHeartbeats 8000000 in
set_option maxRecDepth 100000 in
theorem back_con {t : Tab} {l : Bytes} {a a2 : Option Addr} {c c2 : Nat} {w : World} (hl : t.exts.length ≤ 9223372036854775807) (hc2 : l.length ≤ c2) (hl2 : l.length ≤ 9223372036854775807) [Old w [] a (encX) (t.exts)] [Old w [] a2 (encB) (l)] :
    Calls Try.prog 8 #[.agg (tabC t a c).toArray, .slice a2 l.length c2] w fun e w' => e = .returned (.bool true) ∧ Tr w [] w' [] := by
  refine K.enter0 (args := [_, _]) Try.func8 rfl Try.ntmps8 rfl ?_
  refine K.GC.seq ?_
  refine K.GC.region ?_
  refine K.GL.box rfl rfl rfl (fun b2 => ?_)
  refine K.GL.det (K.e_assign rfl) rfl ?_
  refine K.GL.nil ?_
  refine K.GQ.go ?_
  refine K.GC.seq ?_
  refine K.GC.region ?_
  refine K.GL.det (ev_head_con Try.call26 rfl ) rfl ?_
  refine K.GL.det (K.e_assign rfl) rfl ?_
  refine K.GL.nil ?_
  refine K.GQ.go ?_
  refine K.GC.seq ?_
  refine K.GC.seq ?_
  refine K.GC.region ?_
  first | refine K.GL.det (K.e_fa fo29_2 rfl) rfl ?_ | refine K.GL.det (K.e_fieldAddr fo29_2 rfl) rfl ?_
  first | refine K.GL.det (K.e_ldE Try.isAgg27 rfl rfl (by assumption) rfl) rfl ?_ | refine K.GL.det (K.e_ldF Try.isAgg27 rfl rfl (by assumption) rfl) rfl ?_ | refine K.GL.det (K.e_load Try.isAgg27 rfl rfl) rfl ?_ | refine K.GL.det (K.e_load0 Try.isAgg27 rfl (by assumption)) rfl ?_
  refine K.GL.det (K.e_len Try.underlying27 rfl) rfl ?_
  first | refine K.GL.det ((K.e_gt rfl rfl).yes (by first | omega | assumption | decide +kernel)) rfl ?_ | refine K.GL.det ((K.e_gt rfl rfl).no (by first | omega | assumption | decide +kernel)) rfl ?_ | refine K.GL.det (K.e_gt rfl rfl) rfl ?_
  refine K.GL.det (K.e_move rfl) rfl ?_
  first | refine K.GL.splitB 16 rfl (fun h1 => ?_) (fun h1 => ?_) | skip
  all_goals first | exact absurd h1 (by decide) | replace h1 := of_decide_eq_true h1 | replace h1 := of_decide_eq_false h1 | skip
  all_goals
    first | (refine K.GL.want 16 rfl rfl rfl ?_; first | refine K.GL.det (K.e_move rfl) rfl ?_) | refine K.GL.skip 16 rfl rfl rfl rfl ?_ | refine K.GL.skipU 16 rfl rfl rfl rfl ?_
    first | (refine K.GL.want 16 rfl rfl rfl ?_; first | refine K.GL.det (K.e_len Try.underlying37 rfl) rfl ?_) | refine K.GL.skip 16 rfl rfl rfl rfl ?_ | refine K.GL.skipU 16 rfl rfl rfl rfl ?_
    first | (refine K.GL.want 16 rfl rfl rfl ?_; first | refine K.GL.det ((K.e_gt rfl rfl).yes (by first | omega | assumption | decide +kernel)) rfl ?_ | refine K.GL.det ((K.e_gt rfl rfl).no (by first | omega | assumption | decide +kernel)) rfl ?_ | refine K.GL.det (K.e_gt rfl rfl) rfl ?_) | refine K.GL.skip 16 rfl rfl rfl rfl ?_ | refine K.GL.skipU 16 rfl rfl rfl rfl ?_
    first | refine K.GL.det (K.e_pick_t rfl rfl) rfl ?_ | refine K.GL.det (K.e_pick_f rfl rfl) rfl ?_
    refine K.GL.nil ?_
    refine K.GQ.go ?_
    refine K.GC.condB rfl (fun h2 => ?_) (fun h2 => ?_)
    · first
      | exact absurd h2 (by decide)
      | try replace h2 := of_decide_eq_true h2
        refine K.GC.seq ?_
        refine K.GC.region ?_
        refine K.GL.det (K.e_move rfl) rfl ?_
        refine K.GL.det (K.e_assign rfl) rfl ?_
        refine K.GL.nil ?_
        refine K.GQ.go ?_
        refine K.GC.ret ?_
        refine K.GQ.then_ret ?_
        refine K.GQ.ret1 Try.results8 rfl (fun w hT => ?_)
        exact ⟨rfl, hT.nil⟩
    · first
      | exact absurd h2 (by decide)
      | try replace h2 := of_decide_eq_false h2
        refine K.GC.skip ?_
        refine K.GQ.go ?_
        refine K.GC.seq ?_
        refine K.GC.region ?_
        first | refine K.GL.det (K.e_ldA Try.isAgg29 Try.sizeOf29 rfl rfl (by assumption)) rfl ?_ | refine K.GL.det (K.e_ldAF Try.isAgg29 Try.sizeOf29 rfl rfl (by assumption) rfl) rfl ?_ | refine K.GL.det (K.e_loads Try.isAgg29 Try.sizeOf29 rfl rfl) rfl ?_
        refine gl_tput_con Try.call31 rfl (by first | assumption | omega | rfl | decide) rfl (fun a23 c23 hc23 => ?_)
        refine K.GL.det (K.e_assign rfl) rfl ?_
        refine K.GL.nil ?_
        refine K.GQ.go ?_
        refine K.GC.seq ?_
        refine K.GC.seq ?_
        rcases putT_cases t with ⟨hR, hP, hlen⟩ | ⟨hR, hlen⟩
        all_goals
          refine K.GC.region ?_
          refine K.GL.det (K.e_move rfl) rfl ?_
          refine K.GL.det (K.e_len Try.underlying37 rfl) rfl ?_
          first | refine K.GL.det ((K.e_eq rfl rfl).yes (by first | omega | assumption | decide +kernel)) rfl ?_ | refine K.GL.det ((K.e_eq rfl rfl).no (by first | omega | assumption | decide +kernel)) rfl ?_ | refine K.GL.det (K.e_eq rfl rfl) rfl ?_
          first | refine K.GL.det (K.e_ldA Try.isAgg29 Try.sizeOf29 rfl rfl (by assumption)) rfl ?_ | refine K.GL.det (K.e_ldAF Try.isAgg29 Try.sizeOf29 rfl rfl (by assumption) rfl) rfl ?_ | refine K.GL.det (K.e_loads Try.isAgg29 Try.sizeOf29 rfl rfl) rfl ?_
          first | refine K.GL.det ((ev_right_con (t := t) Try.call29 rfl (by first | decide | omega)).cast_bool (b := true) hR) rfl ?_ | refine K.GL.det ((ev_right_con (t := t) Try.call29 rfl (by first | decide | omega)).cast_bool (b := false) hR) rfl ?_
          refine K.GL.det ((K.e_neb Try.underlying4 rfl rfl).cast_bool (b := false) (by first | rfl | simp)) rfl ?_
          refine K.GL.det (K.e_move rfl) rfl ?_
          first | refine K.GL.splitB 30 rfl (fun h3 => ?_) (fun h3 => ?_) | skip
          all_goals first | exact absurd h3 (by decide) | replace h3 := of_decide_eq_true h3 | replace h3 := of_decide_eq_false h3 | skip
          all_goals
            first | (refine K.GL.want 30 rfl rfl rfl ?_; first | refine K.GL.det (K.e_move rfl) rfl ?_) | refine K.GL.skip 30 rfl rfl rfl rfl ?_ | refine K.GL.skipU 30 rfl rfl rfl rfl ?_
            first | (refine K.GL.want 30 rfl rfl rfl ?_; first | refine K.GL.det (K.e_len Try.underlying37 rfl) rfl ?_) | refine K.GL.skip 30 rfl rfl rfl rfl ?_ | refine K.GL.skipU 30 rfl rfl rfl rfl ?_
            first | (refine K.GL.want 30 rfl rfl rfl ?_; first | refine K.GL.det ((K.e_ne rfl rfl).yes (by first | omega | assumption | decide +kernel)) rfl ?_ | refine K.GL.det ((K.e_ne rfl rfl).no (by first | omega | assumption | decide +kernel)) rfl ?_ | refine K.GL.det (K.e_ne rfl rfl) rfl ?_) | refine K.GL.skip 30 rfl rfl rfl rfl ?_ | refine K.GL.skipU 30 rfl rfl rfl rfl ?_
            first | (refine K.GL.want 30 rfl rfl rfl ?_; first | refine K.GL.det (K.e_move rfl) rfl ?_) | refine K.GL.skip 30 rfl rfl rfl rfl ?_ | refine K.GL.skipU 30 rfl rfl rfl rfl ?_
            first | refine K.GL.splitB 34 rfl (fun h4 => ?_) (fun h4 => ?_) | skip
            all_goals first | exact absurd h4 (by decide) | replace h4 := of_decide_eq_true h4 | replace h4 := of_decide_eq_false h4 | skip
            all_goals
              first | (refine K.GL.want 34 rfl rfl rfl ?_; first | refine K.GL.det (K.e_move rfl) rfl ?_) | refine K.GL.skip 34 rfl rfl rfl rfl ?_ | refine K.GL.skipU 34 rfl rfl rfl rfl ?_
              first | (refine K.GL.want 34 rfl rfl rfl ?_; first | refine K.GL.det (K.e_len Try.underlying37 rfl) rfl ?_) | refine K.GL.skip 34 rfl rfl rfl rfl ?_ | refine K.GL.skipU 34 rfl rfl rfl rfl ?_
              first | (refine K.GL.want 34 rfl rfl rfl ?_; first | refine K.GL.det ((K.e_ne rfl rfl).yes (by first | omega | assumption | decide +kernel)) rfl ?_ | refine K.GL.det ((K.e_ne rfl rfl).no (by first | omega | assumption | decide +kernel)) rfl ?_ | refine K.GL.det (K.e_ne rfl rfl) rfl ?_) | refine K.GL.skip 34 rfl rfl rfl rfl ?_ | refine K.GL.skipU 34 rfl rfl rfl rfl ?_
              first | (refine K.GL.want 30 rfl rfl rfl ?_; first | refine K.GL.det (K.e_pick_t rfl rfl) rfl ?_ | refine K.GL.det (K.e_pick_f rfl rfl) rfl ?_) | refine K.GL.skip 30 rfl rfl rfl rfl ?_ | refine K.GL.skipU 30 rfl rfl rfl rfl ?_
              first | refine K.GL.det (K.e_pick_t rfl rfl) rfl ?_ | refine K.GL.det (K.e_pick_f rfl rfl) rfl ?_
              refine K.GL.nil ?_
              refine K.GQ.go ?_
              refine K.GC.condB rfl (fun h5 => ?_) (fun h5 => ?_)
              · first
                | exact absurd h5 (by decide)
                | try replace h5 := of_decide_eq_true h5
                  refine K.GC.seq ?_
                  refine K.GC.region ?_
                  refine K.GL.det (K.e_assign rfl) rfl ?_
                  refine K.GL.nil ?_
                  refine K.GQ.go ?_
                  refine K.GC.ret ?_
                  refine K.GQ.then_ret ?_
                  refine K.GQ.ret1 Try.results8 rfl (fun w hT => ?_)
                  exact ⟨rfl, hT.nil⟩
              · first
                | exact absurd h5 (by decide)
                | try replace h5 := of_decide_eq_false h5
                  refine K.GC.skip ?_
                  refine K.GQ.go ?_
                  refine K.GC.seq ?_
                  refine K.GC.seq ?_
                  refine K.GC.region ?_
                  refine K.GL.det (K.e_move rfl) rfl ?_
                  refine K.GL.det (K.e_len Try.underlying37 rfl) rfl ?_
                  first | refine K.GL.det ((K.e_eq rfl rfl).yes (by first | omega | assumption | decide +kernel)) rfl ?_ | refine K.GL.det ((K.e_eq rfl rfl).no (by first | omega | assumption | decide +kernel)) rfl ?_ | refine K.GL.det (K.e_eq rfl rfl) rfl ?_
                  refine K.GL.nil ?_
                  refine K.GQ.go ?_
                  refine K.GC.condB rfl (fun h6 => ?_) (fun h6 => ?_)
                  · first
                    | exact absurd h6 (by decide)
                    | try replace h6 := of_decide_eq_true h6
                      refine K.GC.seq ?_
                      refine K.GC.region ?_
                      refine K.GL.det (K.e_move rfl) rfl ?_
                      refine gl_tget_con Try.call27 rfl (by first | assumption | omega | rfl | decide) (by first | assumption | omega | rfl | decide) rfl (fun a45 c45 => ?_)
                      rw [getB_put hP, getT_put hP]
                      refine K.GL.det (K.e_move rfl) rfl ?_
                      refine K.GL.det (K.e_extract rfl rfl) rfl ?_
                      refine K.GL.det (K.e_extract rfl rfl) rfl ?_
                      refine K.GL.alloc Try.zeroValue29 rfl rfl (fun b7 => ?_)
                      refine K.GL.storeP (vs := tabC t a45 c45) (cs' := tabC t a45 c45) rfl rfl rfl Try.sizeOf29 rfl rfl (by exact spliceO_all rfl) ?_
                      refine K.GL.det (K.e_assign rfl) rfl ?_
                      refine K.GL.nil ?_
                      refine K.GQ.go ?_
                      refine K.GC.seq ?_
                      refine K.GC.region ?_
                      refine K.GL.det (K.e_move rfl) rfl ?_
                      first | refine K.GL.det (K.e_notp rfl) rfl ?_ | refine K.GL.det (K.e_not rfl) rfl ?_
                      refine K.GL.det (K.e_move rfl) rfl ?_
                      first | refine K.GL.splitB 50 rfl (fun h7 => ?_) (fun h7 => ?_) | skip
                      all_goals first | exact absurd h7 (by decide) | replace h7 := of_decide_eq_true h7 | replace h7 := of_decide_eq_false h7 | skip
                      all_goals
                        first | (refine K.GL.want 50 rfl rfl rfl ?_; first | refine K.GL.det (K.e_ldA Try.isAgg29 Try.sizeOf29 rfl rfl (by assumption)) rfl ?_ | refine K.GL.det (K.e_ldAF Try.isAgg29 Try.sizeOf29 rfl rfl (by assumption) rfl) rfl ?_ | refine K.GL.det (K.e_loads Try.isAgg29 Try.sizeOf29 rfl rfl) rfl ?_) | refine K.GL.skip 50 rfl rfl rfl rfl ?_ | refine K.GL.skipU 50 rfl rfl rfl rfl ?_
                        first | (refine K.GL.want 50 rfl rfl rfl ?_; first | refine K.GL.det (K.e_ldA Try.isAgg29 Try.sizeOf29 rfl rfl (by assumption)) rfl ?_ | refine K.GL.det (K.e_ldAF Try.isAgg29 Try.sizeOf29 rfl rfl (by assumption) rfl) rfl ?_ | refine K.GL.det (K.e_loads Try.isAgg29 Try.sizeOf29 rfl rfl) rfl ?_) | refine K.GL.skip 50 rfl rfl rfl rfl ?_ | refine K.GL.skipU 50 rfl rfl rfl rfl ?_
                        first | (refine K.GL.want 50 rfl rfl rfl ?_; first | refine K.GL.det ((ev_rsame_con (t := t) (u := t) Try.call18 rfl (by first | assumption | exact getT_len _ | (simp; done)) (by first | assumption | exact getT_len _ | (simp; done))).cast_bool (b := true) (decide_eq_true rfl)) rfl ?_) | refine K.GL.skip 50 rfl rfl rfl rfl ?_ | refine K.GL.skipU 50 rfl rfl rfl rfl ?_
                        first | (refine K.GL.want 50 rfl rfl rfl ?_; first | refine K.GL.det (K.e_notp rfl) rfl ?_ | refine K.GL.det (K.e_not rfl) rfl ?_) | refine K.GL.skip 50 rfl rfl rfl rfl ?_ | refine K.GL.skipU 50 rfl rfl rfl rfl ?_
                        first | refine K.GL.det (K.e_pick_t rfl rfl) rfl ?_ | refine K.GL.det (K.e_pick_f rfl rfl) rfl ?_
                        refine K.GL.nil ?_
                        refine K.GQ.go ?_
                        refine K.GC.condB rfl (fun h8 => ?_) (fun h8 => ?_)
                        · first
                          | exact absurd h8 (by decide)
                          | try replace h8 := of_decide_eq_true h8
                            refine K.GC.seq ?_
                            refine K.GC.region ?_
                            refine K.GL.det (K.e_assign rfl) rfl ?_
                            refine K.GL.nil ?_
                            refine K.GQ.go ?_
                            refine K.GC.ret ?_
                            refine K.GQ.then_ret ?_
                            refine K.GQ.ret1 Try.results8 rfl (fun w hT => ?_)
                            exact ⟨rfl, hT.nil⟩
                        · first
                          | exact absurd h8 (by decide)
                          | try replace h8 := of_decide_eq_false h8
                            refine K.GC.skip ?_
                            refine K.GQ.go ?_
                            refine K.GC.seq ?_
                            refine K.GC.region ?_
                            refine K.GL.det (K.e_move rfl) rfl ?_
                            refine gl_tget_con Try.call27 rfl (by first | assumption | omega | rfl | decide) (by first | assumption | omega | rfl | decide) rfl (fun a58 c58 => ?_)
                            refine K.GL.det (K.e_move rfl) rfl ?_
                            refine K.GL.det (K.e_extract rfl rfl) rfl ?_
                            refine K.GL.det (K.e_extract rfl rfl) rfl ?_
                            refine K.GL.alloc Try.zeroValue29 rfl rfl (fun b9 => ?_)
                            refine K.GL.storeP (vs := tabC (getT l) a58 c58) (cs' := tabC (getT l) a58 c58) rfl rfl rfl Try.sizeOf29 rfl rfl (by exact spliceO_all rfl) ?_
                            refine K.GL.det (K.e_assign rfl) rfl ?_
                            refine K.GL.nil ?_
                            refine K.GQ.go ?_
                            refine K.GC.seq ?_
                            have hn0 : ∀ F, RdC w [] [] F none encX [] := fun F => rdc_nil encX
                            cases hgb : getB l
                            all_goals
                              refine K.D.GC.drawn0 25 [[], [0], [0, 1], [0, 1, 2], [0, 1, 2, 3], [0, 1, 2, 3, 4], [0, 1, 2, 3, 4], [0, 1, 2, 3, 4, 5, 6], [0, 1, 2, 3, 4, 5, 6, 7], [0, 1, 2, 3, 4, 5, 6, 7, 8], [0, 1, 2, 3, 4, 5, 6, 7, 8, 9], [0, 1, 2, 3, 4, 5, 6, 7, 8, 9, 10], [0, 1, 2, 3, 4, 5, 6, 7, 8, 9, 10, 11], [0, 1, 2, 3, 4, 5, 6, 7, 8, 9, 10, 11, 12], [0, 1, 2, 3, 4, 5, 6, 7, 8, 9, 10, 11, 12, 13], [0, 1, 2, 3, 4, 5, 6, 7, 8, 9, 10, 11, 12, 13, 14], [0, 1, 2, 3, 4, 5, 6, 7, 8, 9, 10, 11, 12, 13, 14, 15], [0, 1, 2, 3, 4, 5, 6, 7, 8, 9, 10, 11, 12, 13, 14, 15, 16], [0, 1, 2, 3, 4, 5, 6, 7, 8, 9, 10, 11, 12, 13, 14, 15, 16, 17], [0, 1, 2, 3, 4, 5, 6, 7, 8, 9, 10, 11, 12, 13, 14, 15], [0, 1, 2, 3, 4, 5, 6, 7, 8, 9, 10, 11, 12, 13, 14, 15, 19], [0, 1, 2, 3, 4, 5, 6, 7, 8, 9, 10, 11, 12, 13, 14, 15, 16, 17, 18, 19, 20], [0, 1, 2, 3, 4, 5, 6, 7, 8, 9, 10, 11, 12, 13, 14, 15, 16, 17, 18, 19, 20, 21], [0, 1, 2, 3, 4, 5, 6, 7, 8, 9, 10, 11, 12, 13, 14, 15, 16, 17, 18, 19, 20, 21, 22], [0, 1, 2, 3, 4, 5, 6, 7, 8, 9, 10, 11, 12, 13, 14, 15, 16, 17, 18, 19, 20, 21, 22, 23], [0, 1, 2, 3, 4, 5, 6, 7, 8, 9, 10, 11, 12, 13, 14, 15, 16, 17, 18, 19, 20, 21, 22, 23, 24]] [[], [0], [1], [1, 2], [1, 3], [4], [4], [4, 5, 6], [1, 4, 7], [1, 8], [9], [9, 10], [11], [11, 12], [9, 11, 13], [9, 14], [15], [15, 16], [15, 17], [15], [15, 19], [15, 18, 20], [9, 15, 21], [1, 9, 22], [1, 23]] [[], [], [], [], [], [], [], [], [], [], [], [], [], [], [], [], [], [], [17], [], [], [], [], [], []] [[], [], [], [], [], [], [], [], [], [], [], [], [], [], [], [], [], [], [], [], [], [], [], [], []] [] [1, 4, 5, 9, 10] (by kernel_rfl) (by kernel_rfl) (by kernel_rfl) rfl ?_
                              refine K.D.DW.det (b := []) (u := []) rfl rfl rfl (fun vs hf => K.e_move rfl) ?_
                              refine K.D.DW.det (b := [0]) (u := []) rfl rfl rfl (fun vs hf => K.e_move rfl) ?_
                              first | (refine K.D.DW.want (b := [1]) rfl (fun _ => rfl) ?_; first | refine K.D.DW.det (b := [1]) (u := []) rfl rfl rfl (fun vs hf => K.e_move rfl) ?_) | refine K.D.DW.skip (b := [1]) rfl rfl (fun _ => rfl) ?_
                              first | (refine K.D.DW.want (b := [1, 2]) rfl (fun _ => rfl) ?_; first | refine K.D.DW.det (b := [1, 2]) (u := []) rfl rfl rfl (fun vs hf => K.e_notp rfl) ?_ | refine K.D.DW.det (b := [1, 2]) (u := []) rfl rfl rfl (fun vs hf => K.e_not rfl) ?_) | refine K.D.DW.skip (b := [1, 2]) rfl rfl (fun _ => rfl) ?_
                              first | (refine K.D.DW.want (b := [1, 3]) rfl (fun _ => rfl) ?_; first | refine K.D.DW.det (b := [1, 3]) (u := []) rfl rfl rfl (fun vs hf => K.e_move rfl) ?_) | refine K.D.DW.skip (b := [1, 3]) rfl rfl (fun _ => rfl) ?_
                              first | (refine K.D.DW.want (b := [4]) rfl (fun _ => rfl) ?_; first | refine K.D.DW.det (b := [4]) (u := []) rfl rfl rfl (fun vs hf => K.e_ldA Try.isAgg29 Try.sizeOf29 rfl rfl (by assumption)) ?_ | refine K.D.DW.det (b := [4]) (u := []) rfl rfl rfl (fun vs hf => K.e_ldAF Try.isAgg29 Try.sizeOf29 rfl rfl (by assumption) rfl) ?_ | refine K.D.DW.det (b := [4]) (u := []) rfl rfl rfl (fun vs hf => K.e_loads Try.isAgg29 Try.sizeOf29 rfl rfl) ?_) | refine K.D.DW.skip (b := [4]) rfl rfl (fun _ => rfl) ?_
                              first | (refine K.D.DW.want (b := [4]) rfl (fun _ => rfl) ?_; first | refine K.D.DW.det (b := [4]) (u := []) rfl rfl rfl (fun vs hf => K.e_build lay29 rfl) ?_) | refine K.D.DW.skip (b := [4]) rfl rfl (fun _ => rfl) ?_
                              first | (refine K.D.DW.want (b := [4, 5, 6]) rfl (fun _ => rfl) ?_; first | refine K.D.DW.det (b := [4, 5, 6]) (u := []) rfl rfl rfl (fun vs hf => (ev_rsame_con (t := (getT l)) (u := ⟨0, 0, []⟩) (a2 := none) (c2 := 0) Try.call18 rfl (by first | assumption | exact getT_len _ | (simp; done)) (by first | assumption | exact getT_len _ | (simp; done))).cast_bool (b := true) (decide_eq_true (getT_no hgb))) ?_) | refine K.D.DW.skip (b := [4, 5, 6]) rfl rfl (fun _ => rfl) ?_
                              first | (refine K.D.DW.want (b := [1, 4, 7]) rfl (fun _ => rfl) ?_; first | refine K.D.DW.det (b := [1, 4, 7]) (u := []) rfl rfl rfl (fun vs hf => K.e_pick_t rfl rfl) ?_ | refine K.D.DW.det (b := [1, 4, 7]) (u := []) rfl rfl rfl (fun vs hf => K.e_pick_f rfl rfl) ?_) | refine K.D.DW.skip (b := [1, 4, 7]) rfl rfl (fun _ => rfl) ?_
                              first | (refine K.D.DW.want (b := [1, 8]) rfl (fun _ => rfl) ?_; first | refine K.D.DW.det (b := [1, 8]) (u := []) rfl rfl rfl (fun vs hf => K.e_move rfl) ?_) | refine K.D.DW.skip (b := [1, 8]) rfl rfl (fun _ => rfl) ?_
                              first | (refine K.D.DW.want (b := [9]) rfl (fun _ => rfl) ?_; first | refine K.D.DW.det (b := [9]) (u := []) rfl rfl rfl (fun vs hf => K.e_move rfl) ?_) | refine K.D.DW.skip (b := [9]) rfl rfl (fun _ => rfl) ?_
                              first | (refine K.D.DW.want (b := [9, 10]) rfl (fun _ => rfl) ?_; first | refine K.D.DW.det (b := [9, 10]) (u := []) rfl rfl rfl (fun vs hf => K.e_move rfl) ?_) | refine K.D.DW.skip (b := [9, 10]) rfl rfl (fun _ => rfl) ?_
                              first | (refine K.D.DW.want (b := [11]) rfl (fun _ => rfl) ?_; first | refine K.D.DW.det (b := [11]) (u := []) rfl rfl rfl (fun vs hf => K.e_ldA Try.isAgg29 Try.sizeOf29 rfl rfl (by assumption)) ?_ | refine K.D.DW.det (b := [11]) (u := []) rfl rfl rfl (fun vs hf => K.e_ldAF Try.isAgg29 Try.sizeOf29 rfl rfl (by assumption) rfl) ?_ | refine K.D.DW.det (b := [11]) (u := []) rfl rfl rfl (fun vs hf => K.e_loads Try.isAgg29 Try.sizeOf29 rfl rfl) ?_) | refine K.D.DW.skip (b := [11]) rfl rfl (fun _ => rfl) ?_
                              first | (refine K.D.DW.want (b := [11, 12]) rfl (fun _ => rfl) ?_; first | refine K.D.DW.det (b := [11, 12]) (u := []) rfl rfl rfl (fun vs hf => (ev_right_con (t := getT l) Try.call29 rfl (getT_len l)).cast_bool (b := true) ((right_iff _).2 (getB_right hgb).2.2)) ?_) | refine K.D.DW.skip (b := [11, 12]) rfl rfl (fun _ => rfl) ?_
                              first | (refine K.D.DW.want (b := [9, 11, 13]) rfl (fun _ => rfl) ?_; first | refine K.D.DW.det (b := [9, 11, 13]) (u := []) rfl rfl rfl (fun vs hf => K.e_pick_t rfl rfl) ?_ | refine K.D.DW.det (b := [9, 11, 13]) (u := []) rfl rfl rfl (fun vs hf => K.e_pick_f rfl rfl) ?_) | refine K.D.DW.skip (b := [9, 11, 13]) rfl rfl (fun _ => rfl) ?_
                              first | (refine K.D.DW.want (b := [9, 14]) rfl (fun _ => rfl) ?_; first | refine K.D.DW.det (b := [9, 14]) (u := []) rfl rfl rfl (fun vs hf => K.e_move rfl) ?_) | refine K.D.DW.skip (b := [9, 14]) rfl rfl (fun _ => rfl) ?_
                              first | (refine K.D.DW.want (b := [15]) rfl (fun _ => rfl) ?_; first | refine K.D.DW.det (b := [15]) (u := []) rfl rfl rfl (fun vs hf => K.e_ldA Try.isAgg29 Try.sizeOf29 rfl rfl (by assumption)) ?_ | refine K.D.DW.det (b := [15]) (u := []) rfl rfl rfl (fun vs hf => K.e_ldAF Try.isAgg29 Try.sizeOf29 rfl rfl (by assumption) rfl) ?_ | refine K.D.DW.det (b := [15]) (u := []) rfl rfl rfl (fun vs hf => K.e_loads Try.isAgg29 Try.sizeOf29 rfl rfl) ?_) | refine K.D.DW.skip (b := [15]) rfl rfl (fun _ => rfl) ?_
                              first | (refine K.D.DW.want (b := [15, 16]) rfl (fun _ => rfl) ?_; first | refine K.D.DW.ev0 (b := [15, 16]) (u := []) (a := []) rfl rfl rfl (fun vs hf => show K.D.EvM _ _ _ _ (_) [] _ _ _ _ _ from em_tput_con Try.call31 rfl (getT_len l)) ?_) | refine K.D.DW.skip (b := [15, 16]) rfl rfl (fun _ => rfl) ?_
                              first | (refine K.D.DW.want (b := [15, 17]) rfl (fun _ => rfl) ?_; first | refine K.D.DW.det (b := [15, 17]) (u := [17]) rfl rfl rfl (fun vs ⟨hf78, _⟩ => show K.Ev _ _ _ _ (_ :: _) _ _ _ _ from K.e_str Try.underlying37 Try.underlying5 Try.underlying9 rfl rfl) ?_ | refine K.D.DW.det (b := [15, 17]) (u := [17]) rfl rfl rfl (fun vs ⟨hf78, _⟩ => show K.Ev _ _ _ _ (_ :: _) _ _ _ _ from K.e_b2s Try.underlying37 Try.underlying5 Try.underlying9 rfl (by first | assumption | omega | rfl | simp [*])) ?_) | refine K.D.DW.skip (b := [15, 17]) rfl rfl (fun _ => rfl) ?_
                              first | (refine K.D.DW.want (b := [15]) rfl (fun _ => rfl) ?_; first | refine K.D.DW.det (b := [15]) (u := []) rfl rfl rfl (fun vs hf => K.e_move rfl) ?_) | refine K.D.DW.skip (b := [15]) rfl rfl (fun _ => rfl) ?_
                              first | (refine K.D.DW.want (b := [15, 19]) rfl (fun _ => rfl) ?_; first | refine K.D.DW.det (b := [15, 19]) (u := []) rfl rfl rfl (fun vs hf => K.e_str Try.underlying37 Try.underlying5 Try.underlying9 rfl rfl) ?_ | refine K.D.DW.det (b := [15, 19]) (u := []) rfl rfl rfl (fun vs hf => K.e_b2s Try.underlying37 Try.underlying5 Try.underlying9 rfl (by first | assumption | omega | rfl | simp [*])) ?_) | refine K.D.DW.skip (b := [15, 19]) rfl rfl (fun _ => rfl) ?_
                              first | (refine K.D.DW.want (b := [15, 18, 20]) rfl (fun _ => rfl) ?_; first | refine K.D.DW.det (b := [15, 18, 20]) (u := []) rfl rfl rfl (fun vs hf => (K.e_eqs Try.underlying9 rfl rfl).yes (getB_right hgb).2.1) ?_) | refine K.D.DW.skip (b := [15, 18, 20]) rfl rfl (fun _ => rfl) ?_
                              first | (refine K.D.DW.want (b := [9, 15, 21]) rfl (fun _ => rfl) ?_; first | refine K.D.DW.det (b := [9, 15, 21]) (u := []) rfl rfl rfl (fun vs hf => K.e_pick_t rfl rfl) ?_ | refine K.D.DW.det (b := [9, 15, 21]) (u := []) rfl rfl rfl (fun vs hf => K.e_pick_f rfl rfl) ?_) | refine K.D.DW.skip (b := [9, 15, 21]) rfl rfl (fun _ => rfl) ?_
                              first | (refine K.D.DW.want (b := [1, 9, 22]) rfl (fun _ => rfl) ?_; first | refine K.D.DW.det (b := [1, 9, 22]) (u := []) rfl rfl rfl (fun vs hf => K.e_pick_t rfl rfl) ?_ | refine K.D.DW.det (b := [1, 9, 22]) (u := []) rfl rfl rfl (fun vs hf => K.e_pick_f rfl rfl) ?_) | refine K.D.DW.skip (b := [1, 9, 22]) rfl rfl (fun _ => rfl) ?_
                              first | refine K.D.DW.det (b := [1, 23]) (u := []) rfl rfl rfl (fun vs hf => K.e_pick_t rfl rfl) ?_ | refine K.D.DW.det (b := [1, 23]) (u := []) rfl rfl rfl (fun vs hf => K.e_pick_f rfl rfl) ?_
                              refine K.D.DW.fin (fun vs hf => ?_)
                              refine K.GL.keep [4, 85] rfl ?_
                              refine K.D.GL.res0 rfl ?_
                              clear hf
                              try clear vs
                              refine K.GL.det (K.e_assign rfl) rfl ?_
                              refine K.GL.nil ?_
                              refine K.GQ.go ?_
                              refine K.GC.ret ?_
                              refine K.GQ.ret1 Try.results8 rfl (fun w hT => ?_)
                              exact ⟨rfl, hT.nil⟩
                  · first
                    | exact absurd h6 (by decide)
                    | try replace h6 := of_decide_eq_false h6
                      refine K.GC.skip ?_
                      refine K.GQ.go ?_
                      refine K.GC.seq ?_
                      refine K.GC.region ?_
                      refine K.GL.det (K.e_move rfl) rfl ?_
                      refine gl_tget_con Try.call27 rfl (by first | assumption | omega | rfl | decide) (by first | assumption | omega | rfl | decide) rfl (fun a58 c58 => ?_)
                      refine K.GL.det (K.e_move rfl) rfl ?_
                      refine K.GL.det (K.e_extract rfl rfl) rfl ?_
                      refine K.GL.det (K.e_extract rfl rfl) rfl ?_
                      refine K.GL.alloc Try.zeroValue29 rfl rfl (fun b9 => ?_)
                      refine K.GL.storeP (vs := tabC (getT l) a58 c58) (cs' := tabC (getT l) a58 c58) rfl rfl rfl Try.sizeOf29 rfl rfl (by exact spliceO_all rfl) ?_
                      refine K.GL.det (K.e_assign rfl) rfl ?_
                      refine K.GL.nil ?_
                      refine K.GQ.go ?_
                      refine K.GC.seq ?_
                      have hn0 : ∀ F, RdC w [] [] F none encX [] := fun F => rdc_nil encX
                      cases hgb : getB l
                      all_goals
                        refine K.D.GC.drawn0 25 [[], [0], [0, 1], [0, 1, 2], [0, 1, 2, 3], [0, 1, 2, 3, 4], [0, 1, 2, 3, 4], [0, 1, 2, 3, 4, 5, 6], [0, 1, 2, 3, 4, 5, 6, 7], [0, 1, 2, 3, 4, 5, 6, 7, 8], [0, 1, 2, 3, 4, 5, 6, 7, 8, 9], [0, 1, 2, 3, 4, 5, 6, 7, 8, 9, 10], [0, 1, 2, 3, 4, 5, 6, 7, 8, 9, 10, 11], [0, 1, 2, 3, 4, 5, 6, 7, 8, 9, 10, 11, 12], [0, 1, 2, 3, 4, 5, 6, 7, 8, 9, 10, 11, 12, 13], [0, 1, 2, 3, 4, 5, 6, 7, 8, 9, 10, 11, 12, 13, 14], [0, 1, 2, 3, 4, 5, 6, 7, 8, 9, 10, 11, 12, 13, 14, 15], [0, 1, 2, 3, 4, 5, 6, 7, 8, 9, 10, 11, 12, 13, 14, 15, 16], [0, 1, 2, 3, 4, 5, 6, 7, 8, 9, 10, 11, 12, 13, 14, 15, 16, 17], [0, 1, 2, 3, 4, 5, 6, 7, 8, 9, 10, 11, 12, 13, 14, 15], [0, 1, 2, 3, 4, 5, 6, 7, 8, 9, 10, 11, 12, 13, 14, 15, 19], [0, 1, 2, 3, 4, 5, 6, 7, 8, 9, 10, 11, 12, 13, 14, 15, 16, 17, 18, 19, 20], [0, 1, 2, 3, 4, 5, 6, 7, 8, 9, 10, 11, 12, 13, 14, 15, 16, 17, 18, 19, 20, 21], [0, 1, 2, 3, 4, 5, 6, 7, 8, 9, 10, 11, 12, 13, 14, 15, 16, 17, 18, 19, 20, 21, 22], [0, 1, 2, 3, 4, 5, 6, 7, 8, 9, 10, 11, 12, 13, 14, 15, 16, 17, 18, 19, 20, 21, 22, 23], [0, 1, 2, 3, 4, 5, 6, 7, 8, 9, 10, 11, 12, 13, 14, 15, 16, 17, 18, 19, 20, 21, 22, 23, 24]] [[], [0], [1], [1, 2], [1, 3], [4], [4], [4, 5, 6], [1, 4, 7], [1, 8], [9], [9, 10], [11], [11, 12], [9, 11, 13], [9, 14], [15], [15, 16], [15, 17], [15], [15, 19], [15, 18, 20], [9, 15, 21], [1, 9, 22], [1, 23]] [[], [], [], [], [], [], [], [], [], [], [], [], [], [], [], [], [], [], [17], [], [], [], [], [], []] [[], [], [], [], [], [], [], [], [], [], [], [], [], [], [], [], [], [], [], [], [], [], [], [], []] [] [1, 4, 5, 9, 10] (by kernel_rfl) (by kernel_rfl) (by kernel_rfl) rfl ?_
                        refine K.D.DW.det (b := []) (u := []) rfl rfl rfl (fun vs hf => K.e_move rfl) ?_
                        refine K.D.DW.det (b := [0]) (u := []) rfl rfl rfl (fun vs hf => K.e_move rfl) ?_
                        first | (refine K.D.DW.want (b := [1]) rfl (fun _ => rfl) ?_; first | refine K.D.DW.det (b := [1]) (u := []) rfl rfl rfl (fun vs hf => K.e_move rfl) ?_) | refine K.D.DW.skip (b := [1]) rfl rfl (fun _ => rfl) ?_
                        first | (refine K.D.DW.want (b := [1, 2]) rfl (fun _ => rfl) ?_; first | refine K.D.DW.det (b := [1, 2]) (u := []) rfl rfl rfl (fun vs hf => K.e_notp rfl) ?_ | refine K.D.DW.det (b := [1, 2]) (u := []) rfl rfl rfl (fun vs hf => K.e_not rfl) ?_) | refine K.D.DW.skip (b := [1, 2]) rfl rfl (fun _ => rfl) ?_
                        first | (refine K.D.DW.want (b := [1, 3]) rfl (fun _ => rfl) ?_; first | refine K.D.DW.det (b := [1, 3]) (u := []) rfl rfl rfl (fun vs hf => K.e_move rfl) ?_) | refine K.D.DW.skip (b := [1, 3]) rfl rfl (fun _ => rfl) ?_
                        first | (refine K.D.DW.want (b := [4]) rfl (fun _ => rfl) ?_; first | refine K.D.DW.det (b := [4]) (u := []) rfl rfl rfl (fun vs hf => K.e_ldA Try.isAgg29 Try.sizeOf29 rfl rfl (by assumption)) ?_ | refine K.D.DW.det (b := [4]) (u := []) rfl rfl rfl (fun vs hf => K.e_ldAF Try.isAgg29 Try.sizeOf29 rfl rfl (by assumption) rfl) ?_ | refine K.D.DW.det (b := [4]) (u := []) rfl rfl rfl (fun vs hf => K.e_loads Try.isAgg29 Try.sizeOf29 rfl rfl) ?_) | refine K.D.DW.skip (b := [4]) rfl rfl (fun _ => rfl) ?_
                        first | (refine K.D.DW.want (b := [4]) rfl (fun _ => rfl) ?_; first | refine K.D.DW.det (b := [4]) (u := []) rfl rfl rfl (fun vs hf => K.e_build lay29 rfl) ?_) | refine K.D.DW.skip (b := [4]) rfl rfl (fun _ => rfl) ?_
                        first | (refine K.D.DW.want (b := [4, 5, 6]) rfl (fun _ => rfl) ?_; first | refine K.D.DW.det (b := [4, 5, 6]) (u := []) rfl rfl rfl (fun vs hf => (ev_rsame_con (t := (getT l)) (u := ⟨0, 0, []⟩) (a2 := none) (c2 := 0) Try.call18 rfl (by first | assumption | exact getT_len _ | (simp; done)) (by first | assumption | exact getT_len _ | (simp; done))).cast_bool (b := true) (decide_eq_true (getT_no hgb))) ?_) | refine K.D.DW.skip (b := [4, 5, 6]) rfl rfl (fun _ => rfl) ?_
                        first | (refine K.D.DW.want (b := [1, 4, 7]) rfl (fun _ => rfl) ?_; first | refine K.D.DW.det (b := [1, 4, 7]) (u := []) rfl rfl rfl (fun vs hf => K.e_pick_t rfl rfl) ?_ | refine K.D.DW.det (b := [1, 4, 7]) (u := []) rfl rfl rfl (fun vs hf => K.e_pick_f rfl rfl) ?_) | refine K.D.DW.skip (b := [1, 4, 7]) rfl rfl (fun _ => rfl) ?_
                        first | (refine K.D.DW.want (b := [1, 8]) rfl (fun _ => rfl) ?_; first | refine K.D.DW.det (b := [1, 8]) (u := []) rfl rfl rfl (fun vs hf => K.e_move rfl) ?_) | refine K.D.DW.skip (b := [1, 8]) rfl rfl (fun _ => rfl) ?_
                        first | (refine K.D.DW.want (b := [9]) rfl (fun _ => rfl) ?_; first | refine K.D.DW.det (b := [9]) (u := []) rfl rfl rfl (fun vs hf => K.e_move rfl) ?_) | refine K.D.DW.skip (b := [9]) rfl rfl (fun _ => rfl) ?_
                        first | (refine K.D.DW.want (b := [9, 10]) rfl (fun _ => rfl) ?_; first | refine K.D.DW.det (b := [9, 10]) (u := []) rfl rfl rfl (fun vs hf => K.e_move rfl) ?_) | refine K.D.DW.skip (b := [9, 10]) rfl rfl (fun _ => rfl) ?_
                        first | (refine K.D.DW.want (b := [11]) rfl (fun _ => rfl) ?_; first | refine K.D.DW.det (b := [11]) (u := []) rfl rfl rfl (fun vs hf => K.e_ldA Try.isAgg29 Try.sizeOf29 rfl rfl (by assumption)) ?_ | refine K.D.DW.det (b := [11]) (u := []) rfl rfl rfl (fun vs hf => K.e_ldAF Try.isAgg29 Try.sizeOf29 rfl rfl (by assumption) rfl) ?_ | refine K.D.DW.det (b := [11]) (u := []) rfl rfl rfl (fun vs hf => K.e_loads Try.isAgg29 Try.sizeOf29 rfl rfl) ?_) | refine K.D.DW.skip (b := [11]) rfl rfl (fun _ => rfl) ?_
                        first | (refine K.D.DW.want (b := [11, 12]) rfl (fun _ => rfl) ?_; first | refine K.D.DW.det (b := [11, 12]) (u := []) rfl rfl rfl (fun vs hf => (ev_right_con (t := getT l) Try.call29 rfl (getT_len l)).cast_bool (b := true) ((right_iff _).2 (getB_right hgb).2.2)) ?_) | refine K.D.DW.skip (b := [11, 12]) rfl rfl (fun _ => rfl) ?_
                        first | (refine K.D.DW.want (b := [9, 11, 13]) rfl (fun _ => rfl) ?_; first | refine K.D.DW.det (b := [9, 11, 13]) (u := []) rfl rfl rfl (fun vs hf => K.e_pick_t rfl rfl) ?_ | refine K.D.DW.det (b := [9, 11, 13]) (u := []) rfl rfl rfl (fun vs hf => K.e_pick_f rfl rfl) ?_) | refine K.D.DW.skip (b := [9, 11, 13]) rfl rfl (fun _ => rfl) ?_
                        first | (refine K.D.DW.want (b := [9, 14]) rfl (fun _ => rfl) ?_; first | refine K.D.DW.det (b := [9, 14]) (u := []) rfl rfl rfl (fun vs hf => K.e_move rfl) ?_) | refine K.D.DW.skip (b := [9, 14]) rfl rfl (fun _ => rfl) ?_
                        first | (refine K.D.DW.want (b := [15]) rfl (fun _ => rfl) ?_; first | refine K.D.DW.det (b := [15]) (u := []) rfl rfl rfl (fun vs hf => K.e_ldA Try.isAgg29 Try.sizeOf29 rfl rfl (by assumption)) ?_ | refine K.D.DW.det (b := [15]) (u := []) rfl rfl rfl (fun vs hf => K.e_ldAF Try.isAgg29 Try.sizeOf29 rfl rfl (by assumption) rfl) ?_ | refine K.D.DW.det (b := [15]) (u := []) rfl rfl rfl (fun vs hf => K.e_loads Try.isAgg29 Try.sizeOf29 rfl rfl) ?_) | refine K.D.DW.skip (b := [15]) rfl rfl (fun _ => rfl) ?_
                        first | (refine K.D.DW.want (b := [15, 16]) rfl (fun _ => rfl) ?_; first | refine K.D.DW.ev0 (b := [15, 16]) (u := []) (a := []) rfl rfl rfl (fun vs hf => show K.D.EvM _ _ _ _ (_) [] _ _ _ _ _ from em_tput_con Try.call31 rfl (getT_len l)) ?_) | refine K.D.DW.skip (b := [15, 16]) rfl rfl (fun _ => rfl) ?_
                        first | (refine K.D.DW.want (b := [15, 17]) rfl (fun _ => rfl) ?_; first | refine K.D.DW.det (b := [15, 17]) (u := [17]) rfl rfl rfl (fun vs ⟨hf78, _⟩ => show K.Ev _ _ _ _ (_ :: _) _ _ _ _ from K.e_str Try.underlying37 Try.underlying5 Try.underlying9 rfl rfl) ?_ | refine K.D.DW.det (b := [15, 17]) (u := [17]) rfl rfl rfl (fun vs ⟨hf78, _⟩ => show K.Ev _ _ _ _ (_ :: _) _ _ _ _ from K.e_b2s Try.underlying37 Try.underlying5 Try.underlying9 rfl (by first | assumption | omega | rfl | simp [*])) ?_) | refine K.D.DW.skip (b := [15, 17]) rfl rfl (fun _ => rfl) ?_
                        first | (refine K.D.DW.want (b := [15]) rfl (fun _ => rfl) ?_; first | refine K.D.DW.det (b := [15]) (u := []) rfl rfl rfl (fun vs hf => K.e_move rfl) ?_) | refine K.D.DW.skip (b := [15]) rfl rfl (fun _ => rfl) ?_
                        first | (refine K.D.DW.want (b := [15, 19]) rfl (fun _ => rfl) ?_; first | refine K.D.DW.det (b := [15, 19]) (u := []) rfl rfl rfl (fun vs hf => K.e_str Try.underlying37 Try.underlying5 Try.underlying9 rfl rfl) ?_ | refine K.D.DW.det (b := [15, 19]) (u := []) rfl rfl rfl (fun vs hf => K.e_b2s Try.underlying37 Try.underlying5 Try.underlying9 rfl (by first | assumption | omega | rfl | simp [*])) ?_) | refine K.D.DW.skip (b := [15, 19]) rfl rfl (fun _ => rfl) ?_
                        first | (refine K.D.DW.want (b := [15, 18, 20]) rfl (fun _ => rfl) ?_; first | refine K.D.DW.det (b := [15, 18, 20]) (u := []) rfl rfl rfl (fun vs hf => (K.e_eqs Try.underlying9 rfl rfl).yes (getB_right hgb).2.1) ?_) | refine K.D.DW.skip (b := [15, 18, 20]) rfl rfl (fun _ => rfl) ?_
                        first | (refine K.D.DW.want (b := [9, 15, 21]) rfl (fun _ => rfl) ?_; first | refine K.D.DW.det (b := [9, 15, 21]) (u := []) rfl rfl rfl (fun vs hf => K.e_pick_t rfl rfl) ?_ | refine K.D.DW.det (b := [9, 15, 21]) (u := []) rfl rfl rfl (fun vs hf => K.e_pick_f rfl rfl) ?_) | refine K.D.DW.skip (b := [9, 15, 21]) rfl rfl (fun _ => rfl) ?_
                        first | (refine K.D.DW.want (b := [1, 9, 22]) rfl (fun _ => rfl) ?_; first | refine K.D.DW.det (b := [1, 9, 22]) (u := []) rfl rfl rfl (fun vs hf => K.e_pick_t rfl rfl) ?_ | refine K.D.DW.det (b := [1, 9, 22]) (u := []) rfl rfl rfl (fun vs hf => K.e_pick_f rfl rfl) ?_) | refine K.D.DW.skip (b := [1, 9, 22]) rfl rfl (fun _ => rfl) ?_
                        first | refine K.D.DW.det (b := [1, 23]) (u := []) rfl rfl rfl (fun vs hf => K.e_pick_t rfl rfl) ?_ | refine K.D.DW.det (b := [1, 23]) (u := []) rfl rfl rfl (fun vs hf => K.e_pick_f rfl rfl) ?_
                        refine K.D.DW.fin (fun vs hf => ?_)
                        refine K.GL.keep [4, 85] rfl ?_
                        refine K.D.GL.res0 rfl ?_
                        clear hf
                        try clear vs
                        refine K.GL.det (K.e_assign rfl) rfl ?_
                        refine K.GL.nil ?_
                        refine K.GQ.go ?_
                        refine K.GC.ret ?_
                        refine K.GQ.ret1 Try.results8 rfl (fun w hT => ?_)
                        exact ⟨rfl, hT.nil⟩
section
variable {ops : Array Oper} {Q : Exit → Act → World → Prop} {N : Nat} {U : Env} {w0 : World} {L0 L F : List Res} {ty : TypeId} {rest : List Oper} {pos : String} {after : Array Edge} {xs : List Operand} {tys : Array TypeId} {dT : Tmp}
theorem ev_back_con {t : Tab} {l : Bytes} {a a2 : Option Addr} {c c2 : Nat} (hf : ∀ args w, (callFunc 8 args).run Try.prog w = .ok (.enter 8 args) w) (hx : opvs U xs = some [.agg (tabC t a c).toArray, .slice a2 l.length c2]) (hl : t.exts.length ≤ 9223372036854775807) (hc2 : l.length ≤ c2) (hl2 : l.length ≤ 9223372036854775807) [o0 : RdC w0 L0 [] L a (encX) (t.exts)] [o1 : RdC w0 L0 [] L a2 (encB) (l)] : Ev Try.prog U w0 L0 L (.call ⟨.value (.func 8), xs.toArray, tys⟩) ty (Is (.bool true)) No :=
  K.e_call1 hf hx (fun w hT => by have _o0 := o0.out w hT; have _o1 := o1.out w hT; exact back_con hl hc2 hl2)
end

set_option maxHeartbeats 1000000 in
set_option maxRecDepth 100000 in
theorem TableBack_lifted (os : Os) (started : os.Started) (H : Type) (enc : TypeId × Value → H) :
    ReturnsInHanded {} Try.checked os 8 .any (Rows.tableBackSpec.pre6 enc Try.prog Try.f8 Rows.tableBackRow.domain false) (Rows.tableBackSpec.post enc Try.prog Try.f8 false true false false) := by
  refine returnsInHanded_of_change_sized (C := Try.checked) own started (by kernel_rfl) Try.func8
    (ChangeSpec.witness6 (enc := enc) (C := Try.checked) false ⟨#[], #[.agg #[.int .i64 0, .int .i64 0, .slice none 0 0], .slice none 0 0], []⟩ 8 (by kernel_rfl) (by kernel_rfl) (by kernel_rfl) (by kernel_rfl)) ?_
  intro W base args ds gs before hval0 hW _ hsz0 _
  have hval : ∀ (j : Nat) t v, Try.f8.params[j]? = some t → args[j]? = some v → Value.okWide Try.prog W .any base t v := hval0
  have hsz : (DataW.weightsEach Try.prog (Try.f8.params.toList ++ []) (ds ++ gs)).all (· ≤ reachBytes) = true := hsz0
  have hW' := hW
  obtain ⟨p, q, hA0, hV, hpe, hfz, hnd⟩ := hW
  have hA : DataW.TrodAll enc Try.prog W 0 (fun _ => true) true Try.f8.params.toList args.toList ds p := hA0
  obtain ⟨rfl, rfl⟩ := trodVars_none hV
  rw [Try.params8] at hA hval hsz
  obtain ⟨v0, vs0, d0, ds0, p0, q0, hargs, rfl, rfl, h0, r0⟩ := trodAll_cons hA
  obtain ⟨v1, vs1, d1, ds1, p1, q1, rfl, rfl, rfl, h1, r1⟩ := trodAll_cons r0
  obtain ⟨rfl, rfl, rfl⟩ := trodAll_nil r1
  obtain rfl : args = #[v0, v1] := by cases args; simp_all
  clear hA0 hval0 hsz0 hA hargs
  obtain ⟨csx, rfl, _⟩ := okWide_struct Try.underlying29 (hval 0 29 _ rfl rfl)
  obtain ⟨fuelx, hfx⟩ := h0
  obtain ⟨tx, ax, cx, hcsx, hnx, hcx, hox⟩ := open_tab _ _ _ hfx
  unfold maxLen at hnx
  obtain rfl : csx = (tabC tx ax cx).toArray := by
    have : csx.toList = tabC tx ax cx := by simpa [Value.cells] using hcsx
    rw [← this]
  obtain ⟨ay, nny, cy, rfl⟩ := okWide_slice Try.underlying37 (hval 1 37 _ rfl rfl)
  obtain ⟨fuely, hfy⟩ := h1
  obtain ⟨aay, ccy, ly, hcsy, hny, hcy, hoy, hGy⟩ := open_row (e := encB) Try.underlying37 (by kernel_rfl) (each_u8 Try.underlying5) hfy
  have hcsy' : Value.slice ay nny cy = .slice aay ly.length ccy := by simpa [Value.cells] using hcsy
  simp only [Value.slice.injEq] at hcsy'
  obtain ⟨rfl, rfl, rfl⟩ := hcsy'
  unfold maxLen at hny
  have core : Calls Try.prog 8 #[.agg (tabC tx ax cx).toArray, .slice ay ly.length cy] W fun e W' => e = .returned (.bool true) ∧ Tr W [] W' [] := back_con hnx hcy hny
  exact core.mono fun e W' ⟨he, hT⟩ => ⟨_, he, law_post (tb := 4) hW' rfl rfl Try.underlying4 (fun _ => rfl) laidOut (by kernel_rfl) hT.below⟩
theorem TableBack_holds : Rows.TableBackSaid :=
  OpenClaim.holds_of_wide 8 Try.f8 rfl rfl rfl rfl rfl rfl rfl ⟨rfl, rfl, rfl, rfl, rfl⟩ rfl rfl rfl rfl rfl (by kernel_rfl) Try.func8 (by kernel_rfl)
    (of_decide_eq_true (by kernel_rfl)) (by unfold Func.isWrapper; first | (rw [if_pos (by decide +kernel)]; kernel_rfl) | (rw [if_neg (by decide +kernel)]; exact ⟨rfl, rfl⟩))
    (fun os started H enc _ => TableBack_lifted os started H enc)

end Go.Proofs.Ytdbedajaapamhaa
