/- EntryMap returns true for all calls, and turns nothing. -/
import Derived.ProofKit
import Derived.OpenShut
import Derived.SizedLaws
import Derived.Lib.SmallJoins
import Derived.Test.YtcphpcjcbmennaaRows
import Derived.Test.YtcphpcjcbmennaaEntL
namespace Go.Proofs.Ytcphpcjcbmennaa
open Go Go.K Go.ChangeShapes Go.WideShapes Go.ChangeAt Go.RowKit Go.Joins
set_option linter.unusedVariables false
set_option linter.unusedSimpArgs false
attribute [local irreducible] Calls Ev GL GC GQ GR Code.wp
theorem own : ownKnob Try.prog.godebug = none := by kernel_rfl
theorem laidOut : laidOutB Try.prog = true := by kernel_rfl
theorem fo35_0 : K.fieldOff Try.prog 35 0 = some (3, 0, 1) := by kernel_rfl
theorem fo35_2 : K.fieldOff Try.prog 35 2 = some (2, 14, 1) := by kernel_rfl
theorem fo35_3 : K.fieldOff Try.prog 35 3 = some (4, 15, 1) := by kernel_rfl
theorem fo35_4 : K.fieldOff Try.prog 35 4 = some (3, 16, 1) := by kernel_rfl
theorem fo35_5 : K.fieldOff Try.prog 35 5 = some (2, 17, 1) := by kernel_rfl
theorem fo35_6 : K.fieldOff Try.prog 35 6 = some (3, 18, 1) := by kernel_rfl
theorem fo35_7 : K.fieldOff Try.prog 35 7 = some (3, 19, 1) := by kernel_rfl
/- turntable/turntablelaw14.EntryMap -/
set_option maxHeartbeats 8000000 in
set_option maxRecDepth 100000 in
theorem map_any {a : Option Addr} {n c : Nat} {l : List OX} (w : World) (hL : Sl w 20 a n (l.flatMap encP)) (hG : ∀ q ∈ l, OGood w q) (hn : n ≤ 9223372036854775807) (id : Int) :
    Calls Try.prog 3 #[.slice a n c, .int .i64 id] w fun e w' => e = .returned (.bool true) ∧ Tr w [] w' [] := by
  have hl : l.length = n := hL.count (by omega) encP_len
  refine K.enter0 (args := [_, _]) Try.func3 rfl Try.ntmps3 rfl ?_
  refine K.GC.seq ?_
  refine K.GC.region ?_
  refine K.GL.det (K.e_assign rfl) rfl ?_
  refine K.GL.nil ?_
  refine K.GQ.go ?_
  refine K.GC.seq ?_
  refine K.GC.region ?_
  refine K.GL.det (K.e_call1 Try.call9 rfl (fun w hT => head_con)) rfl ?_
  refine K.GL.det (K.e_assign rfl) rfl ?_
  refine K.GL.nil ?_
  refine K.GQ.go ?_
  refine K.GC.seq ?_
  refine K.GC.region ?_
  refine gl_new Try.call10 rfl rfl (fun d g1 hk1 hv1 => ?_)
  refine K.GL.det (K.e_assign rfl) rfl ?_
  refine K.GL.nil ?_
  refine K.GQ.go ?_
  refine K.GC.seq ?_
  refine K.GC.seq ?_
  refine K.GC.region ?_
  refine K.GL.det (K.e_move rfl) rfl ?_
  refine K.GL.det ((K.e_eqlp Try.underlying24 rfl rfl).cast_bool (b := false) rfl) rfl ?_
  refine K.GL.det (K.e_move rfl) rfl ?_
  first | refine K.GL.splitB 21 rfl (fun h1 => ?_) (fun h1 => ?_) | skip
  all_goals first | exact absurd h1 (by decide) | replace h1 := of_decide_eq_true h1 | replace h1 := of_decide_eq_false h1 | skip
  all_goals
    first | (refine K.GL.want 21 rfl rfl rfl ?_; first | refine K.GL.det (K.e_move rfl) rfl ?_) | refine K.GL.skip 21 rfl rfl rfl rfl ?_ | refine K.GL.skipU 21 rfl rfl rfl rfl ?_
    refine K.GL.want 21 rfl rfl rfl ?_
    refine gl_great (l := l) Try.call11 rfl (fun w hT => ⟨hL.stay hT (fun r hr => by cases hr), fun q hq => (hG q hq).e.sl.stay hT (fun r hr => by cases hr)⟩) (by omega) (fun q hq => (hG q hq).e.lt) rfl (fun gr23 hg23 => ?_)
    rcases gr23 with _ | _
    all_goals
      first | refine K.GL.det (K.e_pick_t rfl rfl) rfl ?_ | refine K.GL.det (K.e_pick_f rfl rfl) rfl ?_
      refine K.GL.nil ?_
      refine K.GQ.go ?_
      refine K.GC.condB rfl (fun h2 => ?_) (fun h2 => ?_)
      · first
        | exact absurd h2 (by decide)
        | try replace h2 := of_decide_eq_true h2
          refine K.GC.seq ?_
          refine K.GC.region ?_
          refine K.GL.det (K.e_move rfl) rfl ?_
          refine K.GL.det ((K.e_neqp Try.underlying24 rfl rfl).cast_bool (b := true) rfl) rfl ?_
          refine K.GL.det (K.e_move rfl) rfl ?_
          first | refine K.GL.splitB 27 rfl (fun h3 => ?_) (fun h3 => ?_) | skip
          all_goals first | exact absurd h3 (by decide) | replace h3 := of_decide_eq_true h3 | replace h3 := of_decide_eq_false h3 | skip
          all_goals
            first | (refine K.GL.want 27 rfl rfl rfl ?_; first | refine K.GL.det (K.e_move rfl) rfl ?_) | refine K.GL.skip 27 rfl rfl rfl rfl ?_ | refine K.GL.skipU 27 rfl rfl rfl rfl ?_
            first | refine K.GL.det (K.e_pick_t rfl rfl) rfl ?_ | refine K.GL.det (K.e_pick_f rfl rfl) rfl ?_
            refine K.GL.det (K.e_assign rfl) rfl ?_
            refine K.GL.nil ?_
            refine K.GQ.go ?_
            refine K.GC.ret ?_
            refine K.GQ.then_ret ?_
            refine K.GQ.ret1 Try.results3 rfl (fun w hT => ?_)
            exact ⟨rfl, hT.nil⟩
      · first
        | exact absurd h2 (by decide)
        | try replace h2 := of_decide_eq_false h2
          refine K.GC.skip ?_
          refine K.GQ.go ?_
          refine K.GC.seq ?_
          have hgs := hg23 rfl
          refine K.GC.region ?_
          refine K.GL.alloc Try.zeroValue33 rfl rfl (fun b7 => ?_)
          refine K.GL.nil ?_
          refine K.GQ.go ?_
          refine K.GC.seq ?_
          refine K.GC.region ?_
          refine K.GL.det (K.e_assign rfl) rfl ?_
          refine K.GL.nil ?_
          refine K.GQ.go ?_
          refine K.GC.seq ?_
          refine K.GC.seq ?_
          refine K.GC.region ?_
          refine K.GL.det (K.e_assign rfl) rfl ?_
          refine K.GL.nil ?_
          refine K.GQ.go ?_
          refine K.GC.block ?_
          refine K.GC.loopk (α := Nat × IG × Option EX × Option Addr × Nat) [0, 1, 5, 6, 7, 172] rfl (fun x => [(8, .bool x.2.2.1.isSome), (9, .int .i64 (x.1 : Int))]) (fun x => [cl b7 33 (encE (x.2.2.1.getD EX.zero) x.2.2.2.1 x.2.2.2.2), IdxR d x.2.1]) (fun x => x.1 ≤ n ∧ x.2.1.Ok ∧ xget id x.2.1.ents = x.2.2.1 ∧ Sl w 1 x.2.2.2.1 (x.2.2.1.getD EX.zero).sv.length (strs (x.2.2.1.getD EX.zero).sv)) (fun x => (n - x.1)) (0, g1, none, none, 0) ⟨Nat.zero_le _, hk1, by rw [hv1]; rfl, Sl.nil w 1⟩ (by (repeat refine ⟨rfl, ?_⟩); exact trivial) (K.Sub.refl _) (fun x hI => ?_)
          obtain ⟨x, g, r, wa, wc⟩ := x
          obtain ⟨hx, hk, hr, hS⟩ := hI
          simp only at hx hk hr hS ⊢
          refine K.GC.seq ?_
          refine K.GC.seq ?_
          refine K.GC.region ?_
          refine K.GL.det (K.e_move rfl) rfl ?_
          refine K.GL.det (K.e_move rfl) rfl ?_
          refine K.GL.det (K.e_len Try.underlying22 rfl) rfl ?_
          first | refine K.GL.det ((K.e_lt rfl rfl).yes (by first | omega | assumption | decide +kernel)) rfl ?_ | refine K.GL.det ((K.e_lt rfl rfl).no (by first | omega | assumption | decide +kernel)) rfl ?_ | refine K.GL.det (K.e_lt rfl rfl) rfl ?_
          refine K.GL.nil ?_
          refine K.GQ.go ?_
          refine K.GC.condB rfl (fun h4 => ?_) (fun h4 => ?_)
          · first
            | exact absurd h4 (by decide)
            | try replace h4 := of_decide_eq_true h4
              refine K.GC.skip ?_
              refine K.GQ.go ?_
              refine K.GC.seq ?_
              refine K.GC.block ?_
              refine K.GC.seq ?_
              obtain ⟨q, hq⟩ : ∃ q, l[x]? = some q := get_ex (by omega)
              refine K.GC.region ?_
              refine K.GL.det (K.e_move rfl) rfl ?_
              refine K.GL.det (K.e_move rfl) rfl ?_
              refine K.GL.det (K.e_indexAddrS sl22 rfl rfl hL (by omega) (by omega)) rfl ?_
              refine K.GL.det (K.e_loadsw (vs := encP q) Try.isAgg35 Try.sizeOf35 rfl (fun w hT j v hj => hT.cell0 (hL.item encP_len hq j v hj)) rfl) rfl ?_
              refine K.GL.alloc Try.zeroValue35 rfl rfl (fun b10 => ?_)
              refine K.GL.store rfl rfl rfl Try.sizeOf35 rfl rfl ?_
              refine K.GL.nil ?_
              refine K.GQ.go ?_
              refine K.GC.seq ?_
              refine K.GC.region ?_
              refine K.GL.det (K.e_move rfl) rfl ?_
              refine K.GL.det (K.e_fieldAddr fo35_2 rfl) rfl ?_
              first | refine K.GL.det (K.e_load Try.isAgg2 rfl rfl) rfl ?_ | refine K.GL.det (K.e_load0 Try.isAgg2 rfl (by assumption)) rfl ?_
              refine gl_get Try.call12 rfl hk rfl rfl (fun a44 c44 => ?_)
              refine K.GL.det (K.e_move rfl) rfl ?_
              refine K.GL.det (K.e_extract rfl rfl) rfl ?_
              refine K.GL.det (K.e_extract rfl rfl) rfl ?_
              refine K.GL.alloc Try.zeroValue33 rfl rfl (fun b11 => ?_)
              refine K.GL.store rfl rfl rfl Try.sizeOf33 rfl rfl ?_
              refine K.GL.det (K.e_assign rfl) rfl ?_
              refine K.GL.nil ?_
              refine K.GQ.go ?_
              refine K.GC.seq ?_
              refine K.GC.seq ?_
              refine K.GC.region ?_
              refine K.GL.det (K.e_fieldAddr fo35_0 rfl) rfl ?_
              first | refine K.GL.det (K.e_load Try.isAgg3 rfl rfl) rfl ?_ | refine K.GL.det (K.e_load0 Try.isAgg3 rfl (by assumption)) rfl ?_
              refine K.GL.nil ?_
              refine K.GQ.go ?_
              refine K.GC.block ?_
              refine K.GC.seq ?_
              refine K.GC.region ?_
              first | refine K.GL.det ((K.e_eq rfl rfl).yes (by first | omega | assumption | decide +kernel)) rfl ?_ | refine K.GL.det ((K.e_eq rfl rfl).no (by first | omega | assumption | decide +kernel)) rfl ?_ | refine K.GL.det (K.e_eq rfl rfl) rfl ?_
              refine K.GL.det (K.e_assign rfl) rfl ?_
              refine K.GL.nil ?_
              refine K.GQ.go ?_
              refine K.GC.condB rfl (fun h5 => ?_) (fun h5 => ?_)
              · first
                | exact absurd h5 (by decide)
                | try replace h5 := of_decide_eq_true h5
                  refine K.GC.seq ?_
                  refine K.GC.seq ?_
                  refine K.GC.region ?_
                  refine K.GL.det (K.e_move rfl) rfl ?_
                  refine K.GL.det (K.e_fieldAddr fo35_2 rfl) rfl ?_
                  first | refine K.GL.det (K.e_load Try.isAgg2 rfl rfl) rfl ?_ | refine K.GL.det (K.e_load0 Try.isAgg2 rfl (by assumption)) rfl ?_
                  refine gl_del (was := (xget q.id g.ents).isSome) Try.call13 rfl hk rfl rfl (fun g2 hk2 hv2 => ?_)
                  refine K.GL.det (K.e_move rfl) rfl ?_
                  refine K.GL.det ((K.e_neb Try.underlying4 rfl rfl).cast_bool (b := false) (by first | rfl | simp)) rfl ?_
                  refine K.GL.nil ?_
                  refine K.GQ.go ?_
                  refine K.GC.condB rfl (fun h6 => ?_) (fun h6 => ?_)
                  · first
                    | exact absurd h6 (by decide)
                    | try replace h6 := of_decide_eq_true h6
                      refine K.GC.seq ?_
                      refine K.GC.region ?_
                      refine K.GL.det (K.e_assign rfl) rfl ?_
                      refine K.GL.nil ?_
                      refine K.GQ.go ?_
                      refine K.GC.ret ?_
                      refine K.GQ.then_ret ?_
                      refine K.GQ.block_ret ?_
                      refine K.GQ.then_ret ?_
                      refine K.GQ.block_ret ?_
                      refine K.GQ.then_ret ?_
                      refine K.GQ.then_ret ?_
                      refine K.GQ.block_ret ?_
                      refine K.GQ.then_ret ?_
                      refine K.GQ.ret1 Try.results3 rfl (fun w hT => ?_)
                      exact ⟨rfl, hT.nil⟩
                  · first
                    | exact absurd h6 (by decide)
                    | try replace h6 := of_decide_eq_false h6
                      refine K.GC.skip ?_
                      refine K.GQ.go ?_
                      refine K.GC.seq ?_
                      refine K.GC.region ?_
                      refine K.GL.det (K.e_fieldAddr fo35_2 rfl) rfl ?_
                      first | refine K.GL.det (K.e_load Try.isAgg2 rfl rfl) rfl ?_ | refine K.GL.det (K.e_load0 Try.isAgg2 rfl (by assumption)) rfl ?_
                      refine K.GL.det (K.e_move rfl) rfl ?_
                      first | refine K.GL.det ((K.e_eq rfl rfl).yes (by first | omega | assumption | decide +kernel)) rfl ?_ | refine K.GL.det ((K.e_eq rfl rfl).no (by first | omega | assumption | decide +kernel)) rfl ?_ | refine K.GL.det (K.e_eq rfl rfl) rfl ?_
                      refine K.GL.nil ?_
                      refine K.GQ.go ?_
                      refine K.GC.condB rfl (fun h7 => ?_) (fun h7 => ?_)
                      · first
                        | exact absurd h7 (by decide)
                        | try replace h7 := of_decide_eq_true h7
                          refine K.GC.seq ?_
                          refine K.GC.region ?_
                          refine K.GL.det (K.e_assign rfl) rfl ?_
                          refine K.GL.nil ?_
                          refine K.GQ.go ?_
                          refine K.GC.region ?_
                          refine K.GL.det (K.e_build lay33 rfl) rfl ?_
                          refine K.GL.store rfl rfl rfl Try.sizeOf33 rfl rfl ?_
                          refine K.GL.nil ?_
                          refine K.GQ.block_normal ?_
                          refine K.GQ.go ?_
                          refine K.GC.seq ?_
                          first
                            | (have hW := del_ne (by assumption) hr hv2 hk.ids
                               have hS2 := hS
                               first
                                 | refine K.GC.res (L' := [cl b7 33 (encE (r.getD EX.zero) wa wc), IdxR d g2]) ?_ (Sub.take (i := 4) rfl (Sub.take (i := 0) rfl (Sub.nil _)))
                                 | refine K.GC.res (L' := [cl b7 33 (encE (r.getD EX.zero) wa wc), IdxR d g2]) ?_ (Sub.take (i := 6) rfl (Sub.take (i := 0) rfl (Sub.nil _))))
                            | (have hW := mod_ne (by assumption) hr hv2 (fun _ => rfl)
                               have hS2 := hS
                               first
                                 | refine K.GC.res (L' := [cl b7 33 (encE (r.getD EX.zero) wa wc), IdxR d g2]) ?_ (Sub.take (i := 4) rfl (Sub.take (i := 0) rfl (Sub.nil _)))
                                 | refine K.GC.res (L' := [cl b7 33 (encE (r.getD EX.zero) wa wc), IdxR d g2]) ?_ (Sub.take (i := 6) rfl (Sub.take (i := 0) rfl (Sub.nil _))))
                            | (have hW := put_ne (by assumption) hr hv2
                               have hS2 := hS
                               first
                                 | refine K.GC.res (L' := [cl b7 33 (encE (r.getD EX.zero) wa wc), IdxR d g2]) ?_ (Sub.take (i := 4) rfl (Sub.take (i := 0) rfl (Sub.nil _)))
                                 | refine K.GC.res (L' := [cl b7 33 (encE (r.getD EX.zero) wa wc), IdxR d g2]) ?_ (Sub.take (i := 6) rfl (Sub.take (i := 0) rfl (Sub.nil _))))
                            | (have hW := mod_no (by assumption) hr hv2 (fun _ => rfl)
                               have hS2 := hS
                               first
                                 | refine K.GC.res (L' := [cl b7 33 (encE (r.getD EX.zero) wa wc), IdxR d g2]) ?_ (Sub.take (i := 4) rfl (Sub.take (i := 0) rfl (Sub.nil _)))
                                 | refine K.GC.res (L' := [cl b7 33 (encE (r.getD EX.zero) wa wc), IdxR d g2]) ?_ (Sub.take (i := 6) rfl (Sub.take (i := 0) rfl (Sub.nil _))))
                            | (have hW := mod_eq (f := pinF q.is) (by assumption) hr hv2 (fun _ => rfl)
                               have hS2 : Sl w 1 wa ((pinF q.is y).sv.length) (strs (pinF q.is y).sv) := hS
                               first
                                 | refine K.GC.res (L' := [cl b7 33 (encE ((some (pinF q.is y)).getD EX.zero) wa wc), IdxR d g2]) ?_ (Sub.take (i := 4) rfl (Sub.take (i := 0) rfl (Sub.nil _)))
                                 | refine K.GC.res (L' := [cl b7 33 (encE ((some (pinF q.is y)).getD EX.zero) wa wc), IdxR d g2]) ?_ (Sub.take (i := 6) rfl (Sub.take (i := 0) rfl (Sub.nil _))))
                            | (have hW := mod_eq (f := clsF q.cls) (by assumption) hr hv2 (fun _ => rfl)
                               have hS2 : Sl w 1 wa ((clsF q.cls y).sv.length) (strs (clsF q.cls y).sv) := hS
                               first
                                 | refine K.GC.res (L' := [cl b7 33 (encE ((some (clsF q.cls y)).getD EX.zero) wa wc), IdxR d g2]) ?_ (Sub.take (i := 4) rfl (Sub.take (i := 0) rfl (Sub.nil _)))
                                 | refine K.GC.res (L' := [cl b7 33 (encE ((some (clsF q.cls y)).getD EX.zero) wa wc), IdxR d g2]) ?_ (Sub.take (i := 6) rfl (Sub.take (i := 0) rfl (Sub.nil _))))
                            | (have hW := mod_eq (f := movF q.seq q.at_ q.size) (by assumption) hr hv2 (fun _ => rfl)
                               have hS2 : Sl w 1 wa ((movF q.seq q.at_ q.size y).sv.length) (strs (movF q.seq q.at_ q.size y).sv) := hS
                               first
                                 | refine K.GC.res (L' := [cl b7 33 (encE ((some (movF q.seq q.at_ q.size y)).getD EX.zero) wa wc), IdxR d g2]) ?_ (Sub.take (i := 4) rfl (Sub.take (i := 0) rfl (Sub.nil _)))
                                 | refine K.GC.res (L' := [cl b7 33 (encE ((some (movF q.seq q.at_ q.size y)).getD EX.zero) wa wc), IdxR d g2]) ?_ (Sub.take (i := 6) rfl (Sub.take (i := 0) rfl (Sub.nil _))))
                            | (have hW := del_eq (by assumption) hv2 hk.ids
                               have hS2 := sl_zero (w := w)
                               first
                                 | refine K.GC.res (L' := [cl b7 33 (encE ((none : Option EX).getD EX.zero) none 0), IdxR d g2]) ?_ (Sub.take (i := 4) rfl (Sub.take (i := 0) rfl (Sub.nil _)))
                                 | refine K.GC.res (L' := [cl b7 33 (encE ((none : Option EX).getD EX.zero) none 0), IdxR d g2]) ?_ (Sub.take (i := 6) rfl (Sub.take (i := 0) rfl (Sub.nil _))))
                            | (have hW := put_eq (by assumption) hv2
                               have hS2 := (hG q (List.mem_of_getElem? hq)).e.sl
                               first
                                 | refine K.GC.res (L' := [cl b7 33 (encE ((some q.e).getD EX.zero) q.ea q.ec), IdxR d g2]) ?_ (Sub.take (i := 4) rfl (Sub.take (i := 0) rfl (Sub.nil _)))
                                 | refine K.GC.res (L' := [cl b7 33 (encE ((some q.e).getD EX.zero) q.ea q.ec), IdxR d g2]) ?_ (Sub.take (i := 6) rfl (Sub.take (i := 0) rfl (Sub.nil _))))
                          refine K.GC.region ?_
                          refine K.GL.det (K.e_move rfl) rfl ?_
                          refine K.GL.det (K.e_move rfl) rfl ?_
                          refine gl_get Try.call12 rfl hk2 hW rfl (fun a160 c160 => ?_)
                          refine K.GL.det (K.e_move rfl) rfl ?_
                          refine K.GL.det (K.e_extract rfl rfl) rfl ?_
                          refine K.GL.det (K.e_extract rfl rfl) rfl ?_
                          refine K.GL.alloc Try.zeroValue33 rfl rfl (fun b15 => ?_)
                          refine K.GL.store rfl rfl rfl Try.sizeOf33 rfl rfl ?_
                          refine K.GL.det (K.e_assign rfl) rfl ?_
                          refine K.GL.nil ?_
                          refine K.GQ.go ?_
                          refine K.GC.seq ?_
                          refine K.GC.region ?_
                          refine K.GL.det (K.e_move rfl) rfl ?_
                          refine K.GL.det (K.e_move rfl) rfl ?_
                          refine K.GL.det ((K.e_neb Try.underlying4 rfl rfl).cast_bool (b := false) (by first | rfl | simp)) rfl ?_
                          refine K.GL.det (K.e_move rfl) rfl ?_
                          first | refine K.GL.splitB 166 rfl (fun h8 => ?_) (fun h8 => ?_) | skip
                          all_goals first | exact absurd h8 (by decide) | replace h8 := of_decide_eq_true h8 | replace h8 := of_decide_eq_false h8 | skip
                          all_goals
                            first | (refine K.GL.want 166 rfl rfl rfl ?_; first | refine K.GL.det (K.e_loads Try.isAgg33 Try.sizeOf33 rfl rfl) rfl ?_) | refine K.GL.skip 166 rfl rfl rfl rfl ?_ | refine K.GL.skipU 166 rfl rfl rfl rfl ?_
                            first | (refine K.GL.want 166 rfl rfl rfl ?_; first | refine K.GL.det (K.e_loads Try.isAgg33 Try.sizeOf33 rfl rfl) rfl ?_) | refine K.GL.skip 166 rfl rfl rfl rfl ?_ | refine K.GL.skipU 166 rfl rfl rfl rfl ?_
                            first | (refine K.GL.want 166 rfl rfl rfl ?_; first | refine K.GL.det ((K.e_call1 Try.call18 rfl (fun w hT => same_at hW (hT.sl_row (List.mem_of_getElem? (i := 1) rfl) (by omega) (by rw [strs_length, Nat.mul_one])) (hS2.stay hT (fun r hr => by cases hr)) (get_lt hk2 hW)))) rfl ?_) | refine K.GL.skip 166 rfl rfl rfl rfl ?_ | refine K.GL.skipU 166 rfl rfl rfl rfl ?_
                            first | (refine K.GL.want 166 rfl rfl rfl ?_; first | refine K.GL.det ((K.e_not rfl).cast_bool (b := false) rfl) rfl ?_) | refine K.GL.skip 166 rfl rfl rfl rfl ?_ | refine K.GL.skipU 166 rfl rfl rfl rfl ?_
                            first | refine K.GL.det (K.e_pick_t rfl rfl) rfl ?_ | refine K.GL.det (K.e_pick_f rfl rfl) rfl ?_
                            refine K.GL.nil ?_
                            refine K.GQ.go ?_
                            refine K.GC.condB rfl (fun h9 => ?_) (fun h9 => ?_)
                            · first
                              | exact absurd h9 (by decide)
                              | try replace h9 := of_decide_eq_true h9
                                refine K.GC.seq ?_
                                refine K.GC.region ?_
                                refine K.GL.det (K.e_assign rfl) rfl ?_
                                refine K.GL.nil ?_
                                refine K.GQ.go ?_
                                refine K.GC.ret ?_
                                refine K.GQ.block_ret ?_
                                refine K.GQ.then_ret ?_
                                refine K.GQ.then_ret ?_
                                refine K.GQ.block_ret ?_
                                refine K.GQ.then_ret ?_
                                refine K.GQ.ret1 Try.results3 rfl (fun w hT => ?_)
                                exact ⟨rfl, hT.nil⟩
                            · first
                              | exact absurd h9 (by decide)
                              | try replace h9 := of_decide_eq_false h9
                                refine K.GC.skip ?_
                                refine K.GQ.block_normal ?_
                                refine K.GQ.go ?_
                                refine K.GC.region ?_
                                refine K.GL.det (K.e_move rfl) rfl ?_
                                first | refine K.GL.det (K.e_add rfl rfl ⟨by omega, by omega⟩) rfl ?_ | refine K.GL.det (K.e_addw rfl rfl) rfl ?_
                                refine K.GL.det (K.e_assign rfl) rfl ?_
                                refine K.GL.nil ?_
                                exact K.GQ.round (x + 1, g2, _, _, _) ⟨by simp only; omega, hk2, hW, hS2⟩ (by simp only; omega) (by (repeat refine ⟨rfl, ?_⟩); exact trivial) (Sub.take (i := 2) rfl (Sub.take (i := 2) rfl (Sub.nil _)))
                      · first
                        | exact absurd h7 (by decide)
                        | try replace h7 := of_decide_eq_false h7
                          refine K.GC.skip ?_
                          refine K.GQ.block_normal ?_
                          refine K.GQ.go ?_
                          refine K.GC.seq ?_
                          first
                            | (have hW := del_ne (by assumption) hr hv2 hk.ids
                               have hS2 := hS
                               first
                                 | refine K.GC.res (L' := [cl b7 33 (encE (r.getD EX.zero) wa wc), IdxR d g2]) ?_ (Sub.take (i := 4) rfl (Sub.take (i := 0) rfl (Sub.nil _)))
                                 | refine K.GC.res (L' := [cl b7 33 (encE (r.getD EX.zero) wa wc), IdxR d g2]) ?_ (Sub.take (i := 6) rfl (Sub.take (i := 0) rfl (Sub.nil _))))
                            | (have hW := mod_ne (by assumption) hr hv2 (fun _ => rfl)
                               have hS2 := hS
                               first
                                 | refine K.GC.res (L' := [cl b7 33 (encE (r.getD EX.zero) wa wc), IdxR d g2]) ?_ (Sub.take (i := 4) rfl (Sub.take (i := 0) rfl (Sub.nil _)))
                                 | refine K.GC.res (L' := [cl b7 33 (encE (r.getD EX.zero) wa wc), IdxR d g2]) ?_ (Sub.take (i := 6) rfl (Sub.take (i := 0) rfl (Sub.nil _))))
                            | (have hW := put_ne (by assumption) hr hv2
                               have hS2 := hS
                               first
                                 | refine K.GC.res (L' := [cl b7 33 (encE (r.getD EX.zero) wa wc), IdxR d g2]) ?_ (Sub.take (i := 4) rfl (Sub.take (i := 0) rfl (Sub.nil _)))
                                 | refine K.GC.res (L' := [cl b7 33 (encE (r.getD EX.zero) wa wc), IdxR d g2]) ?_ (Sub.take (i := 6) rfl (Sub.take (i := 0) rfl (Sub.nil _))))
                            | (have hW := mod_no (by assumption) hr hv2 (fun _ => rfl)
                               have hS2 := hS
                               first
                                 | refine K.GC.res (L' := [cl b7 33 (encE (r.getD EX.zero) wa wc), IdxR d g2]) ?_ (Sub.take (i := 4) rfl (Sub.take (i := 0) rfl (Sub.nil _)))
                                 | refine K.GC.res (L' := [cl b7 33 (encE (r.getD EX.zero) wa wc), IdxR d g2]) ?_ (Sub.take (i := 6) rfl (Sub.take (i := 0) rfl (Sub.nil _))))
                            | (have hW := mod_eq (f := pinF q.is) (by assumption) hr hv2 (fun _ => rfl)
                               have hS2 : Sl w 1 wa ((pinF q.is y).sv.length) (strs (pinF q.is y).sv) := hS
                               first
                                 | refine K.GC.res (L' := [cl b7 33 (encE ((some (pinF q.is y)).getD EX.zero) wa wc), IdxR d g2]) ?_ (Sub.take (i := 4) rfl (Sub.take (i := 0) rfl (Sub.nil _)))
                                 | refine K.GC.res (L' := [cl b7 33 (encE ((some (pinF q.is y)).getD EX.zero) wa wc), IdxR d g2]) ?_ (Sub.take (i := 6) rfl (Sub.take (i := 0) rfl (Sub.nil _))))
                            | (have hW := mod_eq (f := clsF q.cls) (by assumption) hr hv2 (fun _ => rfl)
                               have hS2 : Sl w 1 wa ((clsF q.cls y).sv.length) (strs (clsF q.cls y).sv) := hS
                               first
                                 | refine K.GC.res (L' := [cl b7 33 (encE ((some (clsF q.cls y)).getD EX.zero) wa wc), IdxR d g2]) ?_ (Sub.take (i := 4) rfl (Sub.take (i := 0) rfl (Sub.nil _)))
                                 | refine K.GC.res (L' := [cl b7 33 (encE ((some (clsF q.cls y)).getD EX.zero) wa wc), IdxR d g2]) ?_ (Sub.take (i := 6) rfl (Sub.take (i := 0) rfl (Sub.nil _))))
                            | (have hW := mod_eq (f := movF q.seq q.at_ q.size) (by assumption) hr hv2 (fun _ => rfl)
                               have hS2 : Sl w 1 wa ((movF q.seq q.at_ q.size y).sv.length) (strs (movF q.seq q.at_ q.size y).sv) := hS
                               first
                                 | refine K.GC.res (L' := [cl b7 33 (encE ((some (movF q.seq q.at_ q.size y)).getD EX.zero) wa wc), IdxR d g2]) ?_ (Sub.take (i := 4) rfl (Sub.take (i := 0) rfl (Sub.nil _)))
                                 | refine K.GC.res (L' := [cl b7 33 (encE ((some (movF q.seq q.at_ q.size y)).getD EX.zero) wa wc), IdxR d g2]) ?_ (Sub.take (i := 6) rfl (Sub.take (i := 0) rfl (Sub.nil _))))
                            | (have hW := del_eq (by assumption) hv2 hk.ids
                               have hS2 := sl_zero (w := w)
                               first
                                 | refine K.GC.res (L' := [cl b7 33 (encE ((none : Option EX).getD EX.zero) none 0), IdxR d g2]) ?_ (Sub.take (i := 4) rfl (Sub.take (i := 0) rfl (Sub.nil _)))
                                 | refine K.GC.res (L' := [cl b7 33 (encE ((none : Option EX).getD EX.zero) none 0), IdxR d g2]) ?_ (Sub.take (i := 6) rfl (Sub.take (i := 0) rfl (Sub.nil _))))
                            | (have hW := put_eq (by assumption) hv2
                               have hS2 := (hG q (List.mem_of_getElem? hq)).e.sl
                               first
                                 | refine K.GC.res (L' := [cl b7 33 (encE ((some q.e).getD EX.zero) q.ea q.ec), IdxR d g2]) ?_ (Sub.take (i := 4) rfl (Sub.take (i := 0) rfl (Sub.nil _)))
                                 | refine K.GC.res (L' := [cl b7 33 (encE ((some q.e).getD EX.zero) q.ea q.ec), IdxR d g2]) ?_ (Sub.take (i := 6) rfl (Sub.take (i := 0) rfl (Sub.nil _))))
                          refine K.GC.region ?_
                          refine K.GL.det (K.e_move rfl) rfl ?_
                          refine K.GL.det (K.e_move rfl) rfl ?_
                          refine gl_get Try.call12 rfl hk2 hW rfl (fun a160 c160 => ?_)
                          refine K.GL.det (K.e_move rfl) rfl ?_
                          refine K.GL.det (K.e_extract rfl rfl) rfl ?_
                          refine K.GL.det (K.e_extract rfl rfl) rfl ?_
                          refine K.GL.alloc Try.zeroValue33 rfl rfl (fun b15 => ?_)
                          refine K.GL.store rfl rfl rfl Try.sizeOf33 rfl rfl ?_
                          refine K.GL.det (K.e_assign rfl) rfl ?_
                          refine K.GL.nil ?_
                          refine K.GQ.go ?_
                          refine K.GC.seq ?_
                          refine K.GC.region ?_
                          refine K.GL.det (K.e_move rfl) rfl ?_
                          refine K.GL.det (K.e_move rfl) rfl ?_
                          refine K.GL.det ((K.e_neb Try.underlying4 rfl rfl).cast_bool (b := false) (by first | rfl | simp)) rfl ?_
                          refine K.GL.det (K.e_move rfl) rfl ?_
                          first | refine K.GL.splitB 166 rfl (fun h10 => ?_) (fun h10 => ?_) | skip
                          all_goals first | exact absurd h10 (by decide) | replace h10 := of_decide_eq_true h10 | replace h10 := of_decide_eq_false h10 | skip
                          all_goals
                            first | (refine K.GL.want 166 rfl rfl rfl ?_; first | refine K.GL.det (K.e_loads Try.isAgg33 Try.sizeOf33 rfl rfl) rfl ?_) | refine K.GL.skip 166 rfl rfl rfl rfl ?_ | refine K.GL.skipU 166 rfl rfl rfl rfl ?_
                            first | (refine K.GL.want 166 rfl rfl rfl ?_; first | refine K.GL.det (K.e_loads Try.isAgg33 Try.sizeOf33 rfl rfl) rfl ?_) | refine K.GL.skip 166 rfl rfl rfl rfl ?_ | refine K.GL.skipU 166 rfl rfl rfl rfl ?_
                            first | (refine K.GL.want 166 rfl rfl rfl ?_; first | refine K.GL.det ((K.e_call1 Try.call18 rfl (fun w hT => same_at hW (hT.sl_row (List.mem_of_getElem? (i := 1) rfl) (by omega) (by rw [strs_length, Nat.mul_one])) (hS2.stay hT (fun r hr => by cases hr)) (get_lt hk2 hW)))) rfl ?_) | refine K.GL.skip 166 rfl rfl rfl rfl ?_ | refine K.GL.skipU 166 rfl rfl rfl rfl ?_
                            first | (refine K.GL.want 166 rfl rfl rfl ?_; first | refine K.GL.det ((K.e_not rfl).cast_bool (b := false) rfl) rfl ?_) | refine K.GL.skip 166 rfl rfl rfl rfl ?_ | refine K.GL.skipU 166 rfl rfl rfl rfl ?_
                            first | refine K.GL.det (K.e_pick_t rfl rfl) rfl ?_ | refine K.GL.det (K.e_pick_f rfl rfl) rfl ?_
                            refine K.GL.nil ?_
                            refine K.GQ.go ?_
                            refine K.GC.condB rfl (fun h11 => ?_) (fun h11 => ?_)
                            · first
                              | exact absurd h11 (by decide)
                              | try replace h11 := of_decide_eq_true h11
                                refine K.GC.seq ?_
                                refine K.GC.region ?_
                                refine K.GL.det (K.e_assign rfl) rfl ?_
                                refine K.GL.nil ?_
                                refine K.GQ.go ?_
                                refine K.GC.ret ?_
                                refine K.GQ.block_ret ?_
                                refine K.GQ.then_ret ?_
                                refine K.GQ.then_ret ?_
                                refine K.GQ.block_ret ?_
                                refine K.GQ.then_ret ?_
                                refine K.GQ.ret1 Try.results3 rfl (fun w hT => ?_)
                                exact ⟨rfl, hT.nil⟩
                            · first
                              | exact absurd h11 (by decide)
                              | try replace h11 := of_decide_eq_false h11
                                refine K.GC.skip ?_
                                refine K.GQ.block_normal ?_
                                refine K.GQ.go ?_
                                refine K.GC.region ?_
                                refine K.GL.det (K.e_move rfl) rfl ?_
                                first | refine K.GL.det (K.e_add rfl rfl ⟨by omega, by omega⟩) rfl ?_ | refine K.GL.det (K.e_addw rfl rfl) rfl ?_
                                refine K.GL.det (K.e_assign rfl) rfl ?_
                                refine K.GL.nil ?_
                                exact K.GQ.round (x + 1, g2, _, _, _) ⟨by simp only; omega, hk2, hW, hS2⟩ (by simp only; omega) (by (repeat refine ⟨rfl, ?_⟩); exact trivial) (Sub.take (i := 2) rfl (Sub.take (i := 2) rfl (Sub.nil _)))
              · first
                | exact absurd h5 (by decide)
                | try replace h5 := of_decide_eq_false h5
                  refine K.GC.seq ?_
                  refine K.GC.region ?_
                  first | refine K.GL.det ((K.e_eq rfl rfl).yes (by first | omega | assumption | decide +kernel)) rfl ?_ | refine K.GL.det ((K.e_eq rfl rfl).no (by first | omega | assumption | decide +kernel)) rfl ?_ | refine K.GL.det (K.e_eq rfl rfl) rfl ?_
                  refine K.GL.det (K.e_assign rfl) rfl ?_
                  refine K.GL.nil ?_
                  refine K.GQ.go ?_
                  refine K.GC.condB rfl (fun h12 => ?_) (fun h12 => ?_)
                  · first
                    | exact absurd h12 (by decide)
                    | try replace h12 := of_decide_eq_true h12
                      refine K.GC.seq ?_
                      refine K.GC.seq ?_
                      refine K.GC.region ?_
                      refine K.GL.det (K.e_move rfl) rfl ?_
                      refine K.GL.det (K.e_fieldAddr fo35_2 rfl) rfl ?_
                      first | refine K.GL.det (K.e_load Try.isAgg2 rfl rfl) rfl ?_ | refine K.GL.det (K.e_load0 Try.isAgg2 rfl (by assumption)) rfl ?_
                      refine K.GL.det (K.e_fieldAddr fo35_3 rfl) rfl ?_
                      first | refine K.GL.det (K.e_load Try.isAgg4 rfl rfl) rfl ?_ | refine K.GL.det (K.e_load0 Try.isAgg4 rfl (by assumption)) rfl ?_
                      refine gl_pin (was := (xget q.id g.ents).isSome) Try.call14 rfl hk rfl rfl (fun g2 hk2 hv2 => ?_)
                      refine K.GL.det (K.e_move rfl) rfl ?_
                      refine K.GL.det ((K.e_neb Try.underlying4 rfl rfl).cast_bool (b := false) (by first | rfl | simp)) rfl ?_
                      refine K.GL.nil ?_
                      refine K.GQ.go ?_
                      refine K.GC.condB rfl (fun h13 => ?_) (fun h13 => ?_)
                      · first
                        | exact absurd h13 (by decide)
                        | try replace h13 := of_decide_eq_true h13
                          refine K.GC.seq ?_
                          refine K.GC.region ?_
                          refine K.GL.det (K.e_assign rfl) rfl ?_
                          refine K.GL.nil ?_
                          refine K.GQ.go ?_
                          refine K.GC.ret ?_
                          refine K.GQ.then_ret ?_
                          refine K.GQ.block_ret ?_
                          refine K.GQ.then_ret ?_
                          refine K.GQ.block_ret ?_
                          refine K.GQ.then_ret ?_
                          refine K.GQ.then_ret ?_
                          refine K.GQ.block_ret ?_
                          refine K.GQ.then_ret ?_
                          refine K.GQ.ret1 Try.results3 rfl (fun w hT => ?_)
                          exact ⟨rfl, hT.nil⟩
                      · first
                        | exact absurd h13 (by decide)
                        | try replace h13 := of_decide_eq_false h13
                          refine K.GC.skip ?_
                          refine K.GQ.go ?_
                          refine K.GC.seq ?_
                          refine K.GC.region ?_
                          refine K.GL.det (K.e_fieldAddr fo35_2 rfl) rfl ?_
                          first | refine K.GL.det (K.e_load Try.isAgg2 rfl rfl) rfl ?_ | refine K.GL.det (K.e_load0 Try.isAgg2 rfl (by assumption)) rfl ?_
                          refine K.GL.det (K.e_move rfl) rfl ?_
                          first | refine K.GL.det ((K.e_eq rfl rfl).yes (by first | omega | assumption | decide +kernel)) rfl ?_ | refine K.GL.det ((K.e_eq rfl rfl).no (by first | omega | assumption | decide +kernel)) rfl ?_ | refine K.GL.det (K.e_eq rfl rfl) rfl ?_
                          refine K.GL.det (K.e_move rfl) rfl ?_
                          first | refine K.GL.splitB 99 rfl (fun h14 => ?_) (fun h14 => ?_) | skip
                          all_goals first | exact absurd h14 (by decide) | replace h14 := of_decide_eq_true h14 | replace h14 := of_decide_eq_false h14 | skip
                          all_goals
                            first | (refine K.GL.want 99 rfl rfl rfl ?_; first | refine K.GL.det (K.e_move rfl) rfl ?_) | refine K.GL.skip 99 rfl rfl rfl rfl ?_ | refine K.GL.skipU 99 rfl rfl rfl rfl ?_
                            first | refine K.GL.det (K.e_pick_t rfl rfl) rfl ?_ | refine K.GL.det (K.e_pick_f rfl rfl) rfl ?_
                            refine K.GL.nil ?_
                            refine K.GQ.go ?_
                            refine K.GC.condB rfl (fun h15 => ?_) (fun h15 => ?_)
                            · first
                              | exact absurd h15 (by decide)
                              | try replace h15 := of_decide_eq_true h15
                                obtain ⟨y, rfl⟩ : ∃ y, r = some y := Option.isSome_iff_exists.1 (by assumption)
                                refine K.GC.region ?_
                                refine K.GL.det (K.e_fieldAddr fo35_3 rfl) rfl ?_
                                first | refine K.GL.det (K.e_load Try.isAgg4 rfl rfl) rfl ?_ | refine K.GL.det (K.e_load0 Try.isAgg4 rfl (by assumption)) rfl ?_
                                refine K.GL.det (K.e_fieldAddr fo33_0 rfl) rfl ?_
                                refine K.GL.det (K.e_fieldAddr fo28_4 rfl) rfl ?_
                                refine K.GL.store rfl rfl rfl Try.sizeOf4 rfl rfl ?_
                                refine K.GL.nil ?_
                                refine K.GQ.block_normal ?_
                                refine K.GQ.go ?_
                                refine K.GC.seq ?_
                                first
                                  | (have hW := del_ne (by assumption) hr hv2 hk.ids
                                     have hS2 := hS
                                     first
                                       | refine K.GC.res (L' := [cl b7 33 (encE (r.getD EX.zero) wa wc), IdxR d g2]) ?_ (Sub.take (i := 4) rfl (Sub.take (i := 0) rfl (Sub.nil _)))
                                       | refine K.GC.res (L' := [cl b7 33 (encE (r.getD EX.zero) wa wc), IdxR d g2]) ?_ (Sub.take (i := 6) rfl (Sub.take (i := 0) rfl (Sub.nil _))))
                                  | (have hW := mod_ne (by assumption) hr hv2 (fun _ => rfl)
                                     have hS2 := hS
                                     first
                                       | refine K.GC.res (L' := [cl b7 33 (encE (r.getD EX.zero) wa wc), IdxR d g2]) ?_ (Sub.take (i := 4) rfl (Sub.take (i := 0) rfl (Sub.nil _)))
                                       | refine K.GC.res (L' := [cl b7 33 (encE (r.getD EX.zero) wa wc), IdxR d g2]) ?_ (Sub.take (i := 6) rfl (Sub.take (i := 0) rfl (Sub.nil _))))
                                  | (have hW := put_ne (by assumption) hr hv2
                                     have hS2 := hS
                                     first
                                       | refine K.GC.res (L' := [cl b7 33 (encE (r.getD EX.zero) wa wc), IdxR d g2]) ?_ (Sub.take (i := 4) rfl (Sub.take (i := 0) rfl (Sub.nil _)))
                                       | refine K.GC.res (L' := [cl b7 33 (encE (r.getD EX.zero) wa wc), IdxR d g2]) ?_ (Sub.take (i := 6) rfl (Sub.take (i := 0) rfl (Sub.nil _))))
                                  | (have hW := mod_no (by assumption) hr hv2 (fun _ => rfl)
                                     have hS2 := hS
                                     first
                                       | refine K.GC.res (L' := [cl b7 33 (encE (r.getD EX.zero) wa wc), IdxR d g2]) ?_ (Sub.take (i := 4) rfl (Sub.take (i := 0) rfl (Sub.nil _)))
                                       | refine K.GC.res (L' := [cl b7 33 (encE (r.getD EX.zero) wa wc), IdxR d g2]) ?_ (Sub.take (i := 6) rfl (Sub.take (i := 0) rfl (Sub.nil _))))
                                  | (have hW := mod_eq (f := pinF q.is) (by assumption) hr hv2 (fun _ => rfl)
                                     have hS2 : Sl w 1 wa ((pinF q.is y).sv.length) (strs (pinF q.is y).sv) := hS
                                     first
                                       | refine K.GC.res (L' := [cl b7 33 (encE ((some (pinF q.is y)).getD EX.zero) wa wc), IdxR d g2]) ?_ (Sub.take (i := 4) rfl (Sub.take (i := 0) rfl (Sub.nil _)))
                                       | refine K.GC.res (L' := [cl b7 33 (encE ((some (pinF q.is y)).getD EX.zero) wa wc), IdxR d g2]) ?_ (Sub.take (i := 6) rfl (Sub.take (i := 0) rfl (Sub.nil _))))
                                  | (have hW := mod_eq (f := clsF q.cls) (by assumption) hr hv2 (fun _ => rfl)
                                     have hS2 : Sl w 1 wa ((clsF q.cls y).sv.length) (strs (clsF q.cls y).sv) := hS
                                     first
                                       | refine K.GC.res (L' := [cl b7 33 (encE ((some (clsF q.cls y)).getD EX.zero) wa wc), IdxR d g2]) ?_ (Sub.take (i := 4) rfl (Sub.take (i := 0) rfl (Sub.nil _)))
                                       | refine K.GC.res (L' := [cl b7 33 (encE ((some (clsF q.cls y)).getD EX.zero) wa wc), IdxR d g2]) ?_ (Sub.take (i := 6) rfl (Sub.take (i := 0) rfl (Sub.nil _))))
                                  | (have hW := mod_eq (f := movF q.seq q.at_ q.size) (by assumption) hr hv2 (fun _ => rfl)
                                     have hS2 : Sl w 1 wa ((movF q.seq q.at_ q.size y).sv.length) (strs (movF q.seq q.at_ q.size y).sv) := hS
                                     first
                                       | refine K.GC.res (L' := [cl b7 33 (encE ((some (movF q.seq q.at_ q.size y)).getD EX.zero) wa wc), IdxR d g2]) ?_ (Sub.take (i := 4) rfl (Sub.take (i := 0) rfl (Sub.nil _)))
                                       | refine K.GC.res (L' := [cl b7 33 (encE ((some (movF q.seq q.at_ q.size y)).getD EX.zero) wa wc), IdxR d g2]) ?_ (Sub.take (i := 6) rfl (Sub.take (i := 0) rfl (Sub.nil _))))
                                  | (have hW := del_eq (by assumption) hv2 hk.ids
                                     have hS2 := sl_zero (w := w)
                                     first
                                       | refine K.GC.res (L' := [cl b7 33 (encE ((none : Option EX).getD EX.zero) none 0), IdxR d g2]) ?_ (Sub.take (i := 4) rfl (Sub.take (i := 0) rfl (Sub.nil _)))
                                       | refine K.GC.res (L' := [cl b7 33 (encE ((none : Option EX).getD EX.zero) none 0), IdxR d g2]) ?_ (Sub.take (i := 6) rfl (Sub.take (i := 0) rfl (Sub.nil _))))
                                  | (have hW := put_eq (by assumption) hv2
                                     have hS2 := (hG q (List.mem_of_getElem? hq)).e.sl
                                     first
                                       | refine K.GC.res (L' := [cl b7 33 (encE ((some q.e).getD EX.zero) q.ea q.ec), IdxR d g2]) ?_ (Sub.take (i := 4) rfl (Sub.take (i := 0) rfl (Sub.nil _)))
                                       | refine K.GC.res (L' := [cl b7 33 (encE ((some q.e).getD EX.zero) q.ea q.ec), IdxR d g2]) ?_ (Sub.take (i := 6) rfl (Sub.take (i := 0) rfl (Sub.nil _))))
                                refine K.GC.region ?_
                                refine K.GL.det (K.e_move rfl) rfl ?_
                                refine K.GL.det (K.e_move rfl) rfl ?_
                                refine gl_get Try.call12 rfl hk2 hW rfl (fun a160 c160 => ?_)
                                refine K.GL.det (K.e_move rfl) rfl ?_
                                refine K.GL.det (K.e_extract rfl rfl) rfl ?_
                                refine K.GL.det (K.e_extract rfl rfl) rfl ?_
                                refine K.GL.alloc Try.zeroValue33 rfl rfl (fun b15 => ?_)
                                refine K.GL.store rfl rfl rfl Try.sizeOf33 rfl rfl ?_
                                refine K.GL.det (K.e_assign rfl) rfl ?_
                                refine K.GL.nil ?_
                                refine K.GQ.go ?_
                                refine K.GC.seq ?_
                                refine K.GC.region ?_
                                refine K.GL.det (K.e_move rfl) rfl ?_
                                refine K.GL.det (K.e_move rfl) rfl ?_
                                refine K.GL.det ((K.e_neb Try.underlying4 rfl rfl).cast_bool (b := false) (by first | rfl | simp)) rfl ?_
                                refine K.GL.det (K.e_move rfl) rfl ?_
                                first | refine K.GL.splitB 166 rfl (fun h16 => ?_) (fun h16 => ?_) | skip
                                all_goals first | exact absurd h16 (by decide) | replace h16 := of_decide_eq_true h16 | replace h16 := of_decide_eq_false h16 | skip
                                all_goals
                                  first | (refine K.GL.want 166 rfl rfl rfl ?_; first | refine K.GL.det (K.e_loads Try.isAgg33 Try.sizeOf33 rfl rfl) rfl ?_) | refine K.GL.skip 166 rfl rfl rfl rfl ?_ | refine K.GL.skipU 166 rfl rfl rfl rfl ?_
                                  first | (refine K.GL.want 166 rfl rfl rfl ?_; first | refine K.GL.det (K.e_loads Try.isAgg33 Try.sizeOf33 rfl rfl) rfl ?_) | refine K.GL.skip 166 rfl rfl rfl rfl ?_ | refine K.GL.skipU 166 rfl rfl rfl rfl ?_
                                  first | (refine K.GL.want 166 rfl rfl rfl ?_; first | refine K.GL.det ((K.e_call1 Try.call18 rfl (fun w hT => same_at hW (hT.sl_row (List.mem_of_getElem? (i := 1) rfl) (by omega) (by rw [strs_length, Nat.mul_one])) (hS2.stay hT (fun r hr => by cases hr)) (get_lt hk2 hW)))) rfl ?_) | refine K.GL.skip 166 rfl rfl rfl rfl ?_ | refine K.GL.skipU 166 rfl rfl rfl rfl ?_
                                  first | (refine K.GL.want 166 rfl rfl rfl ?_; first | refine K.GL.det ((K.e_not rfl).cast_bool (b := false) rfl) rfl ?_) | refine K.GL.skip 166 rfl rfl rfl rfl ?_ | refine K.GL.skipU 166 rfl rfl rfl rfl ?_
                                  first | refine K.GL.det (K.e_pick_t rfl rfl) rfl ?_ | refine K.GL.det (K.e_pick_f rfl rfl) rfl ?_
                                  refine K.GL.nil ?_
                                  refine K.GQ.go ?_
                                  refine K.GC.condB rfl (fun h17 => ?_) (fun h17 => ?_)
                                  · first
                                    | exact absurd h17 (by decide)
                                    | try replace h17 := of_decide_eq_true h17
                                      refine K.GC.seq ?_
                                      refine K.GC.region ?_
                                      refine K.GL.det (K.e_assign rfl) rfl ?_
                                      refine K.GL.nil ?_
                                      refine K.GQ.go ?_
                                      refine K.GC.ret ?_
                                      refine K.GQ.block_ret ?_
                                      refine K.GQ.then_ret ?_
                                      refine K.GQ.then_ret ?_
                                      refine K.GQ.block_ret ?_
                                      refine K.GQ.then_ret ?_
                                      refine K.GQ.ret1 Try.results3 rfl (fun w hT => ?_)
                                      exact ⟨rfl, hT.nil⟩
                                  · first
                                    | exact absurd h17 (by decide)
                                    | try replace h17 := of_decide_eq_false h17
                                      refine K.GC.skip ?_
                                      refine K.GQ.block_normal ?_
                                      refine K.GQ.go ?_
                                      refine K.GC.region ?_
                                      refine K.GL.det (K.e_move rfl) rfl ?_
                                      first | refine K.GL.det (K.e_add rfl rfl ⟨by omega, by omega⟩) rfl ?_ | refine K.GL.det (K.e_addw rfl rfl) rfl ?_
                                      refine K.GL.det (K.e_assign rfl) rfl ?_
                                      refine K.GL.nil ?_
                                      exact K.GQ.round (x + 1, g2, _, _, _) ⟨by simp only; omega, hk2, hW, hS2⟩ (by simp only; omega) (by (repeat refine ⟨rfl, ?_⟩); exact trivial) (Sub.take (i := 2) rfl (Sub.take (i := 2) rfl (Sub.nil _)))
                            · first
                              | exact absurd h15 (by decide)
                              | try replace h15 := of_decide_eq_false h15
                                refine K.GC.skip ?_
                                refine K.GQ.block_normal ?_
                                refine K.GQ.go ?_
                                refine K.GC.seq ?_
                                first
                                  | (have hW := del_ne (by assumption) hr hv2 hk.ids
                                     have hS2 := hS
                                     first
                                       | refine K.GC.res (L' := [cl b7 33 (encE (r.getD EX.zero) wa wc), IdxR d g2]) ?_ (Sub.take (i := 4) rfl (Sub.take (i := 0) rfl (Sub.nil _)))
                                       | refine K.GC.res (L' := [cl b7 33 (encE (r.getD EX.zero) wa wc), IdxR d g2]) ?_ (Sub.take (i := 6) rfl (Sub.take (i := 0) rfl (Sub.nil _))))
                                  | (have hW := mod_ne (by assumption) hr hv2 (fun _ => rfl)
                                     have hS2 := hS
                                     first
                                       | refine K.GC.res (L' := [cl b7 33 (encE (r.getD EX.zero) wa wc), IdxR d g2]) ?_ (Sub.take (i := 4) rfl (Sub.take (i := 0) rfl (Sub.nil _)))
                                       | refine K.GC.res (L' := [cl b7 33 (encE (r.getD EX.zero) wa wc), IdxR d g2]) ?_ (Sub.take (i := 6) rfl (Sub.take (i := 0) rfl (Sub.nil _))))
                                  | (have hW := put_ne (by assumption) hr hv2
                                     have hS2 := hS
                                     first
                                       | refine K.GC.res (L' := [cl b7 33 (encE (r.getD EX.zero) wa wc), IdxR d g2]) ?_ (Sub.take (i := 4) rfl (Sub.take (i := 0) rfl (Sub.nil _)))
                                       | refine K.GC.res (L' := [cl b7 33 (encE (r.getD EX.zero) wa wc), IdxR d g2]) ?_ (Sub.take (i := 6) rfl (Sub.take (i := 0) rfl (Sub.nil _))))
                                  | (have hW := mod_no (by assumption) hr hv2 (fun _ => rfl)
                                     have hS2 := hS
                                     first
                                       | refine K.GC.res (L' := [cl b7 33 (encE (r.getD EX.zero) wa wc), IdxR d g2]) ?_ (Sub.take (i := 4) rfl (Sub.take (i := 0) rfl (Sub.nil _)))
                                       | refine K.GC.res (L' := [cl b7 33 (encE (r.getD EX.zero) wa wc), IdxR d g2]) ?_ (Sub.take (i := 6) rfl (Sub.take (i := 0) rfl (Sub.nil _))))
                                  | (have hW := mod_eq (f := pinF q.is) (by assumption) hr hv2 (fun _ => rfl)
                                     have hS2 : Sl w 1 wa ((pinF q.is y).sv.length) (strs (pinF q.is y).sv) := hS
                                     first
                                       | refine K.GC.res (L' := [cl b7 33 (encE ((some (pinF q.is y)).getD EX.zero) wa wc), IdxR d g2]) ?_ (Sub.take (i := 4) rfl (Sub.take (i := 0) rfl (Sub.nil _)))
                                       | refine K.GC.res (L' := [cl b7 33 (encE ((some (pinF q.is y)).getD EX.zero) wa wc), IdxR d g2]) ?_ (Sub.take (i := 6) rfl (Sub.take (i := 0) rfl (Sub.nil _))))
                                  | (have hW := mod_eq (f := clsF q.cls) (by assumption) hr hv2 (fun _ => rfl)
                                     have hS2 : Sl w 1 wa ((clsF q.cls y).sv.length) (strs (clsF q.cls y).sv) := hS
                                     first
                                       | refine K.GC.res (L' := [cl b7 33 (encE ((some (clsF q.cls y)).getD EX.zero) wa wc), IdxR d g2]) ?_ (Sub.take (i := 4) rfl (Sub.take (i := 0) rfl (Sub.nil _)))
                                       | refine K.GC.res (L' := [cl b7 33 (encE ((some (clsF q.cls y)).getD EX.zero) wa wc), IdxR d g2]) ?_ (Sub.take (i := 6) rfl (Sub.take (i := 0) rfl (Sub.nil _))))
                                  | (have hW := mod_eq (f := movF q.seq q.at_ q.size) (by assumption) hr hv2 (fun _ => rfl)
                                     have hS2 : Sl w 1 wa ((movF q.seq q.at_ q.size y).sv.length) (strs (movF q.seq q.at_ q.size y).sv) := hS
                                     first
                                       | refine K.GC.res (L' := [cl b7 33 (encE ((some (movF q.seq q.at_ q.size y)).getD EX.zero) wa wc), IdxR d g2]) ?_ (Sub.take (i := 4) rfl (Sub.take (i := 0) rfl (Sub.nil _)))
                                       | refine K.GC.res (L' := [cl b7 33 (encE ((some (movF q.seq q.at_ q.size y)).getD EX.zero) wa wc), IdxR d g2]) ?_ (Sub.take (i := 6) rfl (Sub.take (i := 0) rfl (Sub.nil _))))
                                  | (have hW := del_eq (by assumption) hv2 hk.ids
                                     have hS2 := sl_zero (w := w)
                                     first
                                       | refine K.GC.res (L' := [cl b7 33 (encE ((none : Option EX).getD EX.zero) none 0), IdxR d g2]) ?_ (Sub.take (i := 4) rfl (Sub.take (i := 0) rfl (Sub.nil _)))
                                       | refine K.GC.res (L' := [cl b7 33 (encE ((none : Option EX).getD EX.zero) none 0), IdxR d g2]) ?_ (Sub.take (i := 6) rfl (Sub.take (i := 0) rfl (Sub.nil _))))
                                  | (have hW := put_eq (by assumption) hv2
                                     have hS2 := (hG q (List.mem_of_getElem? hq)).e.sl
                                     first
                                       | refine K.GC.res (L' := [cl b7 33 (encE ((some q.e).getD EX.zero) q.ea q.ec), IdxR d g2]) ?_ (Sub.take (i := 4) rfl (Sub.take (i := 0) rfl (Sub.nil _)))
                                       | refine K.GC.res (L' := [cl b7 33 (encE ((some q.e).getD EX.zero) q.ea q.ec), IdxR d g2]) ?_ (Sub.take (i := 6) rfl (Sub.take (i := 0) rfl (Sub.nil _))))
                                refine K.GC.region ?_
                                refine K.GL.det (K.e_move rfl) rfl ?_
                                refine K.GL.det (K.e_move rfl) rfl ?_
                                refine gl_get Try.call12 rfl hk2 hW rfl (fun a160 c160 => ?_)
                                refine K.GL.det (K.e_move rfl) rfl ?_
                                refine K.GL.det (K.e_extract rfl rfl) rfl ?_
                                refine K.GL.det (K.e_extract rfl rfl) rfl ?_
                                refine K.GL.alloc Try.zeroValue33 rfl rfl (fun b15 => ?_)
                                refine K.GL.store rfl rfl rfl Try.sizeOf33 rfl rfl ?_
                                refine K.GL.det (K.e_assign rfl) rfl ?_
                                refine K.GL.nil ?_
                                refine K.GQ.go ?_
                                refine K.GC.seq ?_
                                refine K.GC.region ?_
                                refine K.GL.det (K.e_move rfl) rfl ?_
                                refine K.GL.det (K.e_move rfl) rfl ?_
                                refine K.GL.det ((K.e_neb Try.underlying4 rfl rfl).cast_bool (b := false) (by first | rfl | simp)) rfl ?_
                                refine K.GL.det (K.e_move rfl) rfl ?_
                                first | refine K.GL.splitB 166 rfl (fun h18 => ?_) (fun h18 => ?_) | skip
                                all_goals first | exact absurd h18 (by decide) | replace h18 := of_decide_eq_true h18 | replace h18 := of_decide_eq_false h18 | skip
                                all_goals
                                  first | (refine K.GL.want 166 rfl rfl rfl ?_; first | refine K.GL.det (K.e_loads Try.isAgg33 Try.sizeOf33 rfl rfl) rfl ?_) | refine K.GL.skip 166 rfl rfl rfl rfl ?_ | refine K.GL.skipU 166 rfl rfl rfl rfl ?_
                                  first | (refine K.GL.want 166 rfl rfl rfl ?_; first | refine K.GL.det (K.e_loads Try.isAgg33 Try.sizeOf33 rfl rfl) rfl ?_) | refine K.GL.skip 166 rfl rfl rfl rfl ?_ | refine K.GL.skipU 166 rfl rfl rfl rfl ?_
                                  first | (refine K.GL.want 166 rfl rfl rfl ?_; first | refine K.GL.det ((K.e_call1 Try.call18 rfl (fun w hT => same_at hW (hT.sl_row (List.mem_of_getElem? (i := 1) rfl) (by omega) (by rw [strs_length, Nat.mul_one])) (hS2.stay hT (fun r hr => by cases hr)) (get_lt hk2 hW)))) rfl ?_) | refine K.GL.skip 166 rfl rfl rfl rfl ?_ | refine K.GL.skipU 166 rfl rfl rfl rfl ?_
                                  first | (refine K.GL.want 166 rfl rfl rfl ?_; first | refine K.GL.det ((K.e_not rfl).cast_bool (b := false) rfl) rfl ?_) | refine K.GL.skip 166 rfl rfl rfl rfl ?_ | refine K.GL.skipU 166 rfl rfl rfl rfl ?_
                                  first | refine K.GL.det (K.e_pick_t rfl rfl) rfl ?_ | refine K.GL.det (K.e_pick_f rfl rfl) rfl ?_
                                  refine K.GL.nil ?_
                                  refine K.GQ.go ?_
                                  refine K.GC.condB rfl (fun h19 => ?_) (fun h19 => ?_)
                                  · first
                                    | exact absurd h19 (by decide)
                                    | try replace h19 := of_decide_eq_true h19
                                      refine K.GC.seq ?_
                                      refine K.GC.region ?_
                                      refine K.GL.det (K.e_assign rfl) rfl ?_
                                      refine K.GL.nil ?_
                                      refine K.GQ.go ?_
                                      refine K.GC.ret ?_
                                      refine K.GQ.block_ret ?_
                                      refine K.GQ.then_ret ?_
                                      refine K.GQ.then_ret ?_
                                      refine K.GQ.block_ret ?_
                                      refine K.GQ.then_ret ?_
                                      refine K.GQ.ret1 Try.results3 rfl (fun w hT => ?_)
                                      exact ⟨rfl, hT.nil⟩
                                  · first
                                    | exact absurd h19 (by decide)
                                    | try replace h19 := of_decide_eq_false h19
                                      refine K.GC.skip ?_
                                      refine K.GQ.block_normal ?_
                                      refine K.GQ.go ?_
                                      refine K.GC.region ?_
                                      refine K.GL.det (K.e_move rfl) rfl ?_
                                      first | refine K.GL.det (K.e_add rfl rfl ⟨by omega, by omega⟩) rfl ?_ | refine K.GL.det (K.e_addw rfl rfl) rfl ?_
                                      refine K.GL.det (K.e_assign rfl) rfl ?_
                                      refine K.GL.nil ?_
                                      exact K.GQ.round (x + 1, g2, _, _, _) ⟨by simp only; omega, hk2, hW, hS2⟩ (by simp only; omega) (by (repeat refine ⟨rfl, ?_⟩); exact trivial) (Sub.take (i := 2) rfl (Sub.take (i := 2) rfl (Sub.nil _)))
                  · first
                    | exact absurd h12 (by decide)
                    | try replace h12 := of_decide_eq_false h12
                      refine K.GC.seq ?_
                      refine K.GC.region ?_
                      first | refine K.GL.det ((K.e_eq rfl rfl).yes (by first | omega | assumption | decide +kernel)) rfl ?_ | refine K.GL.det ((K.e_eq rfl rfl).no (by first | omega | assumption | decide +kernel)) rfl ?_ | refine K.GL.det (K.e_eq rfl rfl) rfl ?_
                      refine K.GL.det (K.e_assign rfl) rfl ?_
                      refine K.GL.nil ?_
                      refine K.GQ.go ?_
                      refine K.GC.condB rfl (fun h20 => ?_) (fun h20 => ?_)
                      · first
                        | exact absurd h20 (by decide)
                        | try replace h20 := of_decide_eq_true h20
                          refine K.GC.seq ?_
                          refine K.GC.seq ?_
                          refine K.GC.region ?_
                          refine K.GL.det (K.e_move rfl) rfl ?_
                          refine K.GL.det (K.e_fieldAddr fo35_2 rfl) rfl ?_
                          first | refine K.GL.det (K.e_load Try.isAgg2 rfl rfl) rfl ?_ | refine K.GL.det (K.e_load0 Try.isAgg2 rfl (by assumption)) rfl ?_
                          refine K.GL.det (K.e_fieldAddr fo35_4 rfl) rfl ?_
                          first | refine K.GL.det (K.e_load Try.isAgg3 rfl rfl) rfl ?_ | refine K.GL.det (K.e_load0 Try.isAgg3 rfl (by assumption)) rfl ?_
                          refine gl_class (was := (xget q.id g.ents).isSome) Try.call15 rfl hk rfl rfl (fun g2 hk2 hv2 => ?_)
                          refine K.GL.det (K.e_move rfl) rfl ?_
                          refine K.GL.det ((K.e_neb Try.underlying4 rfl rfl).cast_bool (b := false) (by first | rfl | simp)) rfl ?_
                          refine K.GL.nil ?_
                          refine K.GQ.go ?_
                          refine K.GC.condB rfl (fun h21 => ?_) (fun h21 => ?_)
                          · first
                            | exact absurd h21 (by decide)
                            | try replace h21 := of_decide_eq_true h21
                              refine K.GC.seq ?_
                              refine K.GC.region ?_
                              refine K.GL.det (K.e_assign rfl) rfl ?_
                              refine K.GL.nil ?_
                              refine K.GQ.go ?_
                              refine K.GC.ret ?_
                              refine K.GQ.then_ret ?_
                              refine K.GQ.block_ret ?_
                              refine K.GQ.then_ret ?_
                              refine K.GQ.block_ret ?_
                              refine K.GQ.then_ret ?_
                              refine K.GQ.then_ret ?_
                              refine K.GQ.block_ret ?_
                              refine K.GQ.then_ret ?_
                              refine K.GQ.ret1 Try.results3 rfl (fun w hT => ?_)
                              exact ⟨rfl, hT.nil⟩
                          · first
                            | exact absurd h21 (by decide)
                            | try replace h21 := of_decide_eq_false h21
                              refine K.GC.skip ?_
                              refine K.GQ.go ?_
                              refine K.GC.seq ?_
                              refine K.GC.region ?_
                              refine K.GL.det (K.e_fieldAddr fo35_2 rfl) rfl ?_
                              first | refine K.GL.det (K.e_load Try.isAgg2 rfl rfl) rfl ?_ | refine K.GL.det (K.e_load0 Try.isAgg2 rfl (by assumption)) rfl ?_
                              refine K.GL.det (K.e_move rfl) rfl ?_
                              first | refine K.GL.det ((K.e_eq rfl rfl).yes (by first | omega | assumption | decide +kernel)) rfl ?_ | refine K.GL.det ((K.e_eq rfl rfl).no (by first | omega | assumption | decide +kernel)) rfl ?_ | refine K.GL.det (K.e_eq rfl rfl) rfl ?_
                              refine K.GL.det (K.e_move rfl) rfl ?_
                              first | refine K.GL.splitB 120 rfl (fun h22 => ?_) (fun h22 => ?_) | skip
                              all_goals first | exact absurd h22 (by decide) | replace h22 := of_decide_eq_true h22 | replace h22 := of_decide_eq_false h22 | skip
                              all_goals
                                first | (refine K.GL.want 120 rfl rfl rfl ?_; first | refine K.GL.det (K.e_move rfl) rfl ?_) | refine K.GL.skip 120 rfl rfl rfl rfl ?_ | refine K.GL.skipU 120 rfl rfl rfl rfl ?_
                                first | refine K.GL.det (K.e_pick_t rfl rfl) rfl ?_ | refine K.GL.det (K.e_pick_f rfl rfl) rfl ?_
                                refine K.GL.nil ?_
                                refine K.GQ.go ?_
                                refine K.GC.condB rfl (fun h23 => ?_) (fun h23 => ?_)
                                · first
                                  | exact absurd h23 (by decide)
                                  | try replace h23 := of_decide_eq_true h23
                                    obtain ⟨y, rfl⟩ : ∃ y, r = some y := Option.isSome_iff_exists.1 (by assumption)
                                    refine K.GC.region ?_
                                    refine K.GL.det (K.e_fieldAddr fo35_4 rfl) rfl ?_
                                    first | refine K.GL.det (K.e_load Try.isAgg3 rfl rfl) rfl ?_ | refine K.GL.det (K.e_load0 Try.isAgg3 rfl (by assumption)) rfl ?_
                                    refine K.GL.det (K.e_fieldAddr fo33_0 rfl) rfl ?_
                                    refine K.GL.det (K.e_fieldAddr fo28_1 rfl) rfl ?_
                                    refine K.GL.store rfl rfl rfl Try.sizeOf3 rfl rfl ?_
                                    refine K.GL.nil ?_
                                    refine K.GQ.block_normal ?_
                                    refine K.GQ.go ?_
                                    refine K.GC.seq ?_
                                    first
                                      | (have hW := del_ne (by assumption) hr hv2 hk.ids
                                         have hS2 := hS
                                         first
                                           | refine K.GC.res (L' := [cl b7 33 (encE (r.getD EX.zero) wa wc), IdxR d g2]) ?_ (Sub.take (i := 4) rfl (Sub.take (i := 0) rfl (Sub.nil _)))
                                           | refine K.GC.res (L' := [cl b7 33 (encE (r.getD EX.zero) wa wc), IdxR d g2]) ?_ (Sub.take (i := 6) rfl (Sub.take (i := 0) rfl (Sub.nil _))))
                                      | (have hW := mod_ne (by assumption) hr hv2 (fun _ => rfl)
                                         have hS2 := hS
                                         first
                                           | refine K.GC.res (L' := [cl b7 33 (encE (r.getD EX.zero) wa wc), IdxR d g2]) ?_ (Sub.take (i := 4) rfl (Sub.take (i := 0) rfl (Sub.nil _)))
                                           | refine K.GC.res (L' := [cl b7 33 (encE (r.getD EX.zero) wa wc), IdxR d g2]) ?_ (Sub.take (i := 6) rfl (Sub.take (i := 0) rfl (Sub.nil _))))
                                      | (have hW := put_ne (by assumption) hr hv2
                                         have hS2 := hS
                                         first
                                           | refine K.GC.res (L' := [cl b7 33 (encE (r.getD EX.zero) wa wc), IdxR d g2]) ?_ (Sub.take (i := 4) rfl (Sub.take (i := 0) rfl (Sub.nil _)))
                                           | refine K.GC.res (L' := [cl b7 33 (encE (r.getD EX.zero) wa wc), IdxR d g2]) ?_ (Sub.take (i := 6) rfl (Sub.take (i := 0) rfl (Sub.nil _))))
                                      | (have hW := mod_no (by assumption) hr hv2 (fun _ => rfl)
                                         have hS2 := hS
                                         first
                                           | refine K.GC.res (L' := [cl b7 33 (encE (r.getD EX.zero) wa wc), IdxR d g2]) ?_ (Sub.take (i := 4) rfl (Sub.take (i := 0) rfl (Sub.nil _)))
                                           | refine K.GC.res (L' := [cl b7 33 (encE (r.getD EX.zero) wa wc), IdxR d g2]) ?_ (Sub.take (i := 6) rfl (Sub.take (i := 0) rfl (Sub.nil _))))
                                      | (have hW := mod_eq (f := pinF q.is) (by assumption) hr hv2 (fun _ => rfl)
                                         have hS2 : Sl w 1 wa ((pinF q.is y).sv.length) (strs (pinF q.is y).sv) := hS
                                         first
                                           | refine K.GC.res (L' := [cl b7 33 (encE ((some (pinF q.is y)).getD EX.zero) wa wc), IdxR d g2]) ?_ (Sub.take (i := 4) rfl (Sub.take (i := 0) rfl (Sub.nil _)))
                                           | refine K.GC.res (L' := [cl b7 33 (encE ((some (pinF q.is y)).getD EX.zero) wa wc), IdxR d g2]) ?_ (Sub.take (i := 6) rfl (Sub.take (i := 0) rfl (Sub.nil _))))
                                      | (have hW := mod_eq (f := clsF q.cls) (by assumption) hr hv2 (fun _ => rfl)
                                         have hS2 : Sl w 1 wa ((clsF q.cls y).sv.length) (strs (clsF q.cls y).sv) := hS
                                         first
                                           | refine K.GC.res (L' := [cl b7 33 (encE ((some (clsF q.cls y)).getD EX.zero) wa wc), IdxR d g2]) ?_ (Sub.take (i := 4) rfl (Sub.take (i := 0) rfl (Sub.nil _)))
                                           | refine K.GC.res (L' := [cl b7 33 (encE ((some (clsF q.cls y)).getD EX.zero) wa wc), IdxR d g2]) ?_ (Sub.take (i := 6) rfl (Sub.take (i := 0) rfl (Sub.nil _))))
                                      | (have hW := mod_eq (f := movF q.seq q.at_ q.size) (by assumption) hr hv2 (fun _ => rfl)
                                         have hS2 : Sl w 1 wa ((movF q.seq q.at_ q.size y).sv.length) (strs (movF q.seq q.at_ q.size y).sv) := hS
                                         first
                                           | refine K.GC.res (L' := [cl b7 33 (encE ((some (movF q.seq q.at_ q.size y)).getD EX.zero) wa wc), IdxR d g2]) ?_ (Sub.take (i := 4) rfl (Sub.take (i := 0) rfl (Sub.nil _)))
                                           | refine K.GC.res (L' := [cl b7 33 (encE ((some (movF q.seq q.at_ q.size y)).getD EX.zero) wa wc), IdxR d g2]) ?_ (Sub.take (i := 6) rfl (Sub.take (i := 0) rfl (Sub.nil _))))
                                      | (have hW := del_eq (by assumption) hv2 hk.ids
                                         have hS2 := sl_zero (w := w)
                                         first
                                           | refine K.GC.res (L' := [cl b7 33 (encE ((none : Option EX).getD EX.zero) none 0), IdxR d g2]) ?_ (Sub.take (i := 4) rfl (Sub.take (i := 0) rfl (Sub.nil _)))
                                           | refine K.GC.res (L' := [cl b7 33 (encE ((none : Option EX).getD EX.zero) none 0), IdxR d g2]) ?_ (Sub.take (i := 6) rfl (Sub.take (i := 0) rfl (Sub.nil _))))
                                      | (have hW := put_eq (by assumption) hv2
                                         have hS2 := (hG q (List.mem_of_getElem? hq)).e.sl
                                         first
                                           | refine K.GC.res (L' := [cl b7 33 (encE ((some q.e).getD EX.zero) q.ea q.ec), IdxR d g2]) ?_ (Sub.take (i := 4) rfl (Sub.take (i := 0) rfl (Sub.nil _)))
                                           | refine K.GC.res (L' := [cl b7 33 (encE ((some q.e).getD EX.zero) q.ea q.ec), IdxR d g2]) ?_ (Sub.take (i := 6) rfl (Sub.take (i := 0) rfl (Sub.nil _))))
                                    refine K.GC.region ?_
                                    refine K.GL.det (K.e_move rfl) rfl ?_
                                    refine K.GL.det (K.e_move rfl) rfl ?_
                                    refine gl_get Try.call12 rfl hk2 hW rfl (fun a160 c160 => ?_)
                                    refine K.GL.det (K.e_move rfl) rfl ?_
                                    refine K.GL.det (K.e_extract rfl rfl) rfl ?_
                                    refine K.GL.det (K.e_extract rfl rfl) rfl ?_
                                    refine K.GL.alloc Try.zeroValue33 rfl rfl (fun b15 => ?_)
                                    refine K.GL.store rfl rfl rfl Try.sizeOf33 rfl rfl ?_
                                    refine K.GL.det (K.e_assign rfl) rfl ?_
                                    refine K.GL.nil ?_
                                    refine K.GQ.go ?_
                                    refine K.GC.seq ?_
                                    refine K.GC.region ?_
                                    refine K.GL.det (K.e_move rfl) rfl ?_
                                    refine K.GL.det (K.e_move rfl) rfl ?_
                                    refine K.GL.det ((K.e_neb Try.underlying4 rfl rfl).cast_bool (b := false) (by first | rfl | simp)) rfl ?_
                                    refine K.GL.det (K.e_move rfl) rfl ?_
                                    first | refine K.GL.splitB 166 rfl (fun h24 => ?_) (fun h24 => ?_) | skip
                                    all_goals first | exact absurd h24 (by decide) | replace h24 := of_decide_eq_true h24 | replace h24 := of_decide_eq_false h24 | skip
                                    all_goals
                                      first | (refine K.GL.want 166 rfl rfl rfl ?_; first | refine K.GL.det (K.e_loads Try.isAgg33 Try.sizeOf33 rfl rfl) rfl ?_) | refine K.GL.skip 166 rfl rfl rfl rfl ?_ | refine K.GL.skipU 166 rfl rfl rfl rfl ?_
                                      first | (refine K.GL.want 166 rfl rfl rfl ?_; first | refine K.GL.det (K.e_loads Try.isAgg33 Try.sizeOf33 rfl rfl) rfl ?_) | refine K.GL.skip 166 rfl rfl rfl rfl ?_ | refine K.GL.skipU 166 rfl rfl rfl rfl ?_
                                      first | (refine K.GL.want 166 rfl rfl rfl ?_; first | refine K.GL.det ((K.e_call1 Try.call18 rfl (fun w hT => same_at hW (hT.sl_row (List.mem_of_getElem? (i := 1) rfl) (by omega) (by rw [strs_length, Nat.mul_one])) (hS2.stay hT (fun r hr => by cases hr)) (get_lt hk2 hW)))) rfl ?_) | refine K.GL.skip 166 rfl rfl rfl rfl ?_ | refine K.GL.skipU 166 rfl rfl rfl rfl ?_
                                      first | (refine K.GL.want 166 rfl rfl rfl ?_; first | refine K.GL.det ((K.e_not rfl).cast_bool (b := false) rfl) rfl ?_) | refine K.GL.skip 166 rfl rfl rfl rfl ?_ | refine K.GL.skipU 166 rfl rfl rfl rfl ?_
                                      first | refine K.GL.det (K.e_pick_t rfl rfl) rfl ?_ | refine K.GL.det (K.e_pick_f rfl rfl) rfl ?_
                                      refine K.GL.nil ?_
                                      refine K.GQ.go ?_
                                      refine K.GC.condB rfl (fun h25 => ?_) (fun h25 => ?_)
                                      · first
                                        | exact absurd h25 (by decide)
                                        | try replace h25 := of_decide_eq_true h25
                                          refine K.GC.seq ?_
                                          refine K.GC.region ?_
                                          refine K.GL.det (K.e_assign rfl) rfl ?_
                                          refine K.GL.nil ?_
                                          refine K.GQ.go ?_
                                          refine K.GC.ret ?_
                                          refine K.GQ.block_ret ?_
                                          refine K.GQ.then_ret ?_
                                          refine K.GQ.then_ret ?_
                                          refine K.GQ.block_ret ?_
                                          refine K.GQ.then_ret ?_
                                          refine K.GQ.ret1 Try.results3 rfl (fun w hT => ?_)
                                          exact ⟨rfl, hT.nil⟩
                                      · first
                                        | exact absurd h25 (by decide)
                                        | try replace h25 := of_decide_eq_false h25
                                          refine K.GC.skip ?_
                                          refine K.GQ.block_normal ?_
                                          refine K.GQ.go ?_
                                          refine K.GC.region ?_
                                          refine K.GL.det (K.e_move rfl) rfl ?_
                                          first | refine K.GL.det (K.e_add rfl rfl ⟨by omega, by omega⟩) rfl ?_ | refine K.GL.det (K.e_addw rfl rfl) rfl ?_
                                          refine K.GL.det (K.e_assign rfl) rfl ?_
                                          refine K.GL.nil ?_
                                          exact K.GQ.round (x + 1, g2, _, _, _) ⟨by simp only; omega, hk2, hW, hS2⟩ (by simp only; omega) (by (repeat refine ⟨rfl, ?_⟩); exact trivial) (Sub.take (i := 2) rfl (Sub.take (i := 2) rfl (Sub.nil _)))
                                · first
                                  | exact absurd h23 (by decide)
                                  | try replace h23 := of_decide_eq_false h23
                                    refine K.GC.skip ?_
                                    refine K.GQ.block_normal ?_
                                    refine K.GQ.go ?_
                                    refine K.GC.seq ?_
                                    first
                                      | (have hW := del_ne (by assumption) hr hv2 hk.ids
                                         have hS2 := hS
                                         first
                                           | refine K.GC.res (L' := [cl b7 33 (encE (r.getD EX.zero) wa wc), IdxR d g2]) ?_ (Sub.take (i := 4) rfl (Sub.take (i := 0) rfl (Sub.nil _)))
                                           | refine K.GC.res (L' := [cl b7 33 (encE (r.getD EX.zero) wa wc), IdxR d g2]) ?_ (Sub.take (i := 6) rfl (Sub.take (i := 0) rfl (Sub.nil _))))
                                      | (have hW := mod_ne (by assumption) hr hv2 (fun _ => rfl)
                                         have hS2 := hS
                                         first
                                           | refine K.GC.res (L' := [cl b7 33 (encE (r.getD EX.zero) wa wc), IdxR d g2]) ?_ (Sub.take (i := 4) rfl (Sub.take (i := 0) rfl (Sub.nil _)))
                                           | refine K.GC.res (L' := [cl b7 33 (encE (r.getD EX.zero) wa wc), IdxR d g2]) ?_ (Sub.take (i := 6) rfl (Sub.take (i := 0) rfl (Sub.nil _))))
                                      | (have hW := put_ne (by assumption) hr hv2
                                         have hS2 := hS
                                         first
                                           | refine K.GC.res (L' := [cl b7 33 (encE (r.getD EX.zero) wa wc), IdxR d g2]) ?_ (Sub.take (i := 4) rfl (Sub.take (i := 0) rfl (Sub.nil _)))
                                           | refine K.GC.res (L' := [cl b7 33 (encE (r.getD EX.zero) wa wc), IdxR d g2]) ?_ (Sub.take (i := 6) rfl (Sub.take (i := 0) rfl (Sub.nil _))))
                                      | (have hW := mod_no (by assumption) hr hv2 (fun _ => rfl)
                                         have hS2 := hS
                                         first
                                           | refine K.GC.res (L' := [cl b7 33 (encE (r.getD EX.zero) wa wc), IdxR d g2]) ?_ (Sub.take (i := 4) rfl (Sub.take (i := 0) rfl (Sub.nil _)))
                                           | refine K.GC.res (L' := [cl b7 33 (encE (r.getD EX.zero) wa wc), IdxR d g2]) ?_ (Sub.take (i := 6) rfl (Sub.take (i := 0) rfl (Sub.nil _))))
                                      | (have hW := mod_eq (f := pinF q.is) (by assumption) hr hv2 (fun _ => rfl)
                                         have hS2 : Sl w 1 wa ((pinF q.is y).sv.length) (strs (pinF q.is y).sv) := hS
                                         first
                                           | refine K.GC.res (L' := [cl b7 33 (encE ((some (pinF q.is y)).getD EX.zero) wa wc), IdxR d g2]) ?_ (Sub.take (i := 4) rfl (Sub.take (i := 0) rfl (Sub.nil _)))
                                           | refine K.GC.res (L' := [cl b7 33 (encE ((some (pinF q.is y)).getD EX.zero) wa wc), IdxR d g2]) ?_ (Sub.take (i := 6) rfl (Sub.take (i := 0) rfl (Sub.nil _))))
                                      | (have hW := mod_eq (f := clsF q.cls) (by assumption) hr hv2 (fun _ => rfl)
                                         have hS2 : Sl w 1 wa ((clsF q.cls y).sv.length) (strs (clsF q.cls y).sv) := hS
                                         first
                                           | refine K.GC.res (L' := [cl b7 33 (encE ((some (clsF q.cls y)).getD EX.zero) wa wc), IdxR d g2]) ?_ (Sub.take (i := 4) rfl (Sub.take (i := 0) rfl (Sub.nil _)))
                                           | refine K.GC.res (L' := [cl b7 33 (encE ((some (clsF q.cls y)).getD EX.zero) wa wc), IdxR d g2]) ?_ (Sub.take (i := 6) rfl (Sub.take (i := 0) rfl (Sub.nil _))))
                                      | (have hW := mod_eq (f := movF q.seq q.at_ q.size) (by assumption) hr hv2 (fun _ => rfl)
                                         have hS2 : Sl w 1 wa ((movF q.seq q.at_ q.size y).sv.length) (strs (movF q.seq q.at_ q.size y).sv) := hS
                                         first
                                           | refine K.GC.res (L' := [cl b7 33 (encE ((some (movF q.seq q.at_ q.size y)).getD EX.zero) wa wc), IdxR d g2]) ?_ (Sub.take (i := 4) rfl (Sub.take (i := 0) rfl (Sub.nil _)))
                                           | refine K.GC.res (L' := [cl b7 33 (encE ((some (movF q.seq q.at_ q.size y)).getD EX.zero) wa wc), IdxR d g2]) ?_ (Sub.take (i := 6) rfl (Sub.take (i := 0) rfl (Sub.nil _))))
                                      | (have hW := del_eq (by assumption) hv2 hk.ids
                                         have hS2 := sl_zero (w := w)
                                         first
                                           | refine K.GC.res (L' := [cl b7 33 (encE ((none : Option EX).getD EX.zero) none 0), IdxR d g2]) ?_ (Sub.take (i := 4) rfl (Sub.take (i := 0) rfl (Sub.nil _)))
                                           | refine K.GC.res (L' := [cl b7 33 (encE ((none : Option EX).getD EX.zero) none 0), IdxR d g2]) ?_ (Sub.take (i := 6) rfl (Sub.take (i := 0) rfl (Sub.nil _))))
                                      | (have hW := put_eq (by assumption) hv2
                                         have hS2 := (hG q (List.mem_of_getElem? hq)).e.sl
                                         first
                                           | refine K.GC.res (L' := [cl b7 33 (encE ((some q.e).getD EX.zero) q.ea q.ec), IdxR d g2]) ?_ (Sub.take (i := 4) rfl (Sub.take (i := 0) rfl (Sub.nil _)))
                                           | refine K.GC.res (L' := [cl b7 33 (encE ((some q.e).getD EX.zero) q.ea q.ec), IdxR d g2]) ?_ (Sub.take (i := 6) rfl (Sub.take (i := 0) rfl (Sub.nil _))))
                                    refine K.GC.region ?_
                                    refine K.GL.det (K.e_move rfl) rfl ?_
                                    refine K.GL.det (K.e_move rfl) rfl ?_
                                    refine gl_get Try.call12 rfl hk2 hW rfl (fun a160 c160 => ?_)
                                    refine K.GL.det (K.e_move rfl) rfl ?_
                                    refine K.GL.det (K.e_extract rfl rfl) rfl ?_
                                    refine K.GL.det (K.e_extract rfl rfl) rfl ?_
                                    refine K.GL.alloc Try.zeroValue33 rfl rfl (fun b15 => ?_)
                                    refine K.GL.store rfl rfl rfl Try.sizeOf33 rfl rfl ?_
                                    refine K.GL.det (K.e_assign rfl) rfl ?_
                                    refine K.GL.nil ?_
                                    refine K.GQ.go ?_
                                    refine K.GC.seq ?_
                                    refine K.GC.region ?_
                                    refine K.GL.det (K.e_move rfl) rfl ?_
                                    refine K.GL.det (K.e_move rfl) rfl ?_
                                    refine K.GL.det ((K.e_neb Try.underlying4 rfl rfl).cast_bool (b := false) (by first | rfl | simp)) rfl ?_
                                    refine K.GL.det (K.e_move rfl) rfl ?_
                                    first | refine K.GL.splitB 166 rfl (fun h26 => ?_) (fun h26 => ?_) | skip
                                    all_goals first | exact absurd h26 (by decide) | replace h26 := of_decide_eq_true h26 | replace h26 := of_decide_eq_false h26 | skip
                                    all_goals
                                      first | (refine K.GL.want 166 rfl rfl rfl ?_; first | refine K.GL.det (K.e_loads Try.isAgg33 Try.sizeOf33 rfl rfl) rfl ?_) | refine K.GL.skip 166 rfl rfl rfl rfl ?_ | refine K.GL.skipU 166 rfl rfl rfl rfl ?_
                                      first | (refine K.GL.want 166 rfl rfl rfl ?_; first | refine K.GL.det (K.e_loads Try.isAgg33 Try.sizeOf33 rfl rfl) rfl ?_) | refine K.GL.skip 166 rfl rfl rfl rfl ?_ | refine K.GL.skipU 166 rfl rfl rfl rfl ?_
                                      first | (refine K.GL.want 166 rfl rfl rfl ?_; first | refine K.GL.det ((K.e_call1 Try.call18 rfl (fun w hT => same_at hW (hT.sl_row (List.mem_of_getElem? (i := 1) rfl) (by omega) (by rw [strs_length, Nat.mul_one])) (hS2.stay hT (fun r hr => by cases hr)) (get_lt hk2 hW)))) rfl ?_) | refine K.GL.skip 166 rfl rfl rfl rfl ?_ | refine K.GL.skipU 166 rfl rfl rfl rfl ?_
                                      first | (refine K.GL.want 166 rfl rfl rfl ?_; first | refine K.GL.det ((K.e_not rfl).cast_bool (b := false) rfl) rfl ?_) | refine K.GL.skip 166 rfl rfl rfl rfl ?_ | refine K.GL.skipU 166 rfl rfl rfl rfl ?_
                                      first | refine K.GL.det (K.e_pick_t rfl rfl) rfl ?_ | refine K.GL.det (K.e_pick_f rfl rfl) rfl ?_
                                      refine K.GL.nil ?_
                                      refine K.GQ.go ?_
                                      refine K.GC.condB rfl (fun h27 => ?_) (fun h27 => ?_)
                                      · first
                                        | exact absurd h27 (by decide)
                                        | try replace h27 := of_decide_eq_true h27
                                          refine K.GC.seq ?_
                                          refine K.GC.region ?_
                                          refine K.GL.det (K.e_assign rfl) rfl ?_
                                          refine K.GL.nil ?_
                                          refine K.GQ.go ?_
                                          refine K.GC.ret ?_
                                          refine K.GQ.block_ret ?_
                                          refine K.GQ.then_ret ?_
                                          refine K.GQ.then_ret ?_
                                          refine K.GQ.block_ret ?_
                                          refine K.GQ.then_ret ?_
                                          refine K.GQ.ret1 Try.results3 rfl (fun w hT => ?_)
                                          exact ⟨rfl, hT.nil⟩
                                      · first
                                        | exact absurd h27 (by decide)
                                        | try replace h27 := of_decide_eq_false h27
                                          refine K.GC.skip ?_
                                          refine K.GQ.block_normal ?_
                                          refine K.GQ.go ?_
                                          refine K.GC.region ?_
                                          refine K.GL.det (K.e_move rfl) rfl ?_
                                          first | refine K.GL.det (K.e_add rfl rfl ⟨by omega, by omega⟩) rfl ?_ | refine K.GL.det (K.e_addw rfl rfl) rfl ?_
                                          refine K.GL.det (K.e_assign rfl) rfl ?_
                                          refine K.GL.nil ?_
                                          exact K.GQ.round (x + 1, g2, _, _, _) ⟨by simp only; omega, hk2, hW, hS2⟩ (by simp only; omega) (by (repeat refine ⟨rfl, ?_⟩); exact trivial) (Sub.take (i := 2) rfl (Sub.take (i := 2) rfl (Sub.nil _)))
                      · first
                        | exact absurd h20 (by decide)
                        | try replace h20 := of_decide_eq_false h20
                          refine K.GC.seq ?_
                          refine K.GC.region ?_
                          first | refine K.GL.det ((K.e_eq rfl rfl).yes (by first | omega | assumption | decide +kernel)) rfl ?_ | refine K.GL.det ((K.e_eq rfl rfl).no (by first | omega | assumption | decide +kernel)) rfl ?_ | refine K.GL.det (K.e_eq rfl rfl) rfl ?_
                          refine K.GL.det (K.e_assign rfl) rfl ?_
                          refine K.GL.nil ?_
                          refine K.GQ.go ?_
                          refine K.GC.condB rfl (fun h28 => ?_) (fun h28 => ?_)
                          · first
                            | exact absurd h28 (by decide)
                            | try replace h28 := of_decide_eq_true h28
                              refine K.GC.seq ?_
                              refine K.GC.seq ?_
                              refine K.GC.region ?_
                              refine K.GL.det (K.e_move rfl) rfl ?_
                              refine K.GL.det (K.e_fieldAddr fo35_2 rfl) rfl ?_
                              first | refine K.GL.det (K.e_load Try.isAgg2 rfl rfl) rfl ?_ | refine K.GL.det (K.e_load0 Try.isAgg2 rfl (by assumption)) rfl ?_
                              refine K.GL.det (K.e_fieldAddr fo35_5 rfl) rfl ?_
                              first | refine K.GL.det (K.e_load Try.isAgg2 rfl rfl) rfl ?_ | refine K.GL.det (K.e_load0 Try.isAgg2 rfl (by assumption)) rfl ?_
                              refine K.GL.det (K.e_fieldAddr fo35_6 rfl) rfl ?_
                              first | refine K.GL.det (K.e_load Try.isAgg3 rfl rfl) rfl ?_ | refine K.GL.det (K.e_load0 Try.isAgg3 rfl (by assumption)) rfl ?_
                              refine K.GL.det (K.e_fieldAddr fo35_7 rfl) rfl ?_
                              first | refine K.GL.det (K.e_load Try.isAgg3 rfl rfl) rfl ?_ | refine K.GL.det (K.e_load0 Try.isAgg3 rfl (by assumption)) rfl ?_
                              refine gl_move (was := (xget q.id g.ents).isSome) Try.call16 rfl hk rfl rfl (fun g2 hk2 hv2 => ?_)
                              refine K.GL.det (K.e_move rfl) rfl ?_
                              refine K.GL.det ((K.e_neb Try.underlying4 rfl rfl).cast_bool (b := false) (by first | rfl | simp)) rfl ?_
                              refine K.GL.nil ?_
                              refine K.GQ.go ?_
                              refine K.GC.condB rfl (fun h29 => ?_) (fun h29 => ?_)
                              · first
                                | exact absurd h29 (by decide)
                                | try replace h29 := of_decide_eq_true h29
                                  refine K.GC.seq ?_
                                  refine K.GC.region ?_
                                  refine K.GL.det (K.e_assign rfl) rfl ?_
                                  refine K.GL.nil ?_
                                  refine K.GQ.go ?_
                                  refine K.GC.ret ?_
                                  refine K.GQ.then_ret ?_
                                  refine K.GQ.block_ret ?_
                                  refine K.GQ.then_ret ?_
                                  refine K.GQ.block_ret ?_
                                  refine K.GQ.then_ret ?_
                                  refine K.GQ.then_ret ?_
                                  refine K.GQ.block_ret ?_
                                  refine K.GQ.then_ret ?_
                                  refine K.GQ.ret1 Try.results3 rfl (fun w hT => ?_)
                                  exact ⟨rfl, hT.nil⟩
                              · first
                                | exact absurd h29 (by decide)
                                | try replace h29 := of_decide_eq_false h29
                                  refine K.GC.skip ?_
                                  refine K.GQ.go ?_
                                  refine K.GC.seq ?_
                                  refine K.GC.region ?_
                                  refine K.GL.det (K.e_fieldAddr fo35_2 rfl) rfl ?_
                                  first | refine K.GL.det (K.e_load Try.isAgg2 rfl rfl) rfl ?_ | refine K.GL.det (K.e_load0 Try.isAgg2 rfl (by assumption)) rfl ?_
                                  refine K.GL.det (K.e_move rfl) rfl ?_
                                  first | refine K.GL.det ((K.e_eq rfl rfl).yes (by first | omega | assumption | decide +kernel)) rfl ?_ | refine K.GL.det ((K.e_eq rfl rfl).no (by first | omega | assumption | decide +kernel)) rfl ?_ | refine K.GL.det (K.e_eq rfl rfl) rfl ?_
                                  refine K.GL.det (K.e_move rfl) rfl ?_
                                  first | refine K.GL.splitB 145 rfl (fun h30 => ?_) (fun h30 => ?_) | skip
                                  all_goals first | exact absurd h30 (by decide) | replace h30 := of_decide_eq_true h30 | replace h30 := of_decide_eq_false h30 | skip
                                  all_goals
                                    first | (refine K.GL.want 145 rfl rfl rfl ?_; first | refine K.GL.det (K.e_move rfl) rfl ?_) | refine K.GL.skip 145 rfl rfl rfl rfl ?_ | refine K.GL.skipU 145 rfl rfl rfl rfl ?_
                                    first | refine K.GL.det (K.e_pick_t rfl rfl) rfl ?_ | refine K.GL.det (K.e_pick_f rfl rfl) rfl ?_
                                    refine K.GL.nil ?_
                                    refine K.GQ.go ?_
                                    refine K.GC.condB rfl (fun h31 => ?_) (fun h31 => ?_)
                                    · first
                                      | exact absurd h31 (by decide)
                                      | try replace h31 := of_decide_eq_true h31
                                        refine K.GC.seq ?_
                                        obtain ⟨y, rfl⟩ : ∃ y, r = some y := Option.isSome_iff_exists.1 (by assumption)
                                        refine K.GC.region ?_
                                        refine K.GL.det (K.e_fieldAddr fo35_5 rfl) rfl ?_
                                        first | refine K.GL.det (K.e_load Try.isAgg2 rfl rfl) rfl ?_ | refine K.GL.det (K.e_load0 Try.isAgg2 rfl (by assumption)) rfl ?_
                                        refine K.GL.det (K.e_fieldAddr fo33_2 rfl) rfl ?_
                                        refine K.GL.store rfl rfl rfl Try.sizeOf2 rfl rfl ?_
                                        refine K.GL.nil ?_
                                        refine K.GQ.go ?_
                                        refine K.GC.seq ?_
                                        refine K.GC.region ?_
                                        refine K.GL.det (K.e_fieldAddr fo35_6 rfl) rfl ?_
                                        first | refine K.GL.det (K.e_load Try.isAgg3 rfl rfl) rfl ?_ | refine K.GL.det (K.e_load0 Try.isAgg3 rfl (by assumption)) rfl ?_
                                        refine K.GL.det (K.e_fieldAddr fo33_3 rfl) rfl ?_
                                        refine K.GL.store rfl rfl rfl Try.sizeOf3 rfl rfl ?_
                                        refine K.GL.nil ?_
                                        refine K.GQ.go ?_
                                        refine K.GC.region ?_
                                        refine K.GL.det (K.e_fieldAddr fo35_7 rfl) rfl ?_
                                        first | refine K.GL.det (K.e_load Try.isAgg3 rfl rfl) rfl ?_ | refine K.GL.det (K.e_load0 Try.isAgg3 rfl (by assumption)) rfl ?_
                                        refine K.GL.det (K.e_fieldAddr fo33_4 rfl) rfl ?_
                                        refine K.GL.store rfl rfl rfl Try.sizeOf3 rfl rfl ?_
                                        refine K.GL.nil ?_
                                        refine K.GQ.block_normal ?_
                                        refine K.GQ.go ?_
                                        refine K.GC.seq ?_
                                        first
                                          | (have hW := del_ne (by assumption) hr hv2 hk.ids
                                             have hS2 := hS
                                             first
                                               | refine K.GC.res (L' := [cl b7 33 (encE (r.getD EX.zero) wa wc), IdxR d g2]) ?_ (Sub.take (i := 4) rfl (Sub.take (i := 0) rfl (Sub.nil _)))
                                               | refine K.GC.res (L' := [cl b7 33 (encE (r.getD EX.zero) wa wc), IdxR d g2]) ?_ (Sub.take (i := 6) rfl (Sub.take (i := 0) rfl (Sub.nil _))))
                                          | (have hW := mod_ne (by assumption) hr hv2 (fun _ => rfl)
                                             have hS2 := hS
                                             first
                                               | refine K.GC.res (L' := [cl b7 33 (encE (r.getD EX.zero) wa wc), IdxR d g2]) ?_ (Sub.take (i := 4) rfl (Sub.take (i := 0) rfl (Sub.nil _)))
                                               | refine K.GC.res (L' := [cl b7 33 (encE (r.getD EX.zero) wa wc), IdxR d g2]) ?_ (Sub.take (i := 6) rfl (Sub.take (i := 0) rfl (Sub.nil _))))
                                          | (have hW := put_ne (by assumption) hr hv2
                                             have hS2 := hS
                                             first
                                               | refine K.GC.res (L' := [cl b7 33 (encE (r.getD EX.zero) wa wc), IdxR d g2]) ?_ (Sub.take (i := 4) rfl (Sub.take (i := 0) rfl (Sub.nil _)))
                                               | refine K.GC.res (L' := [cl b7 33 (encE (r.getD EX.zero) wa wc), IdxR d g2]) ?_ (Sub.take (i := 6) rfl (Sub.take (i := 0) rfl (Sub.nil _))))
                                          | (have hW := mod_no (by assumption) hr hv2 (fun _ => rfl)
                                             have hS2 := hS
                                             first
                                               | refine K.GC.res (L' := [cl b7 33 (encE (r.getD EX.zero) wa wc), IdxR d g2]) ?_ (Sub.take (i := 4) rfl (Sub.take (i := 0) rfl (Sub.nil _)))
                                               | refine K.GC.res (L' := [cl b7 33 (encE (r.getD EX.zero) wa wc), IdxR d g2]) ?_ (Sub.take (i := 6) rfl (Sub.take (i := 0) rfl (Sub.nil _))))
                                          | (have hW := mod_eq (f := pinF q.is) (by assumption) hr hv2 (fun _ => rfl)
                                             have hS2 : Sl w 1 wa ((pinF q.is y).sv.length) (strs (pinF q.is y).sv) := hS
                                             first
                                               | refine K.GC.res (L' := [cl b7 33 (encE ((some (pinF q.is y)).getD EX.zero) wa wc), IdxR d g2]) ?_ (Sub.take (i := 4) rfl (Sub.take (i := 0) rfl (Sub.nil _)))
                                               | refine K.GC.res (L' := [cl b7 33 (encE ((some (pinF q.is y)).getD EX.zero) wa wc), IdxR d g2]) ?_ (Sub.take (i := 6) rfl (Sub.take (i := 0) rfl (Sub.nil _))))
                                          | (have hW := mod_eq (f := clsF q.cls) (by assumption) hr hv2 (fun _ => rfl)
                                             have hS2 : Sl w 1 wa ((clsF q.cls y).sv.length) (strs (clsF q.cls y).sv) := hS
                                             first
                                               | refine K.GC.res (L' := [cl b7 33 (encE ((some (clsF q.cls y)).getD EX.zero) wa wc), IdxR d g2]) ?_ (Sub.take (i := 4) rfl (Sub.take (i := 0) rfl (Sub.nil _)))
                                               | refine K.GC.res (L' := [cl b7 33 (encE ((some (clsF q.cls y)).getD EX.zero) wa wc), IdxR d g2]) ?_ (Sub.take (i := 6) rfl (Sub.take (i := 0) rfl (Sub.nil _))))
                                          | (have hW := mod_eq (f := movF q.seq q.at_ q.size) (by assumption) hr hv2 (fun _ => rfl)
                                             have hS2 : Sl w 1 wa ((movF q.seq q.at_ q.size y).sv.length) (strs (movF q.seq q.at_ q.size y).sv) := hS
                                             first
                                               | refine K.GC.res (L' := [cl b7 33 (encE ((some (movF q.seq q.at_ q.size y)).getD EX.zero) wa wc), IdxR d g2]) ?_ (Sub.take (i := 4) rfl (Sub.take (i := 0) rfl (Sub.nil _)))
                                               | refine K.GC.res (L' := [cl b7 33 (encE ((some (movF q.seq q.at_ q.size y)).getD EX.zero) wa wc), IdxR d g2]) ?_ (Sub.take (i := 6) rfl (Sub.take (i := 0) rfl (Sub.nil _))))
                                          | (have hW := del_eq (by assumption) hv2 hk.ids
                                             have hS2 := sl_zero (w := w)
                                             first
                                               | refine K.GC.res (L' := [cl b7 33 (encE ((none : Option EX).getD EX.zero) none 0), IdxR d g2]) ?_ (Sub.take (i := 4) rfl (Sub.take (i := 0) rfl (Sub.nil _)))
                                               | refine K.GC.res (L' := [cl b7 33 (encE ((none : Option EX).getD EX.zero) none 0), IdxR d g2]) ?_ (Sub.take (i := 6) rfl (Sub.take (i := 0) rfl (Sub.nil _))))
                                          | (have hW := put_eq (by assumption) hv2
                                             have hS2 := (hG q (List.mem_of_getElem? hq)).e.sl
                                             first
                                               | refine K.GC.res (L' := [cl b7 33 (encE ((some q.e).getD EX.zero) q.ea q.ec), IdxR d g2]) ?_ (Sub.take (i := 4) rfl (Sub.take (i := 0) rfl (Sub.nil _)))
                                               | refine K.GC.res (L' := [cl b7 33 (encE ((some q.e).getD EX.zero) q.ea q.ec), IdxR d g2]) ?_ (Sub.take (i := 6) rfl (Sub.take (i := 0) rfl (Sub.nil _))))
                                        refine K.GC.region ?_
                                        refine K.GL.det (K.e_move rfl) rfl ?_
                                        refine K.GL.det (K.e_move rfl) rfl ?_
                                        refine gl_get Try.call12 rfl hk2 hW rfl (fun a160 c160 => ?_)
                                        refine K.GL.det (K.e_move rfl) rfl ?_
                                        refine K.GL.det (K.e_extract rfl rfl) rfl ?_
                                        refine K.GL.det (K.e_extract rfl rfl) rfl ?_
                                        refine K.GL.alloc Try.zeroValue33 rfl rfl (fun b15 => ?_)
                                        refine K.GL.store rfl rfl rfl Try.sizeOf33 rfl rfl ?_
                                        refine K.GL.det (K.e_assign rfl) rfl ?_
                                        refine K.GL.nil ?_
                                        refine K.GQ.go ?_
                                        refine K.GC.seq ?_
                                        refine K.GC.region ?_
                                        refine K.GL.det (K.e_move rfl) rfl ?_
                                        refine K.GL.det (K.e_move rfl) rfl ?_
                                        refine K.GL.det ((K.e_neb Try.underlying4 rfl rfl).cast_bool (b := false) (by first | rfl | simp)) rfl ?_
                                        refine K.GL.det (K.e_move rfl) rfl ?_
                                        first | refine K.GL.splitB 166 rfl (fun h32 => ?_) (fun h32 => ?_) | skip
                                        all_goals first | exact absurd h32 (by decide) | replace h32 := of_decide_eq_true h32 | replace h32 := of_decide_eq_false h32 | skip
                                        all_goals
                                          first | (refine K.GL.want 166 rfl rfl rfl ?_; first | refine K.GL.det (K.e_loads Try.isAgg33 Try.sizeOf33 rfl rfl) rfl ?_) | refine K.GL.skip 166 rfl rfl rfl rfl ?_ | refine K.GL.skipU 166 rfl rfl rfl rfl ?_
                                          first | (refine K.GL.want 166 rfl rfl rfl ?_; first | refine K.GL.det (K.e_loads Try.isAgg33 Try.sizeOf33 rfl rfl) rfl ?_) | refine K.GL.skip 166 rfl rfl rfl rfl ?_ | refine K.GL.skipU 166 rfl rfl rfl rfl ?_
                                          first | (refine K.GL.want 166 rfl rfl rfl ?_; first | refine K.GL.det ((K.e_call1 Try.call18 rfl (fun w hT => same_at hW (hT.sl_row (List.mem_of_getElem? (i := 1) rfl) (by omega) (by rw [strs_length, Nat.mul_one])) (hS2.stay hT (fun r hr => by cases hr)) (get_lt hk2 hW)))) rfl ?_) | refine K.GL.skip 166 rfl rfl rfl rfl ?_ | refine K.GL.skipU 166 rfl rfl rfl rfl ?_
                                          first | (refine K.GL.want 166 rfl rfl rfl ?_; first | refine K.GL.det ((K.e_not rfl).cast_bool (b := false) rfl) rfl ?_) | refine K.GL.skip 166 rfl rfl rfl rfl ?_ | refine K.GL.skipU 166 rfl rfl rfl rfl ?_
                                          first | refine K.GL.det (K.e_pick_t rfl rfl) rfl ?_ | refine K.GL.det (K.e_pick_f rfl rfl) rfl ?_
                                          refine K.GL.nil ?_
                                          refine K.GQ.go ?_
                                          refine K.GC.condB rfl (fun h33 => ?_) (fun h33 => ?_)
                                          · first
                                            | exact absurd h33 (by decide)
                                            | try replace h33 := of_decide_eq_true h33
                                              refine K.GC.seq ?_
                                              refine K.GC.region ?_
                                              refine K.GL.det (K.e_assign rfl) rfl ?_
                                              refine K.GL.nil ?_
                                              refine K.GQ.go ?_
                                              refine K.GC.ret ?_
                                              refine K.GQ.block_ret ?_
                                              refine K.GQ.then_ret ?_
                                              refine K.GQ.then_ret ?_
                                              refine K.GQ.block_ret ?_
                                              refine K.GQ.then_ret ?_
                                              refine K.GQ.ret1 Try.results3 rfl (fun w hT => ?_)
                                              exact ⟨rfl, hT.nil⟩
                                          · first
                                            | exact absurd h33 (by decide)
                                            | try replace h33 := of_decide_eq_false h33
                                              refine K.GC.skip ?_
                                              refine K.GQ.block_normal ?_
                                              refine K.GQ.go ?_
                                              refine K.GC.region ?_
                                              refine K.GL.det (K.e_move rfl) rfl ?_
                                              first | refine K.GL.det (K.e_add rfl rfl ⟨by omega, by omega⟩) rfl ?_ | refine K.GL.det (K.e_addw rfl rfl) rfl ?_
                                              refine K.GL.det (K.e_assign rfl) rfl ?_
                                              refine K.GL.nil ?_
                                              exact K.GQ.round (x + 1, g2, _, _, _) ⟨by simp only; omega, hk2, hW, hS2⟩ (by simp only; omega) (by (repeat refine ⟨rfl, ?_⟩); exact trivial) (Sub.take (i := 2) rfl (Sub.take (i := 2) rfl (Sub.nil _)))
                                    · first
                                      | exact absurd h31 (by decide)
                                      | try replace h31 := of_decide_eq_false h31
                                        refine K.GC.skip ?_
                                        refine K.GQ.block_normal ?_
                                        refine K.GQ.go ?_
                                        refine K.GC.seq ?_
                                        first
                                          | (have hW := del_ne (by assumption) hr hv2 hk.ids
                                             have hS2 := hS
                                             first
                                               | refine K.GC.res (L' := [cl b7 33 (encE (r.getD EX.zero) wa wc), IdxR d g2]) ?_ (Sub.take (i := 4) rfl (Sub.take (i := 0) rfl (Sub.nil _)))
                                               | refine K.GC.res (L' := [cl b7 33 (encE (r.getD EX.zero) wa wc), IdxR d g2]) ?_ (Sub.take (i := 6) rfl (Sub.take (i := 0) rfl (Sub.nil _))))
                                          | (have hW := mod_ne (by assumption) hr hv2 (fun _ => rfl)
                                             have hS2 := hS
                                             first
                                               | refine K.GC.res (L' := [cl b7 33 (encE (r.getD EX.zero) wa wc), IdxR d g2]) ?_ (Sub.take (i := 4) rfl (Sub.take (i := 0) rfl (Sub.nil _)))
                                               | refine K.GC.res (L' := [cl b7 33 (encE (r.getD EX.zero) wa wc), IdxR d g2]) ?_ (Sub.take (i := 6) rfl (Sub.take (i := 0) rfl (Sub.nil _))))
                                          | (have hW := put_ne (by assumption) hr hv2
                                             have hS2 := hS
                                             first
                                               | refine K.GC.res (L' := [cl b7 33 (encE (r.getD EX.zero) wa wc), IdxR d g2]) ?_ (Sub.take (i := 4) rfl (Sub.take (i := 0) rfl (Sub.nil _)))
                                               | refine K.GC.res (L' := [cl b7 33 (encE (r.getD EX.zero) wa wc), IdxR d g2]) ?_ (Sub.take (i := 6) rfl (Sub.take (i := 0) rfl (Sub.nil _))))
                                          | (have hW := mod_no (by assumption) hr hv2 (fun _ => rfl)
                                             have hS2 := hS
                                             first
                                               | refine K.GC.res (L' := [cl b7 33 (encE (r.getD EX.zero) wa wc), IdxR d g2]) ?_ (Sub.take (i := 4) rfl (Sub.take (i := 0) rfl (Sub.nil _)))
                                               | refine K.GC.res (L' := [cl b7 33 (encE (r.getD EX.zero) wa wc), IdxR d g2]) ?_ (Sub.take (i := 6) rfl (Sub.take (i := 0) rfl (Sub.nil _))))
                                          | (have hW := mod_eq (f := pinF q.is) (by assumption) hr hv2 (fun _ => rfl)
                                             have hS2 : Sl w 1 wa ((pinF q.is y).sv.length) (strs (pinF q.is y).sv) := hS
                                             first
                                               | refine K.GC.res (L' := [cl b7 33 (encE ((some (pinF q.is y)).getD EX.zero) wa wc), IdxR d g2]) ?_ (Sub.take (i := 4) rfl (Sub.take (i := 0) rfl (Sub.nil _)))
                                               | refine K.GC.res (L' := [cl b7 33 (encE ((some (pinF q.is y)).getD EX.zero) wa wc), IdxR d g2]) ?_ (Sub.take (i := 6) rfl (Sub.take (i := 0) rfl (Sub.nil _))))
                                          | (have hW := mod_eq (f := clsF q.cls) (by assumption) hr hv2 (fun _ => rfl)
                                             have hS2 : Sl w 1 wa ((clsF q.cls y).sv.length) (strs (clsF q.cls y).sv) := hS
                                             first
                                               | refine K.GC.res (L' := [cl b7 33 (encE ((some (clsF q.cls y)).getD EX.zero) wa wc), IdxR d g2]) ?_ (Sub.take (i := 4) rfl (Sub.take (i := 0) rfl (Sub.nil _)))
                                               | refine K.GC.res (L' := [cl b7 33 (encE ((some (clsF q.cls y)).getD EX.zero) wa wc), IdxR d g2]) ?_ (Sub.take (i := 6) rfl (Sub.take (i := 0) rfl (Sub.nil _))))
                                          | (have hW := mod_eq (f := movF q.seq q.at_ q.size) (by assumption) hr hv2 (fun _ => rfl)
                                             have hS2 : Sl w 1 wa ((movF q.seq q.at_ q.size y).sv.length) (strs (movF q.seq q.at_ q.size y).sv) := hS
                                             first
                                               | refine K.GC.res (L' := [cl b7 33 (encE ((some (movF q.seq q.at_ q.size y)).getD EX.zero) wa wc), IdxR d g2]) ?_ (Sub.take (i := 4) rfl (Sub.take (i := 0) rfl (Sub.nil _)))
                                               | refine K.GC.res (L' := [cl b7 33 (encE ((some (movF q.seq q.at_ q.size y)).getD EX.zero) wa wc), IdxR d g2]) ?_ (Sub.take (i := 6) rfl (Sub.take (i := 0) rfl (Sub.nil _))))
                                          | (have hW := del_eq (by assumption) hv2 hk.ids
                                             have hS2 := sl_zero (w := w)
                                             first
                                               | refine K.GC.res (L' := [cl b7 33 (encE ((none : Option EX).getD EX.zero) none 0), IdxR d g2]) ?_ (Sub.take (i := 4) rfl (Sub.take (i := 0) rfl (Sub.nil _)))
                                               | refine K.GC.res (L' := [cl b7 33 (encE ((none : Option EX).getD EX.zero) none 0), IdxR d g2]) ?_ (Sub.take (i := 6) rfl (Sub.take (i := 0) rfl (Sub.nil _))))
                                          | (have hW := put_eq (by assumption) hv2
                                             have hS2 := (hG q (List.mem_of_getElem? hq)).e.sl
                                             first
                                               | refine K.GC.res (L' := [cl b7 33 (encE ((some q.e).getD EX.zero) q.ea q.ec), IdxR d g2]) ?_ (Sub.take (i := 4) rfl (Sub.take (i := 0) rfl (Sub.nil _)))
                                               | refine K.GC.res (L' := [cl b7 33 (encE ((some q.e).getD EX.zero) q.ea q.ec), IdxR d g2]) ?_ (Sub.take (i := 6) rfl (Sub.take (i := 0) rfl (Sub.nil _))))
                                        refine K.GC.region ?_
                                        refine K.GL.det (K.e_move rfl) rfl ?_
                                        refine K.GL.det (K.e_move rfl) rfl ?_
                                        refine gl_get Try.call12 rfl hk2 hW rfl (fun a160 c160 => ?_)
                                        refine K.GL.det (K.e_move rfl) rfl ?_
                                        refine K.GL.det (K.e_extract rfl rfl) rfl ?_
                                        refine K.GL.det (K.e_extract rfl rfl) rfl ?_
                                        refine K.GL.alloc Try.zeroValue33 rfl rfl (fun b15 => ?_)
                                        refine K.GL.store rfl rfl rfl Try.sizeOf33 rfl rfl ?_
                                        refine K.GL.det (K.e_assign rfl) rfl ?_
                                        refine K.GL.nil ?_
                                        refine K.GQ.go ?_
                                        refine K.GC.seq ?_
                                        refine K.GC.region ?_
                                        refine K.GL.det (K.e_move rfl) rfl ?_
                                        refine K.GL.det (K.e_move rfl) rfl ?_
                                        refine K.GL.det ((K.e_neb Try.underlying4 rfl rfl).cast_bool (b := false) (by first | rfl | simp)) rfl ?_
                                        refine K.GL.det (K.e_move rfl) rfl ?_
                                        first | refine K.GL.splitB 166 rfl (fun h34 => ?_) (fun h34 => ?_) | skip
                                        all_goals first | exact absurd h34 (by decide) | replace h34 := of_decide_eq_true h34 | replace h34 := of_decide_eq_false h34 | skip
                                        all_goals
                                          first | (refine K.GL.want 166 rfl rfl rfl ?_; first | refine K.GL.det (K.e_loads Try.isAgg33 Try.sizeOf33 rfl rfl) rfl ?_) | refine K.GL.skip 166 rfl rfl rfl rfl ?_ | refine K.GL.skipU 166 rfl rfl rfl rfl ?_
                                          first | (refine K.GL.want 166 rfl rfl rfl ?_; first | refine K.GL.det (K.e_loads Try.isAgg33 Try.sizeOf33 rfl rfl) rfl ?_) | refine K.GL.skip 166 rfl rfl rfl rfl ?_ | refine K.GL.skipU 166 rfl rfl rfl rfl ?_
                                          first | (refine K.GL.want 166 rfl rfl rfl ?_; first | refine K.GL.det ((K.e_call1 Try.call18 rfl (fun w hT => same_at hW (hT.sl_row (List.mem_of_getElem? (i := 1) rfl) (by omega) (by rw [strs_length, Nat.mul_one])) (hS2.stay hT (fun r hr => by cases hr)) (get_lt hk2 hW)))) rfl ?_) | refine K.GL.skip 166 rfl rfl rfl rfl ?_ | refine K.GL.skipU 166 rfl rfl rfl rfl ?_
                                          first | (refine K.GL.want 166 rfl rfl rfl ?_; first | refine K.GL.det ((K.e_not rfl).cast_bool (b := false) rfl) rfl ?_) | refine K.GL.skip 166 rfl rfl rfl rfl ?_ | refine K.GL.skipU 166 rfl rfl rfl rfl ?_
                                          first | refine K.GL.det (K.e_pick_t rfl rfl) rfl ?_ | refine K.GL.det (K.e_pick_f rfl rfl) rfl ?_
                                          refine K.GL.nil ?_
                                          refine K.GQ.go ?_
                                          refine K.GC.condB rfl (fun h35 => ?_) (fun h35 => ?_)
                                          · first
                                            | exact absurd h35 (by decide)
                                            | try replace h35 := of_decide_eq_true h35
                                              refine K.GC.seq ?_
                                              refine K.GC.region ?_
                                              refine K.GL.det (K.e_assign rfl) rfl ?_
                                              refine K.GL.nil ?_
                                              refine K.GQ.go ?_
                                              refine K.GC.ret ?_
                                              refine K.GQ.block_ret ?_
                                              refine K.GQ.then_ret ?_
                                              refine K.GQ.then_ret ?_
                                              refine K.GQ.block_ret ?_
                                              refine K.GQ.then_ret ?_
                                              refine K.GQ.ret1 Try.results3 rfl (fun w hT => ?_)
                                              exact ⟨rfl, hT.nil⟩
                                          · first
                                            | exact absurd h35 (by decide)
                                            | try replace h35 := of_decide_eq_false h35
                                              refine K.GC.skip ?_
                                              refine K.GQ.block_normal ?_
                                              refine K.GQ.go ?_
                                              refine K.GC.region ?_
                                              refine K.GL.det (K.e_move rfl) rfl ?_
                                              first | refine K.GL.det (K.e_add rfl rfl ⟨by omega, by omega⟩) rfl ?_ | refine K.GL.det (K.e_addw rfl rfl) rfl ?_
                                              refine K.GL.det (K.e_assign rfl) rfl ?_
                                              refine K.GL.nil ?_
                                              exact K.GQ.round (x + 1, g2, _, _, _) ⟨by simp only; omega, hk2, hW, hS2⟩ (by simp only; omega) (by (repeat refine ⟨rfl, ?_⟩); exact trivial) (Sub.take (i := 2) rfl (Sub.take (i := 2) rfl (Sub.nil _)))
                          · first
                            | exact absurd h28 (by decide)
                            | try replace h28 := of_decide_eq_false h28
                              refine K.GC.seq ?_
                              refine K.GC.region ?_
                              refine K.GL.det (K.e_move rfl) rfl ?_
                              refine K.GL.det (K.e_fieldAddr fo35_1 rfl) rfl ?_
                              refine K.GL.det (K.e_fieldAddr fo33_0 rfl) rfl ?_
                              refine K.GL.det (K.e_fieldAddr fo28_0 rfl) rfl ?_
                              first | refine K.GL.det (K.e_load Try.isAgg2 rfl rfl) rfl ?_ | refine K.GL.det (K.e_load0 Try.isAgg2 rfl (by assumption)) rfl ?_
                              refine gl_get Try.call12 rfl hk rfl rfl (fun a55 c55 => ?_)
                              refine K.GL.det (K.e_move rfl) rfl ?_
                              refine K.GL.det (K.e_extract rfl rfl) rfl ?_
                              refine K.GL.det (K.e_extract rfl rfl) rfl ?_
                              refine K.GL.alloc Try.zeroValue33 rfl rfl (fun b13 => ?_)
                              refine K.GL.store rfl rfl rfl Try.sizeOf33 rfl rfl ?_
                              refine K.GL.det (K.e_assign rfl) rfl ?_
                              refine K.GL.nil ?_
                              refine K.GQ.go ?_
                              refine K.GC.seq ?_
                              refine K.GC.seq ?_
                              refine K.GC.region ?_
                              refine K.GL.det (K.e_move rfl) rfl ?_
                              refine K.GL.det (K.e_fieldAddr fo35_1 rfl) rfl ?_
                              refine K.GL.det (K.e_loads Try.isAgg33 Try.sizeOf33 rfl rfl) rfl ?_
                              refine gl_put (x := q.e) (a0 := q.ea) (c0 := q.ec) (was := (xget q.e.id g.ents).isSome) Try.call17 rfl hk rfl (fun w hT => ⟨(hG q (List.mem_of_getElem? hq)).e.sl.stay hT (fun r hr => by cases hr), fun h0 => apart_old (hG q (List.mem_of_getElem? hq)).e.sl (by omega) hT PickI.mem h0⟩) (hG q (List.mem_of_getElem? hq)).e.id (hgs.2 q (List.mem_of_getElem? hq)) rfl (fun g2 hk2 hv2 => ?_)
                              refine K.GL.det (K.e_move rfl) rfl ?_
                              refine K.GL.det ((K.e_neb Try.underlying4 rfl rfl).cast_bool (b := false) (by first | rfl | simp)) rfl ?_
                              refine K.GL.nil ?_
                              refine K.GQ.go ?_
                              refine K.GC.condB rfl (fun h36 => ?_) (fun h36 => ?_)
                              · first
                                | exact absurd h36 (by decide)
                                | try replace h36 := of_decide_eq_true h36
                                  refine K.GC.seq ?_
                                  refine K.GC.region ?_
                                  refine K.GL.det (K.e_assign rfl) rfl ?_
                                  refine K.GL.nil ?_
                                  refine K.GQ.go ?_
                                  refine K.GC.ret ?_
                                  refine K.GQ.then_ret ?_
                                  refine K.GQ.block_ret ?_
                                  refine K.GQ.then_ret ?_
                                  refine K.GQ.block_ret ?_
                                  refine K.GQ.then_ret ?_
                                  refine K.GQ.then_ret ?_
                                  refine K.GQ.block_ret ?_
                                  refine K.GQ.then_ret ?_
                                  refine K.GQ.ret1 Try.results3 rfl (fun w hT => ?_)
                                  exact ⟨rfl, hT.nil⟩
                              · first
                                | exact absurd h36 (by decide)
                                | try replace h36 := of_decide_eq_false h36
                                  refine K.GC.skip ?_
                                  refine K.GQ.go ?_
                                  refine K.GC.seq ?_
                                  refine K.GC.region ?_
                                  refine K.GL.det (K.e_fieldAddr fo35_1 rfl) rfl ?_
                                  refine K.GL.det (K.e_fieldAddr fo33_0 rfl) rfl ?_
                                  refine K.GL.det (K.e_fieldAddr fo28_0 rfl) rfl ?_
                                  first | refine K.GL.det (K.e_load Try.isAgg2 rfl rfl) rfl ?_ | refine K.GL.det (K.e_load0 Try.isAgg2 rfl (by assumption)) rfl ?_
                                  refine K.GL.det (K.e_move rfl) rfl ?_
                                  first | refine K.GL.det ((K.e_eq rfl rfl).yes (by first | omega | assumption | decide +kernel)) rfl ?_ | refine K.GL.det ((K.e_eq rfl rfl).no (by first | omega | assumption | decide +kernel)) rfl ?_ | refine K.GL.det (K.e_eq rfl rfl) rfl ?_
                                  refine K.GL.nil ?_
                                  refine K.GQ.go ?_
                                  refine K.GC.condB rfl (fun h37 => ?_) (fun h37 => ?_)
                                  · first
                                    | exact absurd h37 (by decide)
                                    | try replace h37 := of_decide_eq_true h37
                                      refine K.GC.seq ?_
                                      refine K.GC.region ?_
                                      refine K.GL.det (K.e_assign rfl) rfl ?_
                                      refine K.GL.nil ?_
                                      refine K.GQ.go ?_
                                      refine K.GC.region ?_
                                      refine K.GL.det (K.e_fieldAddr fo35_1 rfl) rfl ?_
                                      refine K.GL.det (K.e_loads Try.isAgg33 Try.sizeOf33 rfl rfl) rfl ?_
                                      refine K.GL.store rfl rfl rfl Try.sizeOf33 rfl rfl ?_
                                      refine K.GL.nil ?_
                                      refine K.GQ.block_normal ?_
                                      refine K.GQ.go ?_
                                      refine K.GC.seq ?_
                                      first
                                        | (have hW := del_ne (by assumption) hr hv2 hk.ids
                                           have hS2 := hS
                                           first
                                             | refine K.GC.res (L' := [cl b7 33 (encE (r.getD EX.zero) wa wc), IdxR d g2]) ?_ (Sub.take (i := 4) rfl (Sub.take (i := 0) rfl (Sub.nil _)))
                                             | refine K.GC.res (L' := [cl b7 33 (encE (r.getD EX.zero) wa wc), IdxR d g2]) ?_ (Sub.take (i := 6) rfl (Sub.take (i := 0) rfl (Sub.nil _))))
                                        | (have hW := mod_ne (by assumption) hr hv2 (fun _ => rfl)
                                           have hS2 := hS
                                           first
                                             | refine K.GC.res (L' := [cl b7 33 (encE (r.getD EX.zero) wa wc), IdxR d g2]) ?_ (Sub.take (i := 4) rfl (Sub.take (i := 0) rfl (Sub.nil _)))
                                             | refine K.GC.res (L' := [cl b7 33 (encE (r.getD EX.zero) wa wc), IdxR d g2]) ?_ (Sub.take (i := 6) rfl (Sub.take (i := 0) rfl (Sub.nil _))))
                                        | (have hW := put_ne (by assumption) hr hv2
                                           have hS2 := hS
                                           first
                                             | refine K.GC.res (L' := [cl b7 33 (encE (r.getD EX.zero) wa wc), IdxR d g2]) ?_ (Sub.take (i := 4) rfl (Sub.take (i := 0) rfl (Sub.nil _)))
                                             | refine K.GC.res (L' := [cl b7 33 (encE (r.getD EX.zero) wa wc), IdxR d g2]) ?_ (Sub.take (i := 6) rfl (Sub.take (i := 0) rfl (Sub.nil _))))
                                        | (have hW := mod_no (by assumption) hr hv2 (fun _ => rfl)
                                           have hS2 := hS
                                           first
                                             | refine K.GC.res (L' := [cl b7 33 (encE (r.getD EX.zero) wa wc), IdxR d g2]) ?_ (Sub.take (i := 4) rfl (Sub.take (i := 0) rfl (Sub.nil _)))
                                             | refine K.GC.res (L' := [cl b7 33 (encE (r.getD EX.zero) wa wc), IdxR d g2]) ?_ (Sub.take (i := 6) rfl (Sub.take (i := 0) rfl (Sub.nil _))))
                                        | (have hW := mod_eq (f := pinF q.is) (by assumption) hr hv2 (fun _ => rfl)
                                           have hS2 : Sl w 1 wa ((pinF q.is y).sv.length) (strs (pinF q.is y).sv) := hS
                                           first
                                             | refine K.GC.res (L' := [cl b7 33 (encE ((some (pinF q.is y)).getD EX.zero) wa wc), IdxR d g2]) ?_ (Sub.take (i := 4) rfl (Sub.take (i := 0) rfl (Sub.nil _)))
                                             | refine K.GC.res (L' := [cl b7 33 (encE ((some (pinF q.is y)).getD EX.zero) wa wc), IdxR d g2]) ?_ (Sub.take (i := 6) rfl (Sub.take (i := 0) rfl (Sub.nil _))))
                                        | (have hW := mod_eq (f := clsF q.cls) (by assumption) hr hv2 (fun _ => rfl)
                                           have hS2 : Sl w 1 wa ((clsF q.cls y).sv.length) (strs (clsF q.cls y).sv) := hS
                                           first
                                             | refine K.GC.res (L' := [cl b7 33 (encE ((some (clsF q.cls y)).getD EX.zero) wa wc), IdxR d g2]) ?_ (Sub.take (i := 4) rfl (Sub.take (i := 0) rfl (Sub.nil _)))
                                             | refine K.GC.res (L' := [cl b7 33 (encE ((some (clsF q.cls y)).getD EX.zero) wa wc), IdxR d g2]) ?_ (Sub.take (i := 6) rfl (Sub.take (i := 0) rfl (Sub.nil _))))
                                        | (have hW := mod_eq (f := movF q.seq q.at_ q.size) (by assumption) hr hv2 (fun _ => rfl)
                                           have hS2 : Sl w 1 wa ((movF q.seq q.at_ q.size y).sv.length) (strs (movF q.seq q.at_ q.size y).sv) := hS
                                           first
                                             | refine K.GC.res (L' := [cl b7 33 (encE ((some (movF q.seq q.at_ q.size y)).getD EX.zero) wa wc), IdxR d g2]) ?_ (Sub.take (i := 4) rfl (Sub.take (i := 0) rfl (Sub.nil _)))
                                             | refine K.GC.res (L' := [cl b7 33 (encE ((some (movF q.seq q.at_ q.size y)).getD EX.zero) wa wc), IdxR d g2]) ?_ (Sub.take (i := 6) rfl (Sub.take (i := 0) rfl (Sub.nil _))))
                                        | (have hW := del_eq (by assumption) hv2 hk.ids
                                           have hS2 := sl_zero (w := w)
                                           first
                                             | refine K.GC.res (L' := [cl b7 33 (encE ((none : Option EX).getD EX.zero) none 0), IdxR d g2]) ?_ (Sub.take (i := 4) rfl (Sub.take (i := 0) rfl (Sub.nil _)))
                                             | refine K.GC.res (L' := [cl b7 33 (encE ((none : Option EX).getD EX.zero) none 0), IdxR d g2]) ?_ (Sub.take (i := 6) rfl (Sub.take (i := 0) rfl (Sub.nil _))))
                                        | (have hW := put_eq (by assumption) hv2
                                           have hS2 := (hG q (List.mem_of_getElem? hq)).e.sl
                                           first
                                             | refine K.GC.res (L' := [cl b7 33 (encE ((some q.e).getD EX.zero) q.ea q.ec), IdxR d g2]) ?_ (Sub.take (i := 4) rfl (Sub.take (i := 0) rfl (Sub.nil _)))
                                             | refine K.GC.res (L' := [cl b7 33 (encE ((some q.e).getD EX.zero) q.ea q.ec), IdxR d g2]) ?_ (Sub.take (i := 6) rfl (Sub.take (i := 0) rfl (Sub.nil _))))
                                      refine K.GC.region ?_
                                      refine K.GL.det (K.e_move rfl) rfl ?_
                                      refine K.GL.det (K.e_move rfl) rfl ?_
                                      refine gl_get Try.call12 rfl hk2 hW rfl (fun a160 c160 => ?_)
                                      refine K.GL.det (K.e_move rfl) rfl ?_
                                      refine K.GL.det (K.e_extract rfl rfl) rfl ?_
                                      refine K.GL.det (K.e_extract rfl rfl) rfl ?_
                                      refine K.GL.alloc Try.zeroValue33 rfl rfl (fun b15 => ?_)
                                      refine K.GL.store rfl rfl rfl Try.sizeOf33 rfl rfl ?_
                                      refine K.GL.det (K.e_assign rfl) rfl ?_
                                      refine K.GL.nil ?_
                                      refine K.GQ.go ?_
                                      refine K.GC.seq ?_
                                      refine K.GC.region ?_
                                      refine K.GL.det (K.e_move rfl) rfl ?_
                                      refine K.GL.det (K.e_move rfl) rfl ?_
                                      refine K.GL.det ((K.e_neb Try.underlying4 rfl rfl).cast_bool (b := false) (by first | rfl | simp)) rfl ?_
                                      refine K.GL.det (K.e_move rfl) rfl ?_
                                      first | refine K.GL.splitB 166 rfl (fun h38 => ?_) (fun h38 => ?_) | skip
                                      all_goals first | exact absurd h38 (by decide) | replace h38 := of_decide_eq_true h38 | replace h38 := of_decide_eq_false h38 | skip
                                      all_goals
                                        first | (refine K.GL.want 166 rfl rfl rfl ?_; first | refine K.GL.det (K.e_loads Try.isAgg33 Try.sizeOf33 rfl rfl) rfl ?_) | refine K.GL.skip 166 rfl rfl rfl rfl ?_ | refine K.GL.skipU 166 rfl rfl rfl rfl ?_
                                        first | (refine K.GL.want 166 rfl rfl rfl ?_; first | refine K.GL.det (K.e_loads Try.isAgg33 Try.sizeOf33 rfl rfl) rfl ?_) | refine K.GL.skip 166 rfl rfl rfl rfl ?_ | refine K.GL.skipU 166 rfl rfl rfl rfl ?_
                                        first | (refine K.GL.want 166 rfl rfl rfl ?_; first | refine K.GL.det ((K.e_call1 Try.call18 rfl (fun w hT => same_at hW (hT.sl_row (List.mem_of_getElem? (i := 1) rfl) (by omega) (by rw [strs_length, Nat.mul_one])) (hS2.stay hT (fun r hr => by cases hr)) (get_lt hk2 hW)))) rfl ?_) | refine K.GL.skip 166 rfl rfl rfl rfl ?_ | refine K.GL.skipU 166 rfl rfl rfl rfl ?_
                                        first | (refine K.GL.want 166 rfl rfl rfl ?_; first | refine K.GL.det ((K.e_not rfl).cast_bool (b := false) rfl) rfl ?_) | refine K.GL.skip 166 rfl rfl rfl rfl ?_ | refine K.GL.skipU 166 rfl rfl rfl rfl ?_
                                        first | refine K.GL.det (K.e_pick_t rfl rfl) rfl ?_ | refine K.GL.det (K.e_pick_f rfl rfl) rfl ?_
                                        refine K.GL.nil ?_
                                        refine K.GQ.go ?_
                                        refine K.GC.condB rfl (fun h39 => ?_) (fun h39 => ?_)
                                        · first
                                          | exact absurd h39 (by decide)
                                          | try replace h39 := of_decide_eq_true h39
                                            refine K.GC.seq ?_
                                            refine K.GC.region ?_
                                            refine K.GL.det (K.e_assign rfl) rfl ?_
                                            refine K.GL.nil ?_
                                            refine K.GQ.go ?_
                                            refine K.GC.ret ?_
                                            refine K.GQ.block_ret ?_
                                            refine K.GQ.then_ret ?_
                                            refine K.GQ.then_ret ?_
                                            refine K.GQ.block_ret ?_
                                            refine K.GQ.then_ret ?_
                                            refine K.GQ.ret1 Try.results3 rfl (fun w hT => ?_)
                                            exact ⟨rfl, hT.nil⟩
                                        · first
                                          | exact absurd h39 (by decide)
                                          | try replace h39 := of_decide_eq_false h39
                                            refine K.GC.skip ?_
                                            refine K.GQ.block_normal ?_
                                            refine K.GQ.go ?_
                                            refine K.GC.region ?_
                                            refine K.GL.det (K.e_move rfl) rfl ?_
                                            first | refine K.GL.det (K.e_add rfl rfl ⟨by omega, by omega⟩) rfl ?_ | refine K.GL.det (K.e_addw rfl rfl) rfl ?_
                                            refine K.GL.det (K.e_assign rfl) rfl ?_
                                            refine K.GL.nil ?_
                                            exact K.GQ.round (x + 1, g2, _, _, _) ⟨by simp only; omega, hk2, hW, hS2⟩ (by simp only; omega) (by (repeat refine ⟨rfl, ?_⟩); exact trivial) (Sub.take (i := 2) rfl (Sub.take (i := 2) rfl (Sub.nil _)))
                                  · first
                                    | exact absurd h37 (by decide)
                                    | try replace h37 := of_decide_eq_false h37
                                      refine K.GC.skip ?_
                                      refine K.GQ.block_normal ?_
                                      refine K.GQ.go ?_
                                      refine K.GC.seq ?_
                                      first
                                        | (have hW := del_ne (by assumption) hr hv2 hk.ids
                                           have hS2 := hS
                                           first
                                             | refine K.GC.res (L' := [cl b7 33 (encE (r.getD EX.zero) wa wc), IdxR d g2]) ?_ (Sub.take (i := 4) rfl (Sub.take (i := 0) rfl (Sub.nil _)))
                                             | refine K.GC.res (L' := [cl b7 33 (encE (r.getD EX.zero) wa wc), IdxR d g2]) ?_ (Sub.take (i := 6) rfl (Sub.take (i := 0) rfl (Sub.nil _))))
                                        | (have hW := mod_ne (by assumption) hr hv2 (fun _ => rfl)
                                           have hS2 := hS
                                           first
                                             | refine K.GC.res (L' := [cl b7 33 (encE (r.getD EX.zero) wa wc), IdxR d g2]) ?_ (Sub.take (i := 4) rfl (Sub.take (i := 0) rfl (Sub.nil _)))
                                             | refine K.GC.res (L' := [cl b7 33 (encE (r.getD EX.zero) wa wc), IdxR d g2]) ?_ (Sub.take (i := 6) rfl (Sub.take (i := 0) rfl (Sub.nil _))))
                                        | (have hW := put_ne (by assumption) hr hv2
                                           have hS2 := hS
                                           first
                                             | refine K.GC.res (L' := [cl b7 33 (encE (r.getD EX.zero) wa wc), IdxR d g2]) ?_ (Sub.take (i := 4) rfl (Sub.take (i := 0) rfl (Sub.nil _)))
                                             | refine K.GC.res (L' := [cl b7 33 (encE (r.getD EX.zero) wa wc), IdxR d g2]) ?_ (Sub.take (i := 6) rfl (Sub.take (i := 0) rfl (Sub.nil _))))
                                        | (have hW := mod_no (by assumption) hr hv2 (fun _ => rfl)
                                           have hS2 := hS
                                           first
                                             | refine K.GC.res (L' := [cl b7 33 (encE (r.getD EX.zero) wa wc), IdxR d g2]) ?_ (Sub.take (i := 4) rfl (Sub.take (i := 0) rfl (Sub.nil _)))
                                             | refine K.GC.res (L' := [cl b7 33 (encE (r.getD EX.zero) wa wc), IdxR d g2]) ?_ (Sub.take (i := 6) rfl (Sub.take (i := 0) rfl (Sub.nil _))))
                                        | (have hW := mod_eq (f := pinF q.is) (by assumption) hr hv2 (fun _ => rfl)
                                           have hS2 : Sl w 1 wa ((pinF q.is y).sv.length) (strs (pinF q.is y).sv) := hS
                                           first
                                             | refine K.GC.res (L' := [cl b7 33 (encE ((some (pinF q.is y)).getD EX.zero) wa wc), IdxR d g2]) ?_ (Sub.take (i := 4) rfl (Sub.take (i := 0) rfl (Sub.nil _)))
                                             | refine K.GC.res (L' := [cl b7 33 (encE ((some (pinF q.is y)).getD EX.zero) wa wc), IdxR d g2]) ?_ (Sub.take (i := 6) rfl (Sub.take (i := 0) rfl (Sub.nil _))))
                                        | (have hW := mod_eq (f := clsF q.cls) (by assumption) hr hv2 (fun _ => rfl)
                                           have hS2 : Sl w 1 wa ((clsF q.cls y).sv.length) (strs (clsF q.cls y).sv) := hS
                                           first
                                             | refine K.GC.res (L' := [cl b7 33 (encE ((some (clsF q.cls y)).getD EX.zero) wa wc), IdxR d g2]) ?_ (Sub.take (i := 4) rfl (Sub.take (i := 0) rfl (Sub.nil _)))
                                             | refine K.GC.res (L' := [cl b7 33 (encE ((some (clsF q.cls y)).getD EX.zero) wa wc), IdxR d g2]) ?_ (Sub.take (i := 6) rfl (Sub.take (i := 0) rfl (Sub.nil _))))
                                        | (have hW := mod_eq (f := movF q.seq q.at_ q.size) (by assumption) hr hv2 (fun _ => rfl)
                                           have hS2 : Sl w 1 wa ((movF q.seq q.at_ q.size y).sv.length) (strs (movF q.seq q.at_ q.size y).sv) := hS
                                           first
                                             | refine K.GC.res (L' := [cl b7 33 (encE ((some (movF q.seq q.at_ q.size y)).getD EX.zero) wa wc), IdxR d g2]) ?_ (Sub.take (i := 4) rfl (Sub.take (i := 0) rfl (Sub.nil _)))
                                             | refine K.GC.res (L' := [cl b7 33 (encE ((some (movF q.seq q.at_ q.size y)).getD EX.zero) wa wc), IdxR d g2]) ?_ (Sub.take (i := 6) rfl (Sub.take (i := 0) rfl (Sub.nil _))))
                                        | (have hW := del_eq (by assumption) hv2 hk.ids
                                           have hS2 := sl_zero (w := w)
                                           first
                                             | refine K.GC.res (L' := [cl b7 33 (encE ((none : Option EX).getD EX.zero) none 0), IdxR d g2]) ?_ (Sub.take (i := 4) rfl (Sub.take (i := 0) rfl (Sub.nil _)))
                                             | refine K.GC.res (L' := [cl b7 33 (encE ((none : Option EX).getD EX.zero) none 0), IdxR d g2]) ?_ (Sub.take (i := 6) rfl (Sub.take (i := 0) rfl (Sub.nil _))))
                                        | (have hW := put_eq (by assumption) hv2
                                           have hS2 := (hG q (List.mem_of_getElem? hq)).e.sl
                                           first
                                             | refine K.GC.res (L' := [cl b7 33 (encE ((some q.e).getD EX.zero) q.ea q.ec), IdxR d g2]) ?_ (Sub.take (i := 4) rfl (Sub.take (i := 0) rfl (Sub.nil _)))
                                             | refine K.GC.res (L' := [cl b7 33 (encE ((some q.e).getD EX.zero) q.ea q.ec), IdxR d g2]) ?_ (Sub.take (i := 6) rfl (Sub.take (i := 0) rfl (Sub.nil _))))
                                      refine K.GC.region ?_
                                      refine K.GL.det (K.e_move rfl) rfl ?_
                                      refine K.GL.det (K.e_move rfl) rfl ?_
                                      refine gl_get Try.call12 rfl hk2 hW rfl (fun a160 c160 => ?_)
                                      refine K.GL.det (K.e_move rfl) rfl ?_
                                      refine K.GL.det (K.e_extract rfl rfl) rfl ?_
                                      refine K.GL.det (K.e_extract rfl rfl) rfl ?_
                                      refine K.GL.alloc Try.zeroValue33 rfl rfl (fun b15 => ?_)
                                      refine K.GL.store rfl rfl rfl Try.sizeOf33 rfl rfl ?_
                                      refine K.GL.det (K.e_assign rfl) rfl ?_
                                      refine K.GL.nil ?_
                                      refine K.GQ.go ?_
                                      refine K.GC.seq ?_
                                      refine K.GC.region ?_
                                      refine K.GL.det (K.e_move rfl) rfl ?_
                                      refine K.GL.det (K.e_move rfl) rfl ?_
                                      refine K.GL.det ((K.e_neb Try.underlying4 rfl rfl).cast_bool (b := false) (by first | rfl | simp)) rfl ?_
                                      refine K.GL.det (K.e_move rfl) rfl ?_
                                      first | refine K.GL.splitB 166 rfl (fun h40 => ?_) (fun h40 => ?_) | skip
                                      all_goals first | exact absurd h40 (by decide) | replace h40 := of_decide_eq_true h40 | replace h40 := of_decide_eq_false h40 | skip
                                      all_goals
                                        first | (refine K.GL.want 166 rfl rfl rfl ?_; first | refine K.GL.det (K.e_loads Try.isAgg33 Try.sizeOf33 rfl rfl) rfl ?_) | refine K.GL.skip 166 rfl rfl rfl rfl ?_ | refine K.GL.skipU 166 rfl rfl rfl rfl ?_
                                        first | (refine K.GL.want 166 rfl rfl rfl ?_; first | refine K.GL.det (K.e_loads Try.isAgg33 Try.sizeOf33 rfl rfl) rfl ?_) | refine K.GL.skip 166 rfl rfl rfl rfl ?_ | refine K.GL.skipU 166 rfl rfl rfl rfl ?_
                                        first | (refine K.GL.want 166 rfl rfl rfl ?_; first | refine K.GL.det ((K.e_call1 Try.call18 rfl (fun w hT => same_at hW (hT.sl_row (List.mem_of_getElem? (i := 1) rfl) (by omega) (by rw [strs_length, Nat.mul_one])) (hS2.stay hT (fun r hr => by cases hr)) (get_lt hk2 hW)))) rfl ?_) | refine K.GL.skip 166 rfl rfl rfl rfl ?_ | refine K.GL.skipU 166 rfl rfl rfl rfl ?_
                                        first | (refine K.GL.want 166 rfl rfl rfl ?_; first | refine K.GL.det ((K.e_not rfl).cast_bool (b := false) rfl) rfl ?_) | refine K.GL.skip 166 rfl rfl rfl rfl ?_ | refine K.GL.skipU 166 rfl rfl rfl rfl ?_
                                        first | refine K.GL.det (K.e_pick_t rfl rfl) rfl ?_ | refine K.GL.det (K.e_pick_f rfl rfl) rfl ?_
                                        refine K.GL.nil ?_
                                        refine K.GQ.go ?_
                                        refine K.GC.condB rfl (fun h41 => ?_) (fun h41 => ?_)
                                        · first
                                          | exact absurd h41 (by decide)
                                          | try replace h41 := of_decide_eq_true h41
                                            refine K.GC.seq ?_
                                            refine K.GC.region ?_
                                            refine K.GL.det (K.e_assign rfl) rfl ?_
                                            refine K.GL.nil ?_
                                            refine K.GQ.go ?_
                                            refine K.GC.ret ?_
                                            refine K.GQ.block_ret ?_
                                            refine K.GQ.then_ret ?_
                                            refine K.GQ.then_ret ?_
                                            refine K.GQ.block_ret ?_
                                            refine K.GQ.then_ret ?_
                                            refine K.GQ.ret1 Try.results3 rfl (fun w hT => ?_)
                                            exact ⟨rfl, hT.nil⟩
                                        · first
                                          | exact absurd h41 (by decide)
                                          | try replace h41 := of_decide_eq_false h41
                                            refine K.GC.skip ?_
                                            refine K.GQ.block_normal ?_
                                            refine K.GQ.go ?_
                                            refine K.GC.region ?_
                                            refine K.GL.det (K.e_move rfl) rfl ?_
                                            first | refine K.GL.det (K.e_add rfl rfl ⟨by omega, by omega⟩) rfl ?_ | refine K.GL.det (K.e_addw rfl rfl) rfl ?_
                                            refine K.GL.det (K.e_assign rfl) rfl ?_
                                            refine K.GL.nil ?_
                                            exact K.GQ.round (x + 1, g2, _, _, _) ⟨by simp only; omega, hk2, hW, hS2⟩ (by simp only; omega) (by (repeat refine ⟨rfl, ?_⟩); exact trivial) (Sub.take (i := 2) rfl (Sub.take (i := 2) rfl (Sub.nil _)))
          · first
            | exact absurd h4 (by decide)
            | try replace h4 := of_decide_eq_false h4
              refine K.GC.exit ?_
              refine K.GQ.then_exit ?_
              refine K.GQ.then_exit ?_
              refine K.GQ.block_hit ?_
              refine K.GQ.go ?_
              refine K.GC.seq ?_
              refine K.GC.region ?_
              refine K.GL.det (K.e_move rfl) rfl ?_
              refine K.GL.det (K.e_assign rfl) rfl ?_
              refine K.GL.nil ?_
              refine K.GQ.go ?_
              refine K.GC.ret ?_
              refine K.GQ.ret1 Try.results3 rfl (fun w hT => ?_)
              exact ⟨rfl, hT.nil⟩

set_option maxHeartbeats 1000000 in
set_option maxRecDepth 100000 in
theorem EntryMap_lifted (os : Os) (started : os.Started) (H : Type) (enc : TypeId × Value → H) :
    ReturnsInHanded {} Try.checked os 3 .any (Rows.entryMapSpec.pre6 enc Try.prog Try.f3 Rows.entryMapRow.domain false) (Rows.entryMapSpec.post enc Try.prog Try.f3 false true false false) := by
  refine returnsInHanded_of_change_sized (C := Try.checked) own started (by kernel_rfl) Try.func3
    (ChangeSpec.witness6 (enc := enc) (C := Try.checked) false ⟨#[], #[.slice none 0 0, .int .i64 0], []⟩ 8 (by kernel_rfl) (by kernel_rfl) (by kernel_rfl) (by kernel_rfl)) ?_
  intro W base args ds gs before hval0 hW _ hsz0 _
  have hval : ∀ (j : Nat) t v, Try.f3.params[j]? = some t → args[j]? = some v → Value.okWide Try.prog W .any base t v := hval0
  have hsz : (DataW.weightsEach Try.prog (Try.f3.params.toList ++ []) (ds ++ gs)).all (· ≤ reachBytes) = true := hsz0
  have hW' := hW
  obtain ⟨p, q, hA0, hV, hpe, hfz, hnd⟩ := hW
  have hA : DataW.TrodAll enc Try.prog W 0 (fun _ => true) true Try.f3.params.toList args.toList ds p := hA0
  obtain ⟨rfl, rfl⟩ := trodVars_none hV
  rw [Try.params3] at hA hval hsz
  obtain ⟨v0, vs0, d0, ds0, p0, q0, hargs, rfl, rfl, h0, r0⟩ := trodAll_cons hA
  obtain ⟨v1, vs1, d1, ds1, p1, q1, rfl, rfl, rfl, h1, r1⟩ := trodAll_cons r0
  obtain ⟨rfl, rfl, rfl⟩ := trodAll_nil r1
  obtain rfl : args = #[v0, v1] := by cases args; simp_all
  clear hA0 hval0 hsz0 hA hargs
  obtain ⟨ax, nx, cx, rfl⟩ := okWide_slice Try.underlying22 (hval 0 22 _ rfl rfl)
  obtain ⟨fuelx, hfx⟩ := h0
  obtain ⟨ax', nx', cx', lx, hcsx, hnx, hSx, hGx⟩ := open_ops hfx
  have hcsx' : Value.slice ax nx cx = .slice ax' nx' cx' := by simpa [Value.cells] using hcsx
  simp only [Value.slice.injEq] at hcsx'
  obtain ⟨rfl, rfl, rfl⟩ := hcsx'
  unfold maxLen at hnx
  obtain ⟨id, rfl, rfl, rfl, wid⟩ := open_int Try.underlying2 (hval 1 2 _ rfl rfl) h1
  have core : Calls Try.prog 3 #[.slice ax nx cx, .int .i64 id] W fun e W' => e = .returned (.bool true) ∧ Tr W [] W' [] := map_any W hSx hGx (by omega) id
  exact core.mono fun e W' ⟨he, hT⟩ => ⟨_, he, law_post (tb := 4) hW' rfl rfl Try.underlying4 (fun _ => rfl) laidOut (by kernel_rfl) hT.below⟩
theorem EntryMap_holds : Rows.EntryMapSaid :=
  OpenClaim.holds_of_wide 3 Try.f3 rfl rfl rfl rfl rfl rfl rfl ⟨rfl, rfl, rfl, rfl, rfl⟩ rfl rfl rfl rfl rfl (by kernel_rfl) Try.func3 (by kernel_rfl)
    (of_decide_eq_true (by kernel_rfl)) (by unfold Func.isWrapper; first | (rw [if_pos (by decide +kernel)]; kernel_rfl) | (rw [if_neg (by decide +kernel)]; exact ⟨rfl, rfl⟩))
    (fun os started H enc _ => EntryMap_lifted os started H enc)

end Go.Proofs.Ytcphpcjcbmennaa
