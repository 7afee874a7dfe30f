/- DevPlays returns true for any size and all calls, and turns nothing. -/
import Derived.ProofKit
import Derived.OpenShut
import Derived.SizedLaws
import Derived.Lib.SmallJoins
import Derived.Test.YtgkdnecjokhkcaaRows
import Derived.Test.YtgkdnecjokhkcaaDevV
namespace Go.Proofs.Ytgkdnecjokhkcaa
open Go Go.K Go.ChangeShapes Go.WideShapes Go.ChangeAt Go.RowKit Go.Joins
set_option linter.unusedVariables false
set_option linter.unusedSimpArgs false
attribute [local irreducible] Calls Ev GL GC GQ GR Code.wp
theorem own : ownKnob Try.prog.godebug = none := by kernel_rfl
theorem laidOut : laidOutB Try.prog = true := by kernel_rfl
theorem fo33_0 : K.fieldOff Try.prog 33 0 = some (3, 0, 1) := by kernel_rfl
theorem fo33_1 : K.fieldOff Try.prog 33 1 = some (3, 1, 1) := by kernel_rfl
theorem fo33_2 : K.fieldOff Try.prog 33 2 = some (5, 2, 1) := by kernel_rfl
/- turntable/turntablelaw07.DevPlays -/
set_option maxHeartbeats 16000000 in
set_option maxRecDepth 100000 in
theorem plays_any {a1 : Option Addr} {n1 c1 : Nat} {n0 : Int} {l1 : List OX} (w : World) (hL : Sl w 6 a1 n1 (l1.flatMap encO)) (hG : ∀ y ∈ l1, OGood2 w y) (hn1 : n1 ≤ 9223372036854775807) :
    Calls Try.prog 3 #[.int .i64 n0, .slice a1 n1 c1] w fun e w' => e = .returned (.bool true) ∧ Tr w [] w' [] := by
  have hl1 : l1.length = n1 := hL.count (by omega) encO_len
  refine K.enter0 (args := [_, _]) Try.func3 rfl Try.ntmps3 rfl ?_
  refine K.GC.seq ?_
  refine K.GC.region ?_
  refine K.GL.det (K.e_assign rfl) rfl ?_
  refine K.GL.nil ?_
  refine K.GQ.go ?_
  refine K.GC.seq ?_
  refine K.GC.region ?_
  refine K.GL.det (K.e_call1 Try.call9 rfl (fun w hT => head_con)) rfl ?_
  refine K.GL.det (K.e_assign rfl) rfl ?_
  refine K.GL.nil ?_
  refine K.GQ.go ?_
  refine K.GC.seq ?_
  refine K.GC.seq ?_
  refine K.GC.region ?_
  refine K.GL.det (K.e_move rfl) rfl ?_
  first | refine K.GL.det ((K.e_gt rfl rfl).yes (by omega)) rfl ?_ | refine K.GL.det ((K.e_gt rfl rfl).no (by omega)) rfl ?_ | refine K.GL.det (K.e_gt rfl rfl) rfl ?_
  refine K.GL.det (K.e_move rfl) rfl ?_
  first | refine K.GL.splitB 24 rfl (fun h1 => ?_) (fun h1 => ?_) | skip
  all_goals first | exact absurd h1 (by decide) | replace h1 := of_decide_eq_true h1 | replace h1 := of_decide_eq_false h1 | skip
  all_goals
    first | (refine K.GL.want 24 rfl rfl rfl ?_; first | refine K.GL.det (K.e_move rfl) rfl ?_) | refine K.GL.skip 24 rfl rfl rfl rfl ?_ | refine K.GL.skipU 24 rfl rfl rfl rfl ?_
    first
      | refine K.GL.skip 24 rfl rfl rfl rfl ?_
      | refine K.GL.skipU 24 rfl rfl rfl rfl ?_
      | (refine K.GL.want 24 rfl rfl rfl ?_
         refine gl_great (l := l1) Try.call10 rfl (fun w hT => hL.stay hT (fun r hr => by cases hr)) (by omega) rfl (fun gr26 hg26 => ?_)
         rcases gr26 with _ | _)
    all_goals
      first | refine K.GL.det (K.e_pick_t rfl rfl) rfl ?_ | refine K.GL.det (K.e_pick_f rfl rfl) rfl ?_
      refine K.GL.nil ?_
      refine K.GQ.go ?_
      refine K.GC.condB rfl (fun h2 => ?_) (fun h2 => ?_)
      · first
        | exact absurd h2 (by decide)
        | try replace h2 := of_decide_eq_true h2
          refine K.GC.seq ?_
          refine K.GC.region ?_
          refine K.GL.det (K.e_move rfl) rfl ?_
          refine K.GL.det (K.e_assign rfl) rfl ?_
          refine K.GL.nil ?_
          refine K.GQ.go ?_
          refine K.GC.ret ?_
          refine K.GQ.then_ret ?_
          refine K.GQ.ret1 Try.results3 rfl (fun w hT => ?_)
          exact ⟨rfl, hT.nil⟩
      · first
        | exact absurd h2 (by decide)
        | try replace h2 := of_decide_eq_false h2
          refine K.GC.skip ?_
          refine K.GQ.go ?_
          refine K.GC.seq ?_
          rcases (by omega : 1 ≤ n0 ∨ n0 < 1) with hn0 | hn0
          all_goals
            refine K.GC.region ?_
            refine K.GL.det (K.e_move rfl) rfl ?_
            first
              | refine gl_new (n := n0) Try.call11 rfl (by omega) rfl (fun d g1 hkg1 hvg1 => ?_)
              | refine gl_new0 (n := n0) Try.call11 rfl (by omega) rfl ?_
            refine K.GL.det (K.e_assign rfl) rfl ?_
            refine K.GL.nil ?_
            refine K.GQ.go ?_
            refine K.GC.seq ?_
            refine K.GC.region ?_
            refine K.GL.det (K.e_move rfl) rfl ?_
            first
              | (refine gl_rnew (n := n0) Try.call12 rfl (by omega) rfl (fun r gr1 hkr1 hsr1 => ?_); rw [← hvg1] at hsr1)
              | refine gl_rnew0 (n := n0) Try.call12 rfl (by omega) rfl ?_
            refine K.GL.det (K.e_assign rfl) rfl ?_
            refine K.GL.nil ?_
            refine K.GQ.go ?_
            refine K.GC.seq ?_
            refine K.GC.seq ?_
            refine K.GC.region ?_
            refine K.GL.det (K.e_move rfl) rfl ?_
            first | refine K.GL.det ((K.e_eqlp Try.underlying25 rfl rfl).cast_bool (b := false) rfl) rfl ?_ | refine K.GL.det ((K.e_eqlp Try.underlying25 rfl rfl).cast_bool (b := true) rfl) rfl ?_
            refine K.GL.det (K.e_move rfl) rfl ?_
            first | refine K.GL.splitB 35 rfl (fun h3 => ?_) (fun h3 => ?_) | skip
            all_goals first | exact absurd h3 (by decide) | replace h3 := of_decide_eq_true h3 | replace h3 := of_decide_eq_false h3 | skip
            all_goals
              first | (refine K.GL.want 35 rfl rfl rfl ?_; first | refine K.GL.det (K.e_move rfl) rfl ?_) | refine K.GL.skip 35 rfl rfl rfl rfl ?_ | refine K.GL.skipU 35 rfl rfl rfl rfl ?_
              first | (refine K.GL.want 35 rfl rfl rfl ?_; first | refine K.GL.det ((K.e_eqlp Try.underlying27 rfl rfl).cast_bool (b := false) rfl) rfl ?_ | refine K.GL.det ((K.e_eqlp Try.underlying27 rfl rfl).cast_bool (b := true) rfl) rfl ?_) | refine K.GL.skip 35 rfl rfl rfl rfl ?_ | refine K.GL.skipU 35 rfl rfl rfl rfl ?_
              first | refine K.GL.det (K.e_pick_t rfl rfl) rfl ?_ | refine K.GL.det (K.e_pick_f rfl rfl) rfl ?_
              refine K.GL.nil ?_
              refine K.GQ.go ?_
              refine K.GC.condB rfl (fun h4 => ?_) (fun h4 => ?_)
              · first
                | exact absurd h4 (by decide)
                | try replace h4 := of_decide_eq_true h4
                  refine K.GC.seq ?_
                  refine K.GC.region ?_
                  refine K.GL.det (K.e_move rfl) rfl ?_
                  refine K.GL.det (K.e_move rfl) rfl ?_
                  first | refine K.GL.splitB 40 rfl (fun h5 => ?_) (fun h5 => ?_) | skip
                  all_goals first | exact absurd h5 (by decide) | replace h5 := of_decide_eq_true h5 | replace h5 := of_decide_eq_false h5 | skip
                  all_goals
                    first | (refine K.GL.want 40 rfl rfl rfl ?_; first | refine K.GL.det (K.e_move rfl) rfl ?_) | refine K.GL.skip 40 rfl rfl rfl rfl ?_ | refine K.GL.skipU 40 rfl rfl rfl rfl ?_
                    first | (refine K.GL.want 40 rfl rfl rfl ?_; first | refine K.GL.det ((K.e_eqlp Try.underlying25 rfl rfl).cast_bool (b := false) rfl) rfl ?_ | refine K.GL.det ((K.e_eqlp Try.underlying25 rfl rfl).cast_bool (b := true) rfl) rfl ?_) | refine K.GL.skip 40 rfl rfl rfl rfl ?_ | refine K.GL.skipU 40 rfl rfl rfl rfl ?_
                    first | (refine K.GL.want 40 rfl rfl rfl ?_; first | refine K.GL.det (K.e_move rfl) rfl ?_) | refine K.GL.skip 40 rfl rfl rfl rfl ?_ | refine K.GL.skipU 40 rfl rfl rfl rfl ?_
                    first | (refine K.GL.want 40 rfl rfl rfl ?_; first | refine K.GL.det ((K.e_eqlp Try.underlying27 rfl rfl).cast_bool (b := false) rfl) rfl ?_ | refine K.GL.det ((K.e_eqlp Try.underlying27 rfl rfl).cast_bool (b := true) rfl) rfl ?_) | refine K.GL.skip 40 rfl rfl rfl rfl ?_ | refine K.GL.skipU 40 rfl rfl rfl rfl ?_
                    first | (refine K.GL.want 40 rfl rfl rfl ?_; first | refine K.GL.det ((K.e_eqb Try.underlying4 rfl rfl).cast_bool (b := true) rfl) rfl ?_ | refine K.GL.det ((K.e_eqb Try.underlying4 rfl rfl).cast_bool (b := false) rfl) rfl ?_ | refine K.GL.det ((K.e_eqb Try.underlying4 rfl rfl).cast_bool (b := true) (by first | rfl | simp [*])) rfl ?_ | refine K.GL.det ((K.e_eqb Try.underlying4 rfl rfl).cast_bool (b := false) (by first | rfl | simp [*])) rfl ?_ | refine K.GL.det (K.e_eqb Try.underlying4 rfl rfl) rfl ?_) | refine K.GL.skip 40 rfl rfl rfl rfl ?_ | refine K.GL.skipU 40 rfl rfl rfl rfl ?_
                    first | refine K.GL.det (K.e_pick_t rfl rfl) rfl ?_ | refine K.GL.det (K.e_pick_f rfl rfl) rfl ?_
                    refine K.GL.det (K.e_assign rfl) rfl ?_
                    refine K.GL.nil ?_
                    refine K.GQ.go ?_
                    refine K.GC.ret ?_
                    refine K.GQ.then_ret ?_
                    refine K.GQ.ret1 Try.results3 rfl (fun w hT => ?_)
                    exact ⟨rfl, hT.nil⟩
              · first
                | exact absurd h4 (by decide)
                | try replace h4 := of_decide_eq_false h4
                  refine K.GC.skip ?_
                  refine K.GQ.go ?_
                  refine K.GC.seq ?_
                  refine K.GC.seq ?_
                  refine K.GC.region ?_
                  refine K.GL.det (K.e_assign rfl) rfl ?_
                  refine K.GL.nil ?_
                  refine K.GQ.go ?_
                  refine K.GC.block ?_
                  refine K.GC.loopk (α := Nat × DG × RG) [1, 5, 6, 7, 16, 17, 18, 19, 20, 165, 166, 167, 168, 169, 170, 171, 172, 173, 174, 175, 176, 177, 178, 179, 180, 181, 182, 183, 184, 185, 186, 187, 188, 189, 190, 191, 192, 193, 194, 195, 196, 197, 198, 199, 200] rfl (fun x => [(8, .int .i64 (x.1 : Int))]) (fun x => [DevR d x.2.1, RefR r x.2.2]) (fun x => x.1 ≤ n1 ∧ x.2.1.Ok ∧ x.2.2.Ok ∧ x.2.2.s = x.2.1.v) (fun x => (n1 - x.1)) (0, g1, gr1) ⟨Nat.zero_le _, hkg1, hkr1, hsr1⟩ (by (repeat refine ⟨rfl, ?_⟩); exact trivial) two_sub (fun x hI => ?_)
                  obtain ⟨x, g1, gr1⟩ := x
                  obtain ⟨hx, hkg1, hkr1, hsr1⟩ := hI
                  simp only at hx hkg1 hkr1 hsr1 ⊢
                  refine K.GC.seq ?_
                  refine K.GC.seq ?_
                  refine K.GC.region ?_
                  refine K.GL.det (K.e_move rfl) rfl ?_
                  refine K.GL.det (K.e_move rfl) rfl ?_
                  refine K.GL.det (K.e_len Try.underlying22 rfl) rfl ?_
                  first | refine K.GL.det ((K.e_lt rfl rfl).yes (by omega)) rfl ?_ | refine K.GL.det ((K.e_lt rfl rfl).no (by omega)) rfl ?_ | refine K.GL.det (K.e_lt rfl rfl) rfl ?_
                  refine K.GL.nil ?_
                  refine K.GQ.go ?_
                  refine K.GC.condB rfl (fun h6 => ?_) (fun h6 => ?_)
                  · first
                    | exact absurd h6 (by decide)
                    | try replace h6 := of_decide_eq_true h6
                      refine K.GC.skip ?_
                      refine K.GQ.go ?_
                      refine K.GC.seq ?_
                      refine K.GC.block ?_
                      refine K.GC.seq ?_
                      obtain ⟨q, hq⟩ : ∃ q, l1[x]? = some q := get_ex (by omega)
                      obtain ⟨⟨hi1, hi2⟩, ⟨bs, hBs⟩, ⟨ks, hKs⟩, ⟨hs, hHs, hbits, hhn⟩⟩ := hG q (List.mem_of_getElem? hq)
                      refine K.GC.region ?_
                      refine K.GL.det (K.e_move rfl) rfl ?_
                      refine K.GL.det (K.e_move rfl) rfl ?_
                      refine K.GL.det (K.e_indexAddrS sl22 rfl rfl hL (by omega) (by omega)) rfl ?_
                      refine K.GL.det (K.e_loads_old Try.isAgg33 Try.sizeOf33 rfl (hL.item encO_len hq) rfl) rfl ?_
                      refine K.GL.alloc Try.zeroValue33 rfl rfl (fun b9 => ?_)
                      refine K.GL.store rfl rfl rfl Try.sizeOf33 rfl rfl ?_
                      refine K.GL.nil ?_
                      refine K.GQ.go ?_
                      refine K.GC.seq ?_
                      refine K.GC.region ?_
                      refine K.GL.det (K.e_assign rfl) rfl ?_
                      refine K.GL.nil ?_
                      refine K.GQ.go ?_
                      refine K.GC.seq ?_
                      refine K.GC.region ?_
                      refine K.GL.det (K.e_assign rfl) rfl ?_
                      refine K.GL.nil ?_
                      refine K.GQ.go ?_
                      refine K.GC.seq ?_
                      refine K.GC.seq ?_
                      refine K.GC.region ?_
                      refine K.GL.det (K.e_fieldAddr fo33_0 rfl) rfl ?_
                      first | refine K.GL.det (K.e_load Try.isAgg3 rfl rfl) rfl ?_ | refine K.GL.det (K.e_load0 Try.isAgg3 rfl (by assumption)) rfl ?_
                      refine K.GL.nil ?_
                      refine K.GQ.go ?_
                      refine K.GC.block ?_
                      refine K.GC.seq ?_
                      refine K.GC.region ?_
                      first | refine K.GL.det ((K.e_eq rfl rfl).yes (by omega)) rfl ?_ | refine K.GL.det ((K.e_eq rfl rfl).no (by omega)) rfl ?_ | refine K.GL.det (K.e_eq rfl rfl) rfl ?_
                      refine K.GL.det (K.e_assign rfl) rfl ?_
                      refine K.GL.nil ?_
                      refine K.GQ.go ?_
                      refine K.GC.condB rfl (fun h7 => ?_) (fun h7 => ?_)
                      · first
                        | exact absurd h7 (by decide)
                        | try replace h7 := of_decide_eq_true h7
                          refine K.GC.seq ?_
                          refine K.GC.region ?_
                          refine K.GL.det (K.e_move rfl) rfl ?_
                          refine K.GL.det (K.e_fieldAddr fo33_1 rfl) rfl ?_
                          first | refine K.GL.det (K.e_load Try.isAgg3 rfl rfl) rfl ?_ | refine K.GL.det (K.e_load0 Try.isAgg3 rfl (by assumption)) rfl ?_
                          refine K.GL.det (K.e_fieldAddr fo33_3 rfl) rfl ?_
                          first | refine K.GL.det (K.e_load Try.isAgg29 rfl rfl) rfl ?_ | refine K.GL.det (K.e_load0 Try.isAgg29 rfl (by assumption)) rfl ?_
                          refine gl_write (i := q.at_) (bs := bs) Try.call13 rfl hkg1 (fun w hT => ⟨hBs.stay hT (fun x hx => by cases hx), fun hn => apart_old hBs (by omega) hT (by simp) hn⟩) rfl (fun g1 hkg1 hvg1 => ?_)
                          refine K.GL.det (K.e_assign rfl) rfl ?_
                          refine K.GL.nil ?_
                          refine K.GQ.go ?_
                          refine K.GC.region ?_
                          refine K.GL.det (K.e_move rfl) rfl ?_
                          refine K.GL.det (K.e_fieldAddr fo33_1 rfl) rfl ?_
                          first | refine K.GL.det (K.e_load Try.isAgg3 rfl rfl) rfl ?_ | refine K.GL.det (K.e_load0 Try.isAgg3 rfl (by assumption)) rfl ?_
                          refine K.GL.det (K.e_fieldAddr fo33_3 rfl) rfl ?_
                          first | refine K.GL.det (K.e_load Try.isAgg29 rfl rfl) rfl ?_ | refine K.GL.det (K.e_load0 Try.isAgg29 rfl (by assumption)) rfl ?_
                          refine gl_rwrite (i := q.at_) (bs := bs) Try.call14 rfl hkr1 hsr1 (fun w hT => ⟨hBs.stay hT (fun x hx => by cases hx), fun hn => apart_old hBs (by omega) hT (by simp) hn⟩) rfl (fun gr1 hkr1 hsr1 => ?_)
                          rw [← hvg1] at hsr1
                          refine K.GL.det (K.e_assign rfl) rfl ?_
                          refine K.GL.nil ?_
                          refine K.GQ.block_normal ?_
                          refine K.GQ.go ?_
                          refine K.GC.seq ?_
                          have hll : g1.v.list.length ≤ 4096 := Nat.le_trans g1.v.list_len hkg1.n2
                          refine K.GC.region ?_
                          refine K.GL.det (K.e_move rfl) rfl ?_
                          refine K.GL.det (K.e_move rfl) rfl ?_
                          refine K.GL.det ((K.e_ne rfl rfl).no (not_not_intro rfl)) rfl ?_
                          refine K.GL.det (K.e_move rfl) rfl ?_
                          first | refine K.GL.splitB 143 rfl (fun h8 => ?_) (fun h8 => ?_) | skip
                          all_goals first | exact absurd h8 (by decide) | replace h8 := of_decide_eq_true h8 | replace h8 := of_decide_eq_false h8 | skip
                          all_goals
                            first | (refine K.GL.want 143 rfl rfl rfl ?_; first | refine K.GL.det (K.e_move rfl) rfl ?_) | refine K.GL.skip 143 rfl rfl rfl rfl ?_ | refine K.GL.skipU 143 rfl rfl rfl rfl ?_
                            first
                              | refine K.GL.skip 143 rfl rfl rfl rfl ?_
                              | refine K.GL.skipU 143 rfl rfl rfl rfl ?_
                              | (refine K.GL.want 143 rfl rfl rfl ?_
                                 refine gl_loose Try.call25 rfl hkg1 rfl (fun a145 c145 => ?_))
                            first | (refine K.GL.want 143 rfl rfl rfl ?_; first | refine K.GL.det (K.e_move rfl) rfl ?_) | refine K.GL.skip 143 rfl rfl rfl rfl ?_ | refine K.GL.skipU 143 rfl rfl rfl rfl ?_
                            first
                              | refine K.GL.skip 143 rfl rfl rfl rfl ?_
                              | refine K.GL.skipU 143 rfl rfl rfl rfl ?_
                              | (refine K.GL.want 143 rfl rfl rfl ?_
                                 refine gl_rloose2 Try.call26 rfl hkr1 hsr1 rfl (fun a147 c147 => ?_))
                            first | (refine K.GL.want 143 rfl rfl rfl ?_; first | refine K.GL.det ((K.e_call1 Try.call24 rfl (fun w hT => same_con (a := a145) (b := a147) (l := g1.v.list) (k := g1.v.list) (hT.sl_row (k := 1) HasW.mem (by omega) (by simp [ints])) (hT.sl_row (k := 1) HasW.mem (by omega) (by simp [ints])) (by omega))).yes rfl) rfl ?_) | refine K.GL.skip 143 rfl rfl rfl rfl ?_ | refine K.GL.skipU 143 rfl rfl rfl rfl ?_
                            first | (refine K.GL.want 143 rfl rfl rfl ?_; first | refine K.GL.det ((K.e_not rfl).cast_bool (b := false) rfl) rfl ?_) | refine K.GL.skip 143 rfl rfl rfl rfl ?_ | refine K.GL.skipU 143 rfl rfl rfl rfl ?_
                            first | refine K.GL.det (K.e_pick_t rfl rfl) rfl ?_ | refine K.GL.det (K.e_pick_f rfl rfl) rfl ?_
                            refine K.GL.det (K.e_move rfl) rfl ?_
                            first | refine K.GL.splitB 151 rfl (fun h9 => ?_) (fun h9 => ?_) | skip
                            all_goals first | exact absurd h9 (by decide) | replace h9 := of_decide_eq_true h9 | replace h9 := of_decide_eq_false h9 | skip
                            all_goals
                              first | (refine K.GL.want 151 rfl rfl rfl ?_; first | refine K.GL.det (K.e_move rfl) rfl ?_) | refine K.GL.skip 151 rfl rfl rfl rfl ?_ | refine K.GL.skipU 151 rfl rfl rfl rfl ?_
                              first | (refine K.GL.want 151 rfl rfl rfl ?_; first | refine K.GL.det (K.e_call1 Try.call27 rfl (fun w hT => down_con (hT.ok _ Pick.mem))) rfl ?_) | refine K.GL.skip 151 rfl rfl rfl rfl ?_ | refine K.GL.skipU 151 rfl rfl rfl rfl ?_
                              first | (refine K.GL.want 151 rfl rfl rfl ?_; first | refine K.GL.det (K.e_move rfl) rfl ?_) | refine K.GL.skip 151 rfl rfl rfl rfl ?_ | refine K.GL.skipU 151 rfl rfl rfl rfl ?_
                              first | (refine K.GL.want 151 rfl rfl rfl ?_; first | refine K.GL.det ((K.e_call1 Try.call28 rfl (fun w hT => rdown_con (hT.ok _ PickR.mem))).cast_bool (b := g1.down) (congrArg DS.down hsr1)) rfl ?_) | refine K.GL.skip 151 rfl rfl rfl rfl ?_ | refine K.GL.skipU 151 rfl rfl rfl rfl ?_
                              first | (refine K.GL.want 151 rfl rfl rfl ?_; first | refine K.GL.det ((K.e_neb Try.underlying4 rfl rfl).cast_bool (b := false) (by cases g1.down <;> rfl)) rfl ?_) | refine K.GL.skip 151 rfl rfl rfl rfl ?_ | refine K.GL.skipU 151 rfl rfl rfl rfl ?_
                              first | refine K.GL.det (K.e_pick_t rfl rfl) rfl ?_ | refine K.GL.det (K.e_pick_f rfl rfl) rfl ?_
                              refine K.GL.det (K.e_move rfl) rfl ?_
                              first | refine K.GL.splitB 158 rfl (fun h10 => ?_) (fun h10 => ?_) | skip
                              all_goals first | exact absurd h10 (by decide) | replace h10 := of_decide_eq_true h10 | replace h10 := of_decide_eq_false h10 | skip
                              all_goals
                                first | (refine K.GL.want 158 rfl rfl rfl ?_; first | refine K.GL.det (K.e_move rfl) rfl ?_) | refine K.GL.skip 158 rfl rfl rfl rfl ?_ | refine K.GL.skipU 158 rfl rfl rfl rfl ?_
                                first | (refine K.GL.want 158 rfl rfl rfl ?_; first | refine K.GL.det (K.e_call1 Try.call29 rfl (fun w hT => done_con (hT.ok _ Pick.mem))) rfl ?_) | refine K.GL.skip 158 rfl rfl rfl rfl ?_ | refine K.GL.skipU 158 rfl rfl rfl rfl ?_
                                first | (refine K.GL.want 158 rfl rfl rfl ?_; first | refine K.GL.det (K.e_move rfl) rfl ?_) | refine K.GL.skip 158 rfl rfl rfl rfl ?_ | refine K.GL.skipU 158 rfl rfl rfl rfl ?_
                                first | (refine K.GL.want 158 rfl rfl rfl ?_; first | refine K.GL.det ((K.e_call1 Try.call30 rfl (fun w hT => rdone_con (hT.ok _ PickR.mem))).cast_int (b := g1.done) (congrArg DS.done hsr1)) rfl ?_) | refine K.GL.skip 158 rfl rfl rfl rfl ?_ | refine K.GL.skipU 158 rfl rfl rfl rfl ?_
                                first | (refine K.GL.want 158 rfl rfl rfl ?_; first | refine K.GL.det ((K.e_ne rfl rfl).no (not_not_intro rfl)) rfl ?_) | refine K.GL.skip 158 rfl rfl rfl rfl ?_ | refine K.GL.skipU 158 rfl rfl rfl rfl ?_
                                first | refine K.GL.det (K.e_pick_t rfl rfl) rfl ?_ | refine K.GL.det (K.e_pick_f rfl rfl) rfl ?_
                                refine K.GL.nil ?_
                                refine K.GQ.go ?_
                                refine K.GC.condB rfl (fun h11 => ?_) (fun h11 => ?_)
                                · first
                                  | exact absurd h11 (by decide)
                                  | try replace h11 := of_decide_eq_true h11
                                    refine K.GC.seq ?_
                                    refine K.GC.region ?_
                                    refine K.GL.det (K.e_assign rfl) rfl ?_
                                    refine K.GL.nil ?_
                                    refine K.GQ.go ?_
                                    refine K.GC.ret ?_
                                    refine K.GQ.block_ret ?_
                                    refine K.GQ.then_ret ?_
                                    refine K.GQ.then_ret ?_
                                    refine K.GQ.block_ret ?_
                                    refine K.GQ.then_ret ?_
                                    refine K.GQ.ret1 Try.results3 rfl (fun w hT => ?_)
                                    exact ⟨rfl, hT.nil⟩
                                · first
                                  | exact absurd h11 (by decide)
                                  | try replace h11 := of_decide_eq_false h11
                                    refine K.GC.skip ?_
                                    refine K.GQ.block_normal ?_
                                    refine K.GQ.go ?_
                                    refine K.GC.region ?_
                                    refine K.GL.det (K.e_move rfl) rfl ?_
                                    first | refine K.GL.det (K.e_add rfl rfl ⟨by omega, by omega⟩) rfl ?_ | refine K.GL.det (K.e_addw rfl rfl) rfl ?_
                                    refine K.GL.det (K.e_assign rfl) rfl ?_
                                    refine K.GL.nil ?_
                                    exact K.GQ.round (x + 1, g1, gr1) ⟨by simp only; omega, hkg1, hkr1, hsr1⟩ (by simp only; omega) (by (repeat refine ⟨rfl, ?_⟩); exact trivial) two_sub
                      · first
                        | exact absurd h7 (by decide)
                        | try replace h7 := of_decide_eq_false h7
                          refine K.GC.seq ?_
                          refine K.GC.region ?_
                          first | refine K.GL.det ((K.e_eq rfl rfl).yes (by omega)) rfl ?_ | refine K.GL.det ((K.e_eq rfl rfl).no (by omega)) rfl ?_ | refine K.GL.det (K.e_eq rfl rfl) rfl ?_
                          refine K.GL.det (K.e_assign rfl) rfl ?_
                          refine K.GL.nil ?_
                          refine K.GQ.go ?_
                          refine K.GC.condB rfl (fun h12 => ?_) (fun h12 => ?_)
                          · first
                            | exact absurd h12 (by decide)
                            | try replace h12 := of_decide_eq_true h12
                              refine K.GC.seq ?_
                              refine K.GC.region ?_
                              refine K.GL.det (K.e_move rfl) rfl ?_
                              refine gl_flush Try.call15 rfl hkg1 rfl (fun g1 hkg1 hvg1 => ?_)
                              refine K.GL.det (K.e_assign rfl) rfl ?_
                              refine K.GL.nil ?_
                              refine K.GQ.go ?_
                              refine K.GC.region ?_
                              refine K.GL.det (K.e_move rfl) rfl ?_
                              refine gl_rflush Try.call16 rfl hkr1 hsr1 rfl (fun gr1 hkr1 hsr1 => ?_)
                              rw [← hvg1] at hsr1
                              refine K.GL.det (K.e_assign rfl) rfl ?_
                              refine K.GL.nil ?_
                              refine K.GQ.block_normal ?_
                              refine K.GQ.go ?_
                              refine K.GC.seq ?_
                              have hll : g1.v.list.length ≤ 4096 := Nat.le_trans g1.v.list_len hkg1.n2
                              refine K.GC.region ?_
                              refine K.GL.det (K.e_move rfl) rfl ?_
                              refine K.GL.det (K.e_move rfl) rfl ?_
                              refine K.GL.det ((K.e_ne rfl rfl).no (not_not_intro rfl)) rfl ?_
                              refine K.GL.det (K.e_move rfl) rfl ?_
                              first | refine K.GL.splitB 143 rfl (fun h13 => ?_) (fun h13 => ?_) | skip
                              all_goals first | exact absurd h13 (by decide) | replace h13 := of_decide_eq_true h13 | replace h13 := of_decide_eq_false h13 | skip
                              all_goals
                                first | (refine K.GL.want 143 rfl rfl rfl ?_; first | refine K.GL.det (K.e_move rfl) rfl ?_) | refine K.GL.skip 143 rfl rfl rfl rfl ?_ | refine K.GL.skipU 143 rfl rfl rfl rfl ?_
                                first
                                  | refine K.GL.skip 143 rfl rfl rfl rfl ?_
                                  | refine K.GL.skipU 143 rfl rfl rfl rfl ?_
                                  | (refine K.GL.want 143 rfl rfl rfl ?_
                                     refine gl_loose Try.call25 rfl hkg1 rfl (fun a145 c145 => ?_))
                                first | (refine K.GL.want 143 rfl rfl rfl ?_; first | refine K.GL.det (K.e_move rfl) rfl ?_) | refine K.GL.skip 143 rfl rfl rfl rfl ?_ | refine K.GL.skipU 143 rfl rfl rfl rfl ?_
                                first
                                  | refine K.GL.skip 143 rfl rfl rfl rfl ?_
                                  | refine K.GL.skipU 143 rfl rfl rfl rfl ?_
                                  | (refine K.GL.want 143 rfl rfl rfl ?_
                                     refine gl_rloose2 Try.call26 rfl hkr1 hsr1 rfl (fun a147 c147 => ?_))
                                first | (refine K.GL.want 143 rfl rfl rfl ?_; first | refine K.GL.det ((K.e_call1 Try.call24 rfl (fun w hT => same_con (a := a145) (b := a147) (l := g1.v.list) (k := g1.v.list) (hT.sl_row (k := 1) HasW.mem (by omega) (by simp [ints])) (hT.sl_row (k := 1) HasW.mem (by omega) (by simp [ints])) (by omega))).yes rfl) rfl ?_) | refine K.GL.skip 143 rfl rfl rfl rfl ?_ | refine K.GL.skipU 143 rfl rfl rfl rfl ?_
                                first | (refine K.GL.want 143 rfl rfl rfl ?_; first | refine K.GL.det ((K.e_not rfl).cast_bool (b := false) rfl) rfl ?_) | refine K.GL.skip 143 rfl rfl rfl rfl ?_ | refine K.GL.skipU 143 rfl rfl rfl rfl ?_
                                first | refine K.GL.det (K.e_pick_t rfl rfl) rfl ?_ | refine K.GL.det (K.e_pick_f rfl rfl) rfl ?_
                                refine K.GL.det (K.e_move rfl) rfl ?_
                                first | refine K.GL.splitB 151 rfl (fun h14 => ?_) (fun h14 => ?_) | skip
                                all_goals first | exact absurd h14 (by decide) | replace h14 := of_decide_eq_true h14 | replace h14 := of_decide_eq_false h14 | skip
                                all_goals
                                  first | (refine K.GL.want 151 rfl rfl rfl ?_; first | refine K.GL.det (K.e_move rfl) rfl ?_) | refine K.GL.skip 151 rfl rfl rfl rfl ?_ | refine K.GL.skipU 151 rfl rfl rfl rfl ?_
                                  first | (refine K.GL.want 151 rfl rfl rfl ?_; first | refine K.GL.det (K.e_call1 Try.call27 rfl (fun w hT => down_con (hT.ok _ Pick.mem))) rfl ?_) | refine K.GL.skip 151 rfl rfl rfl rfl ?_ | refine K.GL.skipU 151 rfl rfl rfl rfl ?_
                                  first | (refine K.GL.want 151 rfl rfl rfl ?_; first | refine K.GL.det (K.e_move rfl) rfl ?_) | refine K.GL.skip 151 rfl rfl rfl rfl ?_ | refine K.GL.skipU 151 rfl rfl rfl rfl ?_
                                  first | (refine K.GL.want 151 rfl rfl rfl ?_; first | refine K.GL.det ((K.e_call1 Try.call28 rfl (fun w hT => rdown_con (hT.ok _ PickR.mem))).cast_bool (b := g1.down) (congrArg DS.down hsr1)) rfl ?_) | refine K.GL.skip 151 rfl rfl rfl rfl ?_ | refine K.GL.skipU 151 rfl rfl rfl rfl ?_
                                  first | (refine K.GL.want 151 rfl rfl rfl ?_; first | refine K.GL.det ((K.e_neb Try.underlying4 rfl rfl).cast_bool (b := false) (by cases g1.down <;> rfl)) rfl ?_) | refine K.GL.skip 151 rfl rfl rfl rfl ?_ | refine K.GL.skipU 151 rfl rfl rfl rfl ?_
                                  first | refine K.GL.det (K.e_pick_t rfl rfl) rfl ?_ | refine K.GL.det (K.e_pick_f rfl rfl) rfl ?_
                                  refine K.GL.det (K.e_move rfl) rfl ?_
                                  first | refine K.GL.splitB 158 rfl (fun h15 => ?_) (fun h15 => ?_) | skip
                                  all_goals first | exact absurd h15 (by decide) | replace h15 := of_decide_eq_true h15 | replace h15 := of_decide_eq_false h15 | skip
                                  all_goals
                                    first | (refine K.GL.want 158 rfl rfl rfl ?_; first | refine K.GL.det (K.e_move rfl) rfl ?_) | refine K.GL.skip 158 rfl rfl rfl rfl ?_ | refine K.GL.skipU 158 rfl rfl rfl rfl ?_
                                    first | (refine K.GL.want 158 rfl rfl rfl ?_; first | refine K.GL.det (K.e_call1 Try.call29 rfl (fun w hT => done_con (hT.ok _ Pick.mem))) rfl ?_) | refine K.GL.skip 158 rfl rfl rfl rfl ?_ | refine K.GL.skipU 158 rfl rfl rfl rfl ?_
                                    first | (refine K.GL.want 158 rfl rfl rfl ?_; first | refine K.GL.det (K.e_move rfl) rfl ?_) | refine K.GL.skip 158 rfl rfl rfl rfl ?_ | refine K.GL.skipU 158 rfl rfl rfl rfl ?_
                                    first | (refine K.GL.want 158 rfl rfl rfl ?_; first | refine K.GL.det ((K.e_call1 Try.call30 rfl (fun w hT => rdone_con (hT.ok _ PickR.mem))).cast_int (b := g1.done) (congrArg DS.done hsr1)) rfl ?_) | refine K.GL.skip 158 rfl rfl rfl rfl ?_ | refine K.GL.skipU 158 rfl rfl rfl rfl ?_
                                    first | (refine K.GL.want 158 rfl rfl rfl ?_; first | refine K.GL.det ((K.e_ne rfl rfl).no (not_not_intro rfl)) rfl ?_) | refine K.GL.skip 158 rfl rfl rfl rfl ?_ | refine K.GL.skipU 158 rfl rfl rfl rfl ?_
                                    first | refine K.GL.det (K.e_pick_t rfl rfl) rfl ?_ | refine K.GL.det (K.e_pick_f rfl rfl) rfl ?_
                                    refine K.GL.nil ?_
                                    refine K.GQ.go ?_
                                    refine K.GC.condB rfl (fun h16 => ?_) (fun h16 => ?_)
                                    · first
                                      | exact absurd h16 (by decide)
                                      | try replace h16 := of_decide_eq_true h16
                                        refine K.GC.seq ?_
                                        refine K.GC.region ?_
                                        refine K.GL.det (K.e_assign rfl) rfl ?_
                                        refine K.GL.nil ?_
                                        refine K.GQ.go ?_
                                        refine K.GC.ret ?_
                                        refine K.GQ.block_ret ?_
                                        refine K.GQ.then_ret ?_
                                        refine K.GQ.then_ret ?_
                                        refine K.GQ.block_ret ?_
                                        refine K.GQ.then_ret ?_
                                        refine K.GQ.ret1 Try.results3 rfl (fun w hT => ?_)
                                        exact ⟨rfl, hT.nil⟩
                                    · first
                                      | exact absurd h16 (by decide)
                                      | try replace h16 := of_decide_eq_false h16
                                        refine K.GC.skip ?_
                                        refine K.GQ.block_normal ?_
                                        refine K.GQ.go ?_
                                        refine K.GC.region ?_
                                        refine K.GL.det (K.e_move rfl) rfl ?_
                                        first | refine K.GL.det (K.e_add rfl rfl ⟨by omega, by omega⟩) rfl ?_ | refine K.GL.det (K.e_addw rfl rfl) rfl ?_
                                        refine K.GL.det (K.e_assign rfl) rfl ?_
                                        refine K.GL.nil ?_
                                        exact K.GQ.round (x + 1, g1, gr1) ⟨by simp only; omega, hkg1, hkr1, hsr1⟩ (by simp only; omega) (by (repeat refine ⟨rfl, ?_⟩); exact trivial) two_sub
                          · first
                            | exact absurd h12 (by decide)
                            | try replace h12 := of_decide_eq_false h12
                              refine K.GC.seq ?_
                              refine K.GC.region ?_
                              first | refine K.GL.det ((K.e_eq rfl rfl).yes (by omega)) rfl ?_ | refine K.GL.det ((K.e_eq rfl rfl).no (by omega)) rfl ?_ | refine K.GL.det (K.e_eq rfl rfl) rfl ?_
                              refine K.GL.det (K.e_assign rfl) rfl ?_
                              refine K.GL.nil ?_
                              refine K.GQ.go ?_
                              refine K.GC.condB rfl (fun h17 => ?_) (fun h17 => ?_)
                              · first
                                | exact absurd h17 (by decide)
                                | try replace h17 := of_decide_eq_true h17
                                  refine K.GC.seq ?_
                                  refine K.GC.region ?_
                                  refine K.GL.det (K.e_move rfl) rfl ?_
                                  refine K.GL.det (K.e_fieldAddr fo33_1 rfl) rfl ?_
                                  first | refine K.GL.det (K.e_load Try.isAgg3 rfl rfl) rfl ?_ | refine K.GL.det (K.e_load0 Try.isAgg3 rfl (by assumption)) rfl ?_
                                  refine gl_read (i := q.at_) Try.call17 rfl hkg1 rfl (fun a99 c99 => ?_)
                                  refine K.GL.det (K.e_move rfl) rfl ?_
                                  refine K.GL.det (K.e_extract rfl rfl) rfl ?_
                                  refine K.GL.det (K.e_extract rfl rfl) rfl ?_
                                  refine K.GL.det (K.e_assign rfl) rfl ?_
                                  refine K.GL.det (K.e_assign rfl) rfl ?_
                                  refine K.GL.nil ?_
                                  refine K.GQ.go ?_
                                  refine K.GC.seq ?_
                                  refine K.GC.region ?_
                                  refine K.GL.det (K.e_move rfl) rfl ?_
                                  refine K.GL.det (K.e_fieldAddr fo33_1 rfl) rfl ?_
                                  first | refine K.GL.det (K.e_load Try.isAgg3 rfl rfl) rfl ?_ | refine K.GL.det (K.e_load0 Try.isAgg3 rfl (by assumption)) rfl ?_
                                  refine gl_rread (i := q.at_) Try.call18 rfl hkr1 hsr1 rfl (fun a106 c106 => ?_)
                                  refine K.GL.det (K.e_move rfl) rfl ?_
                                  refine K.GL.det (K.e_extract rfl rfl) rfl ?_
                                  refine K.GL.det (K.e_extract rfl rfl) rfl ?_
                                  refine K.GL.det (K.e_assign rfl) rfl ?_
                                  refine K.GL.det (K.e_assign rfl) rfl ?_
                                  refine K.GL.nil ?_
                                  refine K.GQ.go ?_
                                  refine K.GC.seq ?_
                                  refine K.GC.region ?_
                                  refine K.GL.det (K.e_move rfl) rfl ?_
                                  refine K.GL.det (K.e_assign rfl) rfl ?_
                                  refine K.GL.nil ?_
                                  refine K.GQ.go ?_
                                  refine K.GC.seq ?_
                                  refine K.GC.region ?_
                                  refine K.GL.det (K.e_move rfl) rfl ?_
                                  refine K.GL.det (K.e_assign rfl) rfl ?_
                                  refine K.GL.nil ?_
                                  refine K.GQ.go ?_
                                  refine K.GC.seq ?_
                                  refine K.GC.region ?_
                                  refine K.GL.det (K.e_move rfl) rfl ?_
                                  refine K.GL.det (K.e_b2sw Try.underlying29 Try.underlying5 Try.underlying9 rfl (fun w hT => hT.sl_row HasW.mem (by omega) (by rw [bv_length, Nat.mul_one]))) rfl ?_
                                  refine K.GL.det (K.e_move rfl) rfl ?_
                                  refine K.GL.det (K.e_b2sw Try.underlying29 Try.underlying5 Try.underlying9 rfl (fun w hT => hT.sl_rdr HasD.mem (by rw [bv_length]))) rfl ?_
                                  refine K.GL.det ((K.e_nes Try.underlying9 rfl rfl).no (not_not_intro rfl)) rfl ?_
                                  refine K.GL.nil ?_
                                  refine K.GQ.go ?_
                                  refine K.GC.condB rfl (fun h18 => ?_) (fun h18 => ?_)
                                  · first
                                    | exact absurd h18 (by decide)
                                    | try replace h18 := of_decide_eq_true h18
                                      refine K.GC.seq ?_
                                      refine K.GC.region ?_
                                      refine K.GL.det (K.e_assign rfl) rfl ?_
                                      refine K.GL.nil ?_
                                      refine K.GQ.go ?_
                                      refine K.GC.ret ?_
                                      refine K.GQ.block_ret ?_
                                      refine K.GQ.then_ret ?_
                                      refine K.GQ.block_ret ?_
                                      refine K.GQ.then_ret ?_
                                      refine K.GQ.then_ret ?_
                                      refine K.GQ.block_ret ?_
                                      refine K.GQ.then_ret ?_
                                      refine K.GQ.ret1 Try.results3 rfl (fun w hT => ?_)
                                      exact ⟨rfl, hT.nil⟩
                                  · first
                                    | exact absurd h18 (by decide)
                                    | try replace h18 := of_decide_eq_false h18
                                      refine K.GC.skip ?_
                                      refine K.GQ.block_normal ?_
                                      refine K.GQ.go ?_
                                      refine K.GC.seq ?_
                                      have hll : g1.v.list.length ≤ 4096 := Nat.le_trans g1.v.list_len hkg1.n2
                                      refine K.GC.region ?_
                                      refine K.GL.det (K.e_move rfl) rfl ?_
                                      refine K.GL.det (K.e_move rfl) rfl ?_
                                      refine K.GL.det ((K.e_ne rfl rfl).no (not_not_intro rfl)) rfl ?_
                                      refine K.GL.det (K.e_move rfl) rfl ?_
                                      first | refine K.GL.splitB 143 rfl (fun h19 => ?_) (fun h19 => ?_) | skip
                                      all_goals first | exact absurd h19 (by decide) | replace h19 := of_decide_eq_true h19 | replace h19 := of_decide_eq_false h19 | skip
                                      all_goals
                                        first | (refine K.GL.want 143 rfl rfl rfl ?_; first | refine K.GL.det (K.e_move rfl) rfl ?_) | refine K.GL.skip 143 rfl rfl rfl rfl ?_ | refine K.GL.skipU 143 rfl rfl rfl rfl ?_
                                        first
                                          | refine K.GL.skip 143 rfl rfl rfl rfl ?_
                                          | refine K.GL.skipU 143 rfl rfl rfl rfl ?_
                                          | (refine K.GL.want 143 rfl rfl rfl ?_
                                             refine gl_loose Try.call25 rfl hkg1 rfl (fun a145 c145 => ?_))
                                        first | (refine K.GL.want 143 rfl rfl rfl ?_; first | refine K.GL.det (K.e_move rfl) rfl ?_) | refine K.GL.skip 143 rfl rfl rfl rfl ?_ | refine K.GL.skipU 143 rfl rfl rfl rfl ?_
                                        first
                                          | refine K.GL.skip 143 rfl rfl rfl rfl ?_
                                          | refine K.GL.skipU 143 rfl rfl rfl rfl ?_
                                          | (refine K.GL.want 143 rfl rfl rfl ?_
                                             refine gl_rloose2 Try.call26 rfl hkr1 hsr1 rfl (fun a147 c147 => ?_))
                                        first | (refine K.GL.want 143 rfl rfl rfl ?_; first | refine K.GL.det ((K.e_call1 Try.call24 rfl (fun w hT => same_con (a := a145) (b := a147) (l := g1.v.list) (k := g1.v.list) (hT.sl_row (k := 1) HasW.mem (by omega) (by simp [ints])) (hT.sl_row (k := 1) HasW.mem (by omega) (by simp [ints])) (by omega))).yes rfl) rfl ?_) | refine K.GL.skip 143 rfl rfl rfl rfl ?_ | refine K.GL.skipU 143 rfl rfl rfl rfl ?_
                                        first | (refine K.GL.want 143 rfl rfl rfl ?_; first | refine K.GL.det ((K.e_not rfl).cast_bool (b := false) rfl) rfl ?_) | refine K.GL.skip 143 rfl rfl rfl rfl ?_ | refine K.GL.skipU 143 rfl rfl rfl rfl ?_
                                        first | refine K.GL.det (K.e_pick_t rfl rfl) rfl ?_ | refine K.GL.det (K.e_pick_f rfl rfl) rfl ?_
                                        refine K.GL.det (K.e_move rfl) rfl ?_
                                        first | refine K.GL.splitB 151 rfl (fun h20 => ?_) (fun h20 => ?_) | skip
                                        all_goals first | exact absurd h20 (by decide) | replace h20 := of_decide_eq_true h20 | replace h20 := of_decide_eq_false h20 | skip
                                        all_goals
                                          first | (refine K.GL.want 151 rfl rfl rfl ?_; first | refine K.GL.det (K.e_move rfl) rfl ?_) | refine K.GL.skip 151 rfl rfl rfl rfl ?_ | refine K.GL.skipU 151 rfl rfl rfl rfl ?_
                                          first | (refine K.GL.want 151 rfl rfl rfl ?_; first | refine K.GL.det (K.e_call1 Try.call27 rfl (fun w hT => down_con (hT.ok _ Pick.mem))) rfl ?_) | refine K.GL.skip 151 rfl rfl rfl rfl ?_ | refine K.GL.skipU 151 rfl rfl rfl rfl ?_
                                          first | (refine K.GL.want 151 rfl rfl rfl ?_; first | refine K.GL.det (K.e_move rfl) rfl ?_) | refine K.GL.skip 151 rfl rfl rfl rfl ?_ | refine K.GL.skipU 151 rfl rfl rfl rfl ?_
                                          first | (refine K.GL.want 151 rfl rfl rfl ?_; first | refine K.GL.det ((K.e_call1 Try.call28 rfl (fun w hT => rdown_con (hT.ok _ PickR.mem))).cast_bool (b := g1.down) (congrArg DS.down hsr1)) rfl ?_) | refine K.GL.skip 151 rfl rfl rfl rfl ?_ | refine K.GL.skipU 151 rfl rfl rfl rfl ?_
                                          first | (refine K.GL.want 151 rfl rfl rfl ?_; first | refine K.GL.det ((K.e_neb Try.underlying4 rfl rfl).cast_bool (b := false) (by cases g1.down <;> rfl)) rfl ?_) | refine K.GL.skip 151 rfl rfl rfl rfl ?_ | refine K.GL.skipU 151 rfl rfl rfl rfl ?_
                                          first | refine K.GL.det (K.e_pick_t rfl rfl) rfl ?_ | refine K.GL.det (K.e_pick_f rfl rfl) rfl ?_
                                          refine K.GL.det (K.e_move rfl) rfl ?_
                                          first | refine K.GL.splitB 158 rfl (fun h21 => ?_) (fun h21 => ?_) | skip
                                          all_goals first | exact absurd h21 (by decide) | replace h21 := of_decide_eq_true h21 | replace h21 := of_decide_eq_false h21 | skip
                                          all_goals
                                            first | (refine K.GL.want 158 rfl rfl rfl ?_; first | refine K.GL.det (K.e_move rfl) rfl ?_) | refine K.GL.skip 158 rfl rfl rfl rfl ?_ | refine K.GL.skipU 158 rfl rfl rfl rfl ?_
                                            first | (refine K.GL.want 158 rfl rfl rfl ?_; first | refine K.GL.det (K.e_call1 Try.call29 rfl (fun w hT => done_con (hT.ok _ Pick.mem))) rfl ?_) | refine K.GL.skip 158 rfl rfl rfl rfl ?_ | refine K.GL.skipU 158 rfl rfl rfl rfl ?_
                                            first | (refine K.GL.want 158 rfl rfl rfl ?_; first | refine K.GL.det (K.e_move rfl) rfl ?_) | refine K.GL.skip 158 rfl rfl rfl rfl ?_ | refine K.GL.skipU 158 rfl rfl rfl rfl ?_
                                            first | (refine K.GL.want 158 rfl rfl rfl ?_; first | refine K.GL.det ((K.e_call1 Try.call30 rfl (fun w hT => rdone_con (hT.ok _ PickR.mem))).cast_int (b := g1.done) (congrArg DS.done hsr1)) rfl ?_) | refine K.GL.skip 158 rfl rfl rfl rfl ?_ | refine K.GL.skipU 158 rfl rfl rfl rfl ?_
                                            first | (refine K.GL.want 158 rfl rfl rfl ?_; first | refine K.GL.det ((K.e_ne rfl rfl).no (not_not_intro rfl)) rfl ?_) | refine K.GL.skip 158 rfl rfl rfl rfl ?_ | refine K.GL.skipU 158 rfl rfl rfl rfl ?_
                                            first | refine K.GL.det (K.e_pick_t rfl rfl) rfl ?_ | refine K.GL.det (K.e_pick_f rfl rfl) rfl ?_
                                            refine K.GL.nil ?_
                                            refine K.GQ.go ?_
                                            refine K.GC.condB rfl (fun h22 => ?_) (fun h22 => ?_)
                                            · first
                                              | exact absurd h22 (by decide)
                                              | try replace h22 := of_decide_eq_true h22
                                                refine K.GC.seq ?_
                                                refine K.GC.region ?_
                                                refine K.GL.det (K.e_assign rfl) rfl ?_
                                                refine K.GL.nil ?_
                                                refine K.GQ.go ?_
                                                refine K.GC.ret ?_
                                                refine K.GQ.block_ret ?_
                                                refine K.GQ.then_ret ?_
                                                refine K.GQ.then_ret ?_
                                                refine K.GQ.block_ret ?_
                                                refine K.GQ.then_ret ?_
                                                refine K.GQ.ret1 Try.results3 rfl (fun w hT => ?_)
                                                exact ⟨rfl, hT.nil⟩
                                            · first
                                              | exact absurd h22 (by decide)
                                              | try replace h22 := of_decide_eq_false h22
                                                refine K.GC.skip ?_
                                                refine K.GQ.block_normal ?_
                                                refine K.GQ.go ?_
                                                refine K.GC.region ?_
                                                refine K.GL.det (K.e_move rfl) rfl ?_
                                                first | refine K.GL.det (K.e_add rfl rfl ⟨by omega, by omega⟩) rfl ?_ | refine K.GL.det (K.e_addw rfl rfl) rfl ?_
                                                refine K.GL.det (K.e_assign rfl) rfl ?_
                                                refine K.GL.nil ?_
                                                exact K.GQ.round (x + 1, g1, gr1) ⟨by simp only; omega, hkg1, hkr1, hsr1⟩ (by simp only; omega) (by (repeat refine ⟨rfl, ?_⟩); exact trivial) two_sub
                              · first
                                | exact absurd h17 (by decide)
                                | try replace h17 := of_decide_eq_false h17
                                  refine K.GC.seq ?_
                                  refine K.GC.region ?_
                                  first | refine K.GL.det ((K.e_eq rfl rfl).yes (by omega)) rfl ?_ | refine K.GL.det ((K.e_eq rfl rfl).no (by omega)) rfl ?_ | refine K.GL.det (K.e_eq rfl rfl) rfl ?_
                                  refine K.GL.det (K.e_assign rfl) rfl ?_
                                  refine K.GL.nil ?_
                                  refine K.GQ.go ?_
                                  refine K.GC.condB rfl (fun h23 => ?_) (fun h23 => ?_)
                                  · first
                                    | exact absurd h23 (by decide)
                                    | try replace h23 := of_decide_eq_true h23
                                      refine K.GC.seq ?_
                                      refine K.GC.region ?_
                                      refine K.GL.det (K.e_move rfl) rfl ?_
                                      refine K.GL.det (K.e_fieldAddr fo33_1 rfl) rfl ?_
                                      first | refine K.GL.det (K.e_load Try.isAgg3 rfl rfl) rfl ?_ | refine K.GL.det (K.e_load0 Try.isAgg3 rfl (by assumption)) rfl ?_
                                      refine gl_cut (i := q.at_) Try.call19 rfl hkg1 hi2 rfl (fun g1 hkg1 hvg1 u121 => ?_)
                                      refine K.GL.nil ?_
                                      refine K.GQ.go ?_
                                      refine K.GC.region ?_
                                      refine K.GL.det (K.e_move rfl) rfl ?_
                                      refine K.GL.det (K.e_fieldAddr fo33_1 rfl) rfl ?_
                                      first | refine K.GL.det (K.e_load Try.isAgg3 rfl rfl) rfl ?_ | refine K.GL.det (K.e_load0 Try.isAgg3 rfl (by assumption)) rfl ?_
                                      refine gl_rcut (i := q.at_) Try.call20 rfl hkr1 hsr1 hi2 rfl (fun gr1 hkr1 hsr1 u125 => ?_)
                                      rw [← hvg1] at hsr1
                                      refine K.GL.nil ?_
                                      refine K.GQ.block_normal ?_
                                      refine K.GQ.go ?_
                                      refine K.GC.seq ?_
                                      have hll : g1.v.list.length ≤ 4096 := Nat.le_trans g1.v.list_len hkg1.n2
                                      refine K.GC.region ?_
                                      refine K.GL.det (K.e_move rfl) rfl ?_
                                      refine K.GL.det (K.e_move rfl) rfl ?_
                                      refine K.GL.det ((K.e_ne rfl rfl).no (not_not_intro rfl)) rfl ?_
                                      refine K.GL.det (K.e_move rfl) rfl ?_
                                      first | refine K.GL.splitB 143 rfl (fun h24 => ?_) (fun h24 => ?_) | skip
                                      all_goals first | exact absurd h24 (by decide) | replace h24 := of_decide_eq_true h24 | replace h24 := of_decide_eq_false h24 | skip
                                      all_goals
                                        first | (refine K.GL.want 143 rfl rfl rfl ?_; first | refine K.GL.det (K.e_move rfl) rfl ?_) | refine K.GL.skip 143 rfl rfl rfl rfl ?_ | refine K.GL.skipU 143 rfl rfl rfl rfl ?_
                                        first
                                          | refine K.GL.skip 143 rfl rfl rfl rfl ?_
                                          | refine K.GL.skipU 143 rfl rfl rfl rfl ?_
                                          | (refine K.GL.want 143 rfl rfl rfl ?_
                                             refine gl_loose Try.call25 rfl hkg1 rfl (fun a145 c145 => ?_))
                                        first | (refine K.GL.want 143 rfl rfl rfl ?_; first | refine K.GL.det (K.e_move rfl) rfl ?_) | refine K.GL.skip 143 rfl rfl rfl rfl ?_ | refine K.GL.skipU 143 rfl rfl rfl rfl ?_
                                        first
                                          | refine K.GL.skip 143 rfl rfl rfl rfl ?_
                                          | refine K.GL.skipU 143 rfl rfl rfl rfl ?_
                                          | (refine K.GL.want 143 rfl rfl rfl ?_
                                             refine gl_rloose2 Try.call26 rfl hkr1 hsr1 rfl (fun a147 c147 => ?_))
                                        first | (refine K.GL.want 143 rfl rfl rfl ?_; first | refine K.GL.det ((K.e_call1 Try.call24 rfl (fun w hT => same_con (a := a145) (b := a147) (l := g1.v.list) (k := g1.v.list) (hT.sl_row (k := 1) HasW.mem (by omega) (by simp [ints])) (hT.sl_row (k := 1) HasW.mem (by omega) (by simp [ints])) (by omega))).yes rfl) rfl ?_) | refine K.GL.skip 143 rfl rfl rfl rfl ?_ | refine K.GL.skipU 143 rfl rfl rfl rfl ?_
                                        first | (refine K.GL.want 143 rfl rfl rfl ?_; first | refine K.GL.det ((K.e_not rfl).cast_bool (b := false) rfl) rfl ?_) | refine K.GL.skip 143 rfl rfl rfl rfl ?_ | refine K.GL.skipU 143 rfl rfl rfl rfl ?_
                                        first | refine K.GL.det (K.e_pick_t rfl rfl) rfl ?_ | refine K.GL.det (K.e_pick_f rfl rfl) rfl ?_
                                        refine K.GL.det (K.e_move rfl) rfl ?_
                                        first | refine K.GL.splitB 151 rfl (fun h25 => ?_) (fun h25 => ?_) | skip
                                        all_goals first | exact absurd h25 (by decide) | replace h25 := of_decide_eq_true h25 | replace h25 := of_decide_eq_false h25 | skip
                                        all_goals
                                          first | (refine K.GL.want 151 rfl rfl rfl ?_; first | refine K.GL.det (K.e_move rfl) rfl ?_) | refine K.GL.skip 151 rfl rfl rfl rfl ?_ | refine K.GL.skipU 151 rfl rfl rfl rfl ?_
                                          first | (refine K.GL.want 151 rfl rfl rfl ?_; first | refine K.GL.det (K.e_call1 Try.call27 rfl (fun w hT => down_con (hT.ok _ Pick.mem))) rfl ?_) | refine K.GL.skip 151 rfl rfl rfl rfl ?_ | refine K.GL.skipU 151 rfl rfl rfl rfl ?_
                                          first | (refine K.GL.want 151 rfl rfl rfl ?_; first | refine K.GL.det (K.e_move rfl) rfl ?_) | refine K.GL.skip 151 rfl rfl rfl rfl ?_ | refine K.GL.skipU 151 rfl rfl rfl rfl ?_
                                          first | (refine K.GL.want 151 rfl rfl rfl ?_; first | refine K.GL.det ((K.e_call1 Try.call28 rfl (fun w hT => rdown_con (hT.ok _ PickR.mem))).cast_bool (b := g1.down) (congrArg DS.down hsr1)) rfl ?_) | refine K.GL.skip 151 rfl rfl rfl rfl ?_ | refine K.GL.skipU 151 rfl rfl rfl rfl ?_
                                          first | (refine K.GL.want 151 rfl rfl rfl ?_; first | refine K.GL.det ((K.e_neb Try.underlying4 rfl rfl).cast_bool (b := false) (by cases g1.down <;> rfl)) rfl ?_) | refine K.GL.skip 151 rfl rfl rfl rfl ?_ | refine K.GL.skipU 151 rfl rfl rfl rfl ?_
                                          first | refine K.GL.det (K.e_pick_t rfl rfl) rfl ?_ | refine K.GL.det (K.e_pick_f rfl rfl) rfl ?_
                                          refine K.GL.det (K.e_move rfl) rfl ?_
                                          first | refine K.GL.splitB 158 rfl (fun h26 => ?_) (fun h26 => ?_) | skip
                                          all_goals first | exact absurd h26 (by decide) | replace h26 := of_decide_eq_true h26 | replace h26 := of_decide_eq_false h26 | skip
                                          all_goals
                                            first | (refine K.GL.want 158 rfl rfl rfl ?_; first | refine K.GL.det (K.e_move rfl) rfl ?_) | refine K.GL.skip 158 rfl rfl rfl rfl ?_ | refine K.GL.skipU 158 rfl rfl rfl rfl ?_
                                            first | (refine K.GL.want 158 rfl rfl rfl ?_; first | refine K.GL.det (K.e_call1 Try.call29 rfl (fun w hT => done_con (hT.ok _ Pick.mem))) rfl ?_) | refine K.GL.skip 158 rfl rfl rfl rfl ?_ | refine K.GL.skipU 158 rfl rfl rfl rfl ?_
                                            first | (refine K.GL.want 158 rfl rfl rfl ?_; first | refine K.GL.det (K.e_move rfl) rfl ?_) | refine K.GL.skip 158 rfl rfl rfl rfl ?_ | refine K.GL.skipU 158 rfl rfl rfl rfl ?_
                                            first | (refine K.GL.want 158 rfl rfl rfl ?_; first | refine K.GL.det ((K.e_call1 Try.call30 rfl (fun w hT => rdone_con (hT.ok _ PickR.mem))).cast_int (b := g1.done) (congrArg DS.done hsr1)) rfl ?_) | refine K.GL.skip 158 rfl rfl rfl rfl ?_ | refine K.GL.skipU 158 rfl rfl rfl rfl ?_
                                            first | (refine K.GL.want 158 rfl rfl rfl ?_; first | refine K.GL.det ((K.e_ne rfl rfl).no (not_not_intro rfl)) rfl ?_) | refine K.GL.skip 158 rfl rfl rfl rfl ?_ | refine K.GL.skipU 158 rfl rfl rfl rfl ?_
                                            first | refine K.GL.det (K.e_pick_t rfl rfl) rfl ?_ | refine K.GL.det (K.e_pick_f rfl rfl) rfl ?_
                                            refine K.GL.nil ?_
                                            refine K.GQ.go ?_
                                            refine K.GC.condB rfl (fun h27 => ?_) (fun h27 => ?_)
                                            · first
                                              | exact absurd h27 (by decide)
                                              | try replace h27 := of_decide_eq_true h27
                                                refine K.GC.seq ?_
                                                refine K.GC.region ?_
                                                refine K.GL.det (K.e_assign rfl) rfl ?_
                                                refine K.GL.nil ?_
                                                refine K.GQ.go ?_
                                                refine K.GC.ret ?_
                                                refine K.GQ.block_ret ?_
                                                refine K.GQ.then_ret ?_
                                                refine K.GQ.then_ret ?_
                                                refine K.GQ.block_ret ?_
                                                refine K.GQ.then_ret ?_
                                                refine K.GQ.ret1 Try.results3 rfl (fun w hT => ?_)
                                                exact ⟨rfl, hT.nil⟩
                                            · first
                                              | exact absurd h27 (by decide)
                                              | try replace h27 := of_decide_eq_false h27
                                                refine K.GC.skip ?_
                                                refine K.GQ.block_normal ?_
                                                refine K.GQ.go ?_
                                                refine K.GC.region ?_
                                                refine K.GL.det (K.e_move rfl) rfl ?_
                                                first | refine K.GL.det (K.e_add rfl rfl ⟨by omega, by omega⟩) rfl ?_ | refine K.GL.det (K.e_addw rfl rfl) rfl ?_
                                                refine K.GL.det (K.e_assign rfl) rfl ?_
                                                refine K.GL.nil ?_
                                                exact K.GQ.round (x + 1, g1, gr1) ⟨by simp only; omega, hkg1, hkr1, hsr1⟩ (by simp only; omega) (by (repeat refine ⟨rfl, ?_⟩); exact trivial) two_sub
                                  · first
                                    | exact absurd h23 (by decide)
                                    | try replace h23 := of_decide_eq_false h23
                                      refine K.GC.seq ?_
                                      refine K.GC.region ?_
                                      first | refine K.GL.det ((K.e_eq rfl rfl).yes (by omega)) rfl ?_ | refine K.GL.det ((K.e_eq rfl rfl).no (by omega)) rfl ?_ | refine K.GL.det (K.e_eq rfl rfl) rfl ?_
                                      refine K.GL.det (K.e_assign rfl) rfl ?_
                                      refine K.GL.nil ?_
                                      refine K.GQ.go ?_
                                      refine K.GC.condB rfl (fun h28 => ?_) (fun h28 => ?_)
                                      · first
                                        | exact absurd h28 (by decide)
                                        | try replace h28 := of_decide_eq_true h28
                                          refine K.GC.seq ?_
                                          refine K.GC.region ?_
                                          refine K.GL.det (K.e_move rfl) rfl ?_
                                          refine K.GL.det (K.e_fieldAddr fo33_4 rfl) rfl ?_
                                          first | refine K.GL.det (K.e_load Try.isAgg30 rfl rfl) rfl ?_ | refine K.GL.det (K.e_load0 Try.isAgg30 rfl (by assumption)) rfl ?_
                                          refine K.GL.det (K.e_fieldAddr fo33_5 rfl) rfl ?_
                                          first | refine K.GL.det (K.e_load Try.isAgg31 rfl rfl) rfl ?_ | refine K.GL.det (K.e_load0 Try.isAgg31 rfl (by assumption)) rfl ?_
                                          refine gl_boot (ks := ks) (hs := hs) Try.call21 rfl hkg1 (fun w hT => ⟨⟨hKs.stay hT (fun x hx => by cases hx), fun hn => apart_old hKs (by omega) hT (by simp) hn⟩, ⟨hHs.stay hT (fun x hx => by cases hx), fun hn => apart_old hHs (by omega) hT (by simp) hn⟩⟩) hbits hhn rfl (fun g1 hkg1 hvg1 u133 => ?_)
                                          refine K.GL.nil ?_
                                          refine K.GQ.go ?_
                                          refine K.GC.region ?_
                                          refine K.GL.det (K.e_move rfl) rfl ?_
                                          refine K.GL.det (K.e_fieldAddr fo33_4 rfl) rfl ?_
                                          first | refine K.GL.det (K.e_load Try.isAgg30 rfl rfl) rfl ?_ | refine K.GL.det (K.e_load0 Try.isAgg30 rfl (by assumption)) rfl ?_
                                          refine K.GL.det (K.e_fieldAddr fo33_5 rfl) rfl ?_
                                          first | refine K.GL.det (K.e_load Try.isAgg31 rfl rfl) rfl ?_ | refine K.GL.det (K.e_load0 Try.isAgg31 rfl (by assumption)) rfl ?_
                                          refine gl_rboot (ks := ks) (hs := hs) Try.call22 rfl hkr1 hsr1 (fun w hT => ⟨⟨hKs.stay hT (fun x hx => by cases hx), fun hn => apart_old hKs (by omega) hT (by simp) hn⟩, ⟨hHs.stay hT (fun x hx => by cases hx), fun hn => apart_old hHs (by omega) hT (by simp) hn⟩⟩) hbits hhn rfl (fun gr1 hkr1 hsr1 u139 => ?_)
                                          rw [← hvg1] at hsr1
                                          refine K.GL.nil ?_
                                          refine K.GQ.block_normal ?_
                                          refine K.GQ.go ?_
                                          refine K.GC.seq ?_
                                          have hll : g1.v.list.length ≤ 4096 := Nat.le_trans g1.v.list_len hkg1.n2
                                          refine K.GC.region ?_
                                          refine K.GL.det (K.e_move rfl) rfl ?_
                                          refine K.GL.det (K.e_move rfl) rfl ?_
                                          refine K.GL.det ((K.e_ne rfl rfl).no (not_not_intro rfl)) rfl ?_
                                          refine K.GL.det (K.e_move rfl) rfl ?_
                                          first | refine K.GL.splitB 143 rfl (fun h29 => ?_) (fun h29 => ?_) | skip
                                          all_goals first | exact absurd h29 (by decide) | replace h29 := of_decide_eq_true h29 | replace h29 := of_decide_eq_false h29 | skip
                                          all_goals
                                            first | (refine K.GL.want 143 rfl rfl rfl ?_; first | refine K.GL.det (K.e_move rfl) rfl ?_) | refine K.GL.skip 143 rfl rfl rfl rfl ?_ | refine K.GL.skipU 143 rfl rfl rfl rfl ?_
                                            first
                                              | refine K.GL.skip 143 rfl rfl rfl rfl ?_
                                              | refine K.GL.skipU 143 rfl rfl rfl rfl ?_
                                              | (refine K.GL.want 143 rfl rfl rfl ?_
                                                 refine gl_loose Try.call25 rfl hkg1 rfl (fun a145 c145 => ?_))
                                            first | (refine K.GL.want 143 rfl rfl rfl ?_; first | refine K.GL.det (K.e_move rfl) rfl ?_) | refine K.GL.skip 143 rfl rfl rfl rfl ?_ | refine K.GL.skipU 143 rfl rfl rfl rfl ?_
                                            first
                                              | refine K.GL.skip 143 rfl rfl rfl rfl ?_
                                              | refine K.GL.skipU 143 rfl rfl rfl rfl ?_
                                              | (refine K.GL.want 143 rfl rfl rfl ?_
                                                 refine gl_rloose2 Try.call26 rfl hkr1 hsr1 rfl (fun a147 c147 => ?_))
                                            first | (refine K.GL.want 143 rfl rfl rfl ?_; first | refine K.GL.det ((K.e_call1 Try.call24 rfl (fun w hT => same_con (a := a145) (b := a147) (l := g1.v.list) (k := g1.v.list) (hT.sl_row (k := 1) HasW.mem (by omega) (by simp [ints])) (hT.sl_row (k := 1) HasW.mem (by omega) (by simp [ints])) (by omega))).yes rfl) rfl ?_) | refine K.GL.skip 143 rfl rfl rfl rfl ?_ | refine K.GL.skipU 143 rfl rfl rfl rfl ?_
                                            first | (refine K.GL.want 143 rfl rfl rfl ?_; first | refine K.GL.det ((K.e_not rfl).cast_bool (b := false) rfl) rfl ?_) | refine K.GL.skip 143 rfl rfl rfl rfl ?_ | refine K.GL.skipU 143 rfl rfl rfl rfl ?_
                                            first | refine K.GL.det (K.e_pick_t rfl rfl) rfl ?_ | refine K.GL.det (K.e_pick_f rfl rfl) rfl ?_
                                            refine K.GL.det (K.e_move rfl) rfl ?_
                                            first | refine K.GL.splitB 151 rfl (fun h30 => ?_) (fun h30 => ?_) | skip
                                            all_goals first | exact absurd h30 (by decide) | replace h30 := of_decide_eq_true h30 | replace h30 := of_decide_eq_false h30 | skip
                                            all_goals
                                              first | (refine K.GL.want 151 rfl rfl rfl ?_; first | refine K.GL.det (K.e_move rfl) rfl ?_) | refine K.GL.skip 151 rfl rfl rfl rfl ?_ | refine K.GL.skipU 151 rfl rfl rfl rfl ?_
                                              first | (refine K.GL.want 151 rfl rfl rfl ?_; first | refine K.GL.det (K.e_call1 Try.call27 rfl (fun w hT => down_con (hT.ok _ Pick.mem))) rfl ?_) | refine K.GL.skip 151 rfl rfl rfl rfl ?_ | refine K.GL.skipU 151 rfl rfl rfl rfl ?_
                                              first | (refine K.GL.want 151 rfl rfl rfl ?_; first | refine K.GL.det (K.e_move rfl) rfl ?_) | refine K.GL.skip 151 rfl rfl rfl rfl ?_ | refine K.GL.skipU 151 rfl rfl rfl rfl ?_
                                              first | (refine K.GL.want 151 rfl rfl rfl ?_; first | refine K.GL.det ((K.e_call1 Try.call28 rfl (fun w hT => rdown_con (hT.ok _ PickR.mem))).cast_bool (b := g1.down) (congrArg DS.down hsr1)) rfl ?_) | refine K.GL.skip 151 rfl rfl rfl rfl ?_ | refine K.GL.skipU 151 rfl rfl rfl rfl ?_
                                              first | (refine K.GL.want 151 rfl rfl rfl ?_; first | refine K.GL.det ((K.e_neb Try.underlying4 rfl rfl).cast_bool (b := false) (by cases g1.down <;> rfl)) rfl ?_) | refine K.GL.skip 151 rfl rfl rfl rfl ?_ | refine K.GL.skipU 151 rfl rfl rfl rfl ?_
                                              first | refine K.GL.det (K.e_pick_t rfl rfl) rfl ?_ | refine K.GL.det (K.e_pick_f rfl rfl) rfl ?_
                                              refine K.GL.det (K.e_move rfl) rfl ?_
                                              first | refine K.GL.splitB 158 rfl (fun h31 => ?_) (fun h31 => ?_) | skip
                                              all_goals first | exact absurd h31 (by decide) | replace h31 := of_decide_eq_true h31 | replace h31 := of_decide_eq_false h31 | skip
                                              all_goals
                                                first | (refine K.GL.want 158 rfl rfl rfl ?_; first | refine K.GL.det (K.e_move rfl) rfl ?_) | refine K.GL.skip 158 rfl rfl rfl rfl ?_ | refine K.GL.skipU 158 rfl rfl rfl rfl ?_
                                                first | (refine K.GL.want 158 rfl rfl rfl ?_; first | refine K.GL.det (K.e_call1 Try.call29 rfl (fun w hT => done_con (hT.ok _ Pick.mem))) rfl ?_) | refine K.GL.skip 158 rfl rfl rfl rfl ?_ | refine K.GL.skipU 158 rfl rfl rfl rfl ?_
                                                first | (refine K.GL.want 158 rfl rfl rfl ?_; first | refine K.GL.det (K.e_move rfl) rfl ?_) | refine K.GL.skip 158 rfl rfl rfl rfl ?_ | refine K.GL.skipU 158 rfl rfl rfl rfl ?_
                                                first | (refine K.GL.want 158 rfl rfl rfl ?_; first | refine K.GL.det ((K.e_call1 Try.call30 rfl (fun w hT => rdone_con (hT.ok _ PickR.mem))).cast_int (b := g1.done) (congrArg DS.done hsr1)) rfl ?_) | refine K.GL.skip 158 rfl rfl rfl rfl ?_ | refine K.GL.skipU 158 rfl rfl rfl rfl ?_
                                                first | (refine K.GL.want 158 rfl rfl rfl ?_; first | refine K.GL.det ((K.e_ne rfl rfl).no (not_not_intro rfl)) rfl ?_) | refine K.GL.skip 158 rfl rfl rfl rfl ?_ | refine K.GL.skipU 158 rfl rfl rfl rfl ?_
                                                first | refine K.GL.det (K.e_pick_t rfl rfl) rfl ?_ | refine K.GL.det (K.e_pick_f rfl rfl) rfl ?_
                                                refine K.GL.nil ?_
                                                refine K.GQ.go ?_
                                                refine K.GC.condB rfl (fun h32 => ?_) (fun h32 => ?_)
                                                · first
                                                  | exact absurd h32 (by decide)
                                                  | try replace h32 := of_decide_eq_true h32
                                                    refine K.GC.seq ?_
                                                    refine K.GC.region ?_
                                                    refine K.GL.det (K.e_assign rfl) rfl ?_
                                                    refine K.GL.nil ?_
                                                    refine K.GQ.go ?_
                                                    refine K.GC.ret ?_
                                                    refine K.GQ.block_ret ?_
                                                    refine K.GQ.then_ret ?_
                                                    refine K.GQ.then_ret ?_
                                                    refine K.GQ.block_ret ?_
                                                    refine K.GQ.then_ret ?_
                                                    refine K.GQ.ret1 Try.results3 rfl (fun w hT => ?_)
                                                    exact ⟨rfl, hT.nil⟩
                                                · first
                                                  | exact absurd h32 (by decide)
                                                  | try replace h32 := of_decide_eq_false h32
                                                    refine K.GC.skip ?_
                                                    refine K.GQ.block_normal ?_
                                                    refine K.GQ.go ?_
                                                    refine K.GC.region ?_
                                                    refine K.GL.det (K.e_move rfl) rfl ?_
                                                    first | refine K.GL.det (K.e_add rfl rfl ⟨by omega, by omega⟩) rfl ?_ | refine K.GL.det (K.e_addw rfl rfl) rfl ?_
                                                    refine K.GL.det (K.e_assign rfl) rfl ?_
                                                    refine K.GL.nil ?_
                                                    exact K.GQ.round (x + 1, g1, gr1) ⟨by simp only; omega, hkg1, hkr1, hsr1⟩ (by simp only; omega) (by (repeat refine ⟨rfl, ?_⟩); exact trivial) two_sub
                                      · first
                                        | exact absurd h28 (by decide)
                                        | try replace h28 := of_decide_eq_false h28
                                          refine K.GC.seq ?_
                                          refine K.GC.drawn 6 [[], [], [1], [], [3], [3, 4], [0, 1, 2, 3, 4, 5], [0, 1, 2, 3, 4, 5, 6]] [[], [], [1], [], [3], [4]] [1, 4, 5, 6, 7, 8, 9, 10, 11, 12, 13, 14, 15, 16, 17, 18, 19, 20, 47, 48, 49, 50, 51, 52, 53, 54, 55, 56, 57, 58, 65, 66, 67, 68, 69, 70, 71, 72, 73, 74, 75, 76, 77, 78, 79, 80, 81, 82, 83, 84, 85, 86, 87, 88, 89, 90, 91, 92, 93, 94, 95, 96, 97, 98, 99, 100, 101, 102, 103, 104, 105, 106, 107, 108, 109, 110, 111, 112, 113, 114, 115, 116, 117, 118, 119, 120, 122, 123, 124, 126, 127, 128, 129, 130, 131, 132, 134, 135, 136, 137, 138, 140, 141, 142, 143, 144, 145, 146, 147, 148, 149, 150, 151, 152, 153, 154, 155, 156, 157, 158, 159, 160, 161, 162, 163, 164, 165, 166, 167, 168, 169, 170, 171, 172, 173, 174, 175, 176, 177, 178, 179, 180, 181, 182, 183, 184, 185, 186, 187, 188, 189, 190, 191, 192, 193, 194, 195, 196, 197, 198, 199, 200] (by kernel_rfl) (by kernel_rfl) rfl ?_
                                          refine K.DW.det rfl (fun vs => K.e_move rfl) ?_
                                          refine K.DW.det rfl (fun vs => K.e_fieldAddr fo33_1 rfl) ?_
                                          first | refine K.DW.det rfl (fun vs => K.e_load Try.isAgg3 rfl rfl) ?_ | refine K.DW.det rfl (fun vs => K.e_load0 Try.isAgg3 rfl (by assumption)) ?_
                                          refine K.DW.det rfl (fun vs => K.e_fieldAddr fo33_2 rfl) ?_
                                          first | refine K.DW.det rfl (fun vs => K.e_load Try.isAgg5 rfl rfl) ?_ | refine K.DW.det rfl (fun vs => K.e_load0 Try.isAgg5 rfl (by assumption)) ?_
                                          refine K.DW.evO (fun vs hf => K.e_call (Pv := fun u => ∃ b, u = .slice (some ⟨b, 0, none⟩) 64 64) (R := atPtr fun b => cl b 5 (sv (secOf (q.c)))) Try.call23 rfl (fun w hT => (full_con (q.c)).mono fun e w' ⟨b, h1, h2⟩ => ⟨_, h1, ⟨b, rfl⟩, h2⟩)) ?_
                                          refine K.DW.fin (fun vs hf => ?_)
                                          refine K.GL.keep [1, 4, 5, 6, 7, 8, 9, 10, 11, 12, 13, 14, 15, 16, 17, 18, 19, 20, 47, 48, 49, 50, 51, 52, 53, 54, 55, 56, 57, 58, 59, 60, 61, 62, 63, 64, 65, 66, 67, 68, 69, 70, 71, 72, 73, 74, 75, 76, 77, 78, 79, 80, 81, 82, 83, 84, 85, 86, 87, 88, 89, 90, 91, 92, 93, 94, 95, 96, 97, 98, 99, 100, 101, 102, 103, 104, 105, 106, 107, 108, 109, 110, 111, 112, 113, 114, 115, 116, 117, 118, 119, 120, 122, 123, 124, 126, 127, 128, 129, 130, 131, 132, 134, 135, 136, 137, 138, 140, 141, 142, 143, 144, 145, 146, 147, 148, 149, 150, 151, 152, 153, 154, 155, 156, 157, 158, 159, 160, 161, 162, 163, 164, 165, 166, 167, 168, 169, 170, 171, 172, 173, 174, 175, 176, 177, 178, 179, 180, 181, 182, 183, 184, 185, 186, 187, 188, 189, 190, 191, 192, 193, 194, 195, 196, 197, 198, 199, 200] rfl ?_
                                          obtain ⟨⟨b64, e64⟩, _⟩ := hf
                                          refine K.GL.own1 (F := [cl b9 33 (encO q), DevR d g1, RefR r gr1]) e64 ?_
                                          refine gl_write (i := q.at_) (bs := (secOf q.c).1) (a := some ⟨b64, 0, none⟩) (n := 64) (c := 64) Try.call13 (by rw [← e64]; rfl) hkg1 (fun w hT => own_slice hT (by simp)) rfl (fun g1 hkg1 hvg1 => ?_)
                                          refine K.GL.det (K.e_assign rfl) rfl ?_
                                          refine K.GL.nil ?_
                                          refine K.GQ.go ?_
                                          refine K.GC.drawn 6 [[], [], [1], [], [3], [3, 4], [0, 1, 2, 3, 4, 5], [0, 1, 2, 3, 4, 5, 6]] [[], [], [1], [], [3], [4]] [1, 4, 5, 6, 7, 8, 9, 10, 11, 12, 13, 14, 15, 16, 17, 18, 19, 20, 47, 48, 49, 50, 51, 52, 53, 54, 55, 56, 57, 58, 59, 60, 61, 62, 63, 64, 65, 72, 73, 74, 75, 76, 77, 78, 79, 80, 81, 82, 83, 84, 85, 86, 87, 88, 89, 90, 91, 92, 93, 94, 95, 96, 97, 98, 99, 100, 101, 102, 103, 104, 105, 106, 107, 108, 109, 110, 111, 112, 113, 114, 115, 116, 117, 118, 119, 120, 122, 123, 124, 126, 127, 128, 129, 130, 131, 132, 134, 135, 136, 137, 138, 140, 141, 142, 143, 144, 145, 146, 147, 148, 149, 150, 151, 152, 153, 154, 155, 156, 157, 158, 159, 160, 161, 162, 163, 164, 165, 166, 167, 168, 169, 170, 171, 172, 173, 174, 175, 176, 177, 178, 179, 180, 181, 182, 183, 184, 185, 186, 187, 188, 189, 190, 191, 192, 193, 194, 195, 196, 197, 198, 199, 200] (by kernel_rfl) (by kernel_rfl) rfl ?_
                                          refine K.DW.det rfl (fun vs => K.e_move rfl) ?_
                                          refine K.DW.det rfl (fun vs => K.e_fieldAddr fo33_1 rfl) ?_
                                          first | refine K.DW.det rfl (fun vs => K.e_load Try.isAgg3 rfl rfl) ?_ | refine K.DW.det rfl (fun vs => K.e_load0 Try.isAgg3 rfl (by assumption)) ?_
                                          refine K.DW.det rfl (fun vs => K.e_fieldAddr fo33_2 rfl) ?_
                                          first | refine K.DW.det rfl (fun vs => K.e_load Try.isAgg5 rfl rfl) ?_ | refine K.DW.det rfl (fun vs => K.e_load0 Try.isAgg5 rfl (by assumption)) ?_
                                          refine K.DW.evO (fun vs hf => K.e_call (Pv := fun u => ∃ b, u = .slice (some ⟨b, 0, none⟩) 64 64) (R := atPtr fun b => cl b 5 (sv (secOf (q.c)))) Try.call23 rfl (fun w hT => (full_con (q.c)).mono fun e w' ⟨b, h1, h2⟩ => ⟨_, h1, ⟨b, rfl⟩, h2⟩)) ?_
                                          refine K.DW.fin (fun vs hf => ?_)
                                          refine K.GL.keep [1, 4, 5, 6, 7, 8, 9, 10, 11, 12, 13, 14, 15, 16, 17, 18, 19, 20, 47, 48, 49, 50, 51, 52, 53, 54, 55, 56, 57, 58, 59, 60, 61, 62, 63, 64, 65, 66, 67, 68, 69, 70, 71, 72, 73, 74, 75, 76, 77, 78, 79, 80, 81, 82, 83, 84, 85, 86, 87, 88, 89, 90, 91, 92, 93, 94, 95, 96, 97, 98, 99, 100, 101, 102, 103, 104, 105, 106, 107, 108, 109, 110, 111, 112, 113, 114, 115, 116, 117, 118, 119, 120, 122, 123, 124, 126, 127, 128, 129, 130, 131, 132, 134, 135, 136, 137, 138, 140, 141, 142, 143, 144, 145, 146, 147, 148, 149, 150, 151, 152, 153, 154, 155, 156, 157, 158, 159, 160, 161, 162, 163, 164, 165, 166, 167, 168, 169, 170, 171, 172, 173, 174, 175, 176, 177, 178, 179, 180, 181, 182, 183, 184, 185, 186, 187, 188, 189, 190, 191, 192, 193, 194, 195, 196, 197, 198, 199, 200] rfl ?_
                                          obtain ⟨⟨b71, e71⟩, _⟩ := hf
                                          refine K.GL.own1 (F := [DevR d g1, cl b64 5 (sv (secOf q.c)), cl b9 33 (encO q), RefR r gr1]) e71 ?_
                                          refine gl_rwrite (i := q.at_) (bs := (secOf q.c).1) (a := some ⟨b71, 0, none⟩) (n := 64) (c := 64) Try.call14 (by rw [← e71]; rfl) hkr1 hsr1 (fun w hT => own_sliceR hT (by simp)) rfl (fun gr1 hkr1 hsr1 => ?_)
                                          rw [← hvg1] at hsr1
                                          refine K.GL.det (K.e_assign rfl) rfl ?_
                                          refine K.GL.nil ?_
                                          refine K.GQ.block_normal ?_
                                          refine K.GQ.go ?_
                                          refine K.GC.seq ?_
                                          have hll : g1.v.list.length ≤ 4096 := Nat.le_trans g1.v.list_len hkg1.n2
                                          refine K.GC.region ?_
                                          refine K.GL.det (K.e_move rfl) rfl ?_
                                          refine K.GL.det (K.e_move rfl) rfl ?_
                                          refine K.GL.det ((K.e_ne rfl rfl).no (not_not_intro rfl)) rfl ?_
                                          refine K.GL.det (K.e_move rfl) rfl ?_
                                          first | refine K.GL.splitB 143 rfl (fun h33 => ?_) (fun h33 => ?_) | skip
                                          all_goals first | exact absurd h33 (by decide) | replace h33 := of_decide_eq_true h33 | replace h33 := of_decide_eq_false h33 | skip
                                          all_goals
                                            first | (refine K.GL.want 143 rfl rfl rfl ?_; first | refine K.GL.det (K.e_move rfl) rfl ?_) | refine K.GL.skip 143 rfl rfl rfl rfl ?_ | refine K.GL.skipU 143 rfl rfl rfl rfl ?_
                                            first
                                              | refine K.GL.skip 143 rfl rfl rfl rfl ?_
                                              | refine K.GL.skipU 143 rfl rfl rfl rfl ?_
                                              | (refine K.GL.want 143 rfl rfl rfl ?_
                                                 refine gl_loose Try.call25 rfl hkg1 rfl (fun a145 c145 => ?_))
                                            first | (refine K.GL.want 143 rfl rfl rfl ?_; first | refine K.GL.det (K.e_move rfl) rfl ?_) | refine K.GL.skip 143 rfl rfl rfl rfl ?_ | refine K.GL.skipU 143 rfl rfl rfl rfl ?_
                                            first
                                              | refine K.GL.skip 143 rfl rfl rfl rfl ?_
                                              | refine K.GL.skipU 143 rfl rfl rfl rfl ?_
                                              | (refine K.GL.want 143 rfl rfl rfl ?_
                                                 refine gl_rloose2 Try.call26 rfl hkr1 hsr1 rfl (fun a147 c147 => ?_))
                                            first | (refine K.GL.want 143 rfl rfl rfl ?_; first | refine K.GL.det ((K.e_call1 Try.call24 rfl (fun w hT => same_con (a := a145) (b := a147) (l := g1.v.list) (k := g1.v.list) (hT.sl_row (k := 1) HasW.mem (by omega) (by simp [ints])) (hT.sl_row (k := 1) HasW.mem (by omega) (by simp [ints])) (by omega))).yes rfl) rfl ?_) | refine K.GL.skip 143 rfl rfl rfl rfl ?_ | refine K.GL.skipU 143 rfl rfl rfl rfl ?_
                                            first | (refine K.GL.want 143 rfl rfl rfl ?_; first | refine K.GL.det ((K.e_not rfl).cast_bool (b := false) rfl) rfl ?_) | refine K.GL.skip 143 rfl rfl rfl rfl ?_ | refine K.GL.skipU 143 rfl rfl rfl rfl ?_
                                            first | refine K.GL.det (K.e_pick_t rfl rfl) rfl ?_ | refine K.GL.det (K.e_pick_f rfl rfl) rfl ?_
                                            refine K.GL.det (K.e_move rfl) rfl ?_
                                            first | refine K.GL.splitB 151 rfl (fun h34 => ?_) (fun h34 => ?_) | skip
                                            all_goals first | exact absurd h34 (by decide) | replace h34 := of_decide_eq_true h34 | replace h34 := of_decide_eq_false h34 | skip
                                            all_goals
                                              first | (refine K.GL.want 151 rfl rfl rfl ?_; first | refine K.GL.det (K.e_move rfl) rfl ?_) | refine K.GL.skip 151 rfl rfl rfl rfl ?_ | refine K.GL.skipU 151 rfl rfl rfl rfl ?_
                                              first | (refine K.GL.want 151 rfl rfl rfl ?_; first | refine K.GL.det (K.e_call1 Try.call27 rfl (fun w hT => down_con (hT.ok _ Pick.mem))) rfl ?_) | refine K.GL.skip 151 rfl rfl rfl rfl ?_ | refine K.GL.skipU 151 rfl rfl rfl rfl ?_
                                              first | (refine K.GL.want 151 rfl rfl rfl ?_; first | refine K.GL.det (K.e_move rfl) rfl ?_) | refine K.GL.skip 151 rfl rfl rfl rfl ?_ | refine K.GL.skipU 151 rfl rfl rfl rfl ?_
                                              first | (refine K.GL.want 151 rfl rfl rfl ?_; first | refine K.GL.det ((K.e_call1 Try.call28 rfl (fun w hT => rdown_con (hT.ok _ PickR.mem))).cast_bool (b := g1.down) (congrArg DS.down hsr1)) rfl ?_) | refine K.GL.skip 151 rfl rfl rfl rfl ?_ | refine K.GL.skipU 151 rfl rfl rfl rfl ?_
                                              first | (refine K.GL.want 151 rfl rfl rfl ?_; first | refine K.GL.det ((K.e_neb Try.underlying4 rfl rfl).cast_bool (b := false) (by cases g1.down <;> rfl)) rfl ?_) | refine K.GL.skip 151 rfl rfl rfl rfl ?_ | refine K.GL.skipU 151 rfl rfl rfl rfl ?_
                                              first | refine K.GL.det (K.e_pick_t rfl rfl) rfl ?_ | refine K.GL.det (K.e_pick_f rfl rfl) rfl ?_
                                              refine K.GL.det (K.e_move rfl) rfl ?_
                                              first | refine K.GL.splitB 158 rfl (fun h35 => ?_) (fun h35 => ?_) | skip
                                              all_goals first | exact absurd h35 (by decide) | replace h35 := of_decide_eq_true h35 | replace h35 := of_decide_eq_false h35 | skip
                                              all_goals
                                                first | (refine K.GL.want 158 rfl rfl rfl ?_; first | refine K.GL.det (K.e_move rfl) rfl ?_) | refine K.GL.skip 158 rfl rfl rfl rfl ?_ | refine K.GL.skipU 158 rfl rfl rfl rfl ?_
                                                first | (refine K.GL.want 158 rfl rfl rfl ?_; first | refine K.GL.det (K.e_call1 Try.call29 rfl (fun w hT => done_con (hT.ok _ Pick.mem))) rfl ?_) | refine K.GL.skip 158 rfl rfl rfl rfl ?_ | refine K.GL.skipU 158 rfl rfl rfl rfl ?_
                                                first | (refine K.GL.want 158 rfl rfl rfl ?_; first | refine K.GL.det (K.e_move rfl) rfl ?_) | refine K.GL.skip 158 rfl rfl rfl rfl ?_ | refine K.GL.skipU 158 rfl rfl rfl rfl ?_
                                                first | (refine K.GL.want 158 rfl rfl rfl ?_; first | refine K.GL.det ((K.e_call1 Try.call30 rfl (fun w hT => rdone_con (hT.ok _ PickR.mem))).cast_int (b := g1.done) (congrArg DS.done hsr1)) rfl ?_) | refine K.GL.skip 158 rfl rfl rfl rfl ?_ | refine K.GL.skipU 158 rfl rfl rfl rfl ?_
                                                first | (refine K.GL.want 158 rfl rfl rfl ?_; first | refine K.GL.det ((K.e_ne rfl rfl).no (not_not_intro rfl)) rfl ?_) | refine K.GL.skip 158 rfl rfl rfl rfl ?_ | refine K.GL.skipU 158 rfl rfl rfl rfl ?_
                                                first | refine K.GL.det (K.e_pick_t rfl rfl) rfl ?_ | refine K.GL.det (K.e_pick_f rfl rfl) rfl ?_
                                                refine K.GL.nil ?_
                                                refine K.GQ.go ?_
                                                refine K.GC.condB rfl (fun h36 => ?_) (fun h36 => ?_)
                                                · first
                                                  | exact absurd h36 (by decide)
                                                  | try replace h36 := of_decide_eq_true h36
                                                    refine K.GC.seq ?_
                                                    refine K.GC.region ?_
                                                    refine K.GL.det (K.e_assign rfl) rfl ?_
                                                    refine K.GL.nil ?_
                                                    refine K.GQ.go ?_
                                                    refine K.GC.ret ?_
                                                    refine K.GQ.block_ret ?_
                                                    refine K.GQ.then_ret ?_
                                                    refine K.GQ.then_ret ?_
                                                    refine K.GQ.block_ret ?_
                                                    refine K.GQ.then_ret ?_
                                                    refine K.GQ.ret1 Try.results3 rfl (fun w hT => ?_)
                                                    exact ⟨rfl, hT.nil⟩
                                                · first
                                                  | exact absurd h36 (by decide)
                                                  | try replace h36 := of_decide_eq_false h36
                                                    refine K.GC.skip ?_
                                                    refine K.GQ.block_normal ?_
                                                    refine K.GQ.go ?_
                                                    refine K.GC.region ?_
                                                    refine K.GL.det (K.e_move rfl) rfl ?_
                                                    first | refine K.GL.det (K.e_add rfl rfl ⟨by omega, by omega⟩) rfl ?_ | refine K.GL.det (K.e_addw rfl rfl) rfl ?_
                                                    refine K.GL.det (K.e_assign rfl) rfl ?_
                                                    refine K.GL.nil ?_
                                                    exact K.GQ.round (x + 1, g1, gr1) ⟨by simp only; omega, hkg1, hkr1, hsr1⟩ (by simp only; omega) (by (repeat refine ⟨rfl, ?_⟩); exact trivial) two_sub
                  · first
                    | exact absurd h6 (by decide)
                    | try replace h6 := of_decide_eq_false h6
                      refine K.GC.exit ?_
                      refine K.GQ.then_exit ?_
                      refine K.GQ.then_exit ?_
                      refine K.GQ.block_hit ?_
                      refine K.GQ.go ?_
                      refine K.GC.seq ?_
                      refine K.GC.seq ?_
                      have hnl : g1.kept.length ≤ 4096 := hkg1.n2
                      refine K.GC.region ?_
                      refine K.GL.det (K.e_assign rfl) rfl ?_
                      refine K.GL.nil ?_
                      refine K.GQ.go ?_
                      refine K.GC.block ?_
                      refine K.GC.loopk (α := Nat) [5, 6, 7, 193, 194, 195, 196, 197, 198, 199, 200] rfl (fun z => [(16, .int .i64 (z : Int))]) (fun z => [DevR d g1, RefR r gr1]) (fun z => z ≤ g1.kept.length) (fun z => (g1.kept.length - z)) 0 (by omega) (by (repeat refine ⟨rfl, ?_⟩); exact trivial) (Sub.refl _) (fun z hI => ?_)
                      refine K.GC.seq ?_
                      refine K.GC.seq ?_
                      refine K.GC.region ?_
                      refine K.GL.det (K.e_move rfl) rfl ?_
                      refine K.GL.det (K.e_move rfl) rfl ?_
                      refine K.GL.det (K.e_call1 Try.call31 rfl (fun w hT => size_con (hT.ok _ Pick.mem))) rfl ?_
                      first | refine K.GL.det ((K.e_lt rfl rfl).yes (by omega)) rfl ?_ | refine K.GL.det ((K.e_lt rfl rfl).no (by omega)) rfl ?_ | refine K.GL.det (K.e_lt rfl rfl) rfl ?_
                      refine K.GL.nil ?_
                      refine K.GQ.go ?_
                      refine K.GC.condB rfl (fun h37 => ?_) (fun h37 => ?_)
                      · first
                        | exact absurd h37 (by decide)
                        | try replace h37 := of_decide_eq_true h37
                          refine K.GC.skip ?_
                          refine K.GQ.go ?_
                          refine K.GC.seq ?_
                          refine K.GC.block ?_
                          refine K.GC.seq ?_
                          refine K.GC.region ?_
                          refine K.GL.det (K.e_move rfl) rfl ?_
                          refine K.GL.det (K.e_move rfl) rfl ?_
                          refine gl_read (i := (z : Int)) Try.call17 rfl hkg1 rfl (fun a174 c174 => ?_)
                          refine K.GL.det (K.e_move rfl) rfl ?_
                          refine K.GL.det (K.e_extract rfl rfl) rfl ?_
                          refine K.GL.det (K.e_extract rfl rfl) rfl ?_
                          refine K.GL.det (K.e_assign rfl) rfl ?_
                          refine K.GL.det (K.e_assign rfl) rfl ?_
                          refine K.GL.nil ?_
                          refine K.GQ.go ?_
                          refine K.GC.seq ?_
                          refine K.GC.region ?_
                          refine K.GL.det (K.e_move rfl) rfl ?_
                          refine K.GL.det (K.e_move rfl) rfl ?_
                          refine gl_rread (i := (z : Int)) Try.call18 rfl hkr1 hsr1 rfl (fun a180 c180 => ?_)
                          refine K.GL.det (K.e_move rfl) rfl ?_
                          refine K.GL.det (K.e_extract rfl rfl) rfl ?_
                          refine K.GL.det (K.e_extract rfl rfl) rfl ?_
                          refine K.GL.det (K.e_assign rfl) rfl ?_
                          refine K.GL.det (K.e_assign rfl) rfl ?_
                          refine K.GL.nil ?_
                          refine K.GQ.go ?_
                          refine K.GC.seq ?_
                          refine K.GC.region ?_
                          refine K.GL.det (K.e_move rfl) rfl ?_
                          refine K.GL.det (K.e_b2sw Try.underlying29 Try.underlying5 Try.underlying9 rfl (fun w hT => hT.sl_row HasW.mem (by omega) (by rw [bv_length, Nat.mul_one]))) rfl ?_
                          refine K.GL.det (K.e_move rfl) rfl ?_
                          refine K.GL.det (K.e_b2sw Try.underlying29 Try.underlying5 Try.underlying9 rfl (fun w hT => hT.sl_rdr HasD.mem (by rw [bv_length]))) rfl ?_
                          refine K.GL.det ((K.e_nes Try.underlying9 rfl rfl).no (not_not_intro rfl)) rfl ?_
                          refine K.GL.det (K.e_move rfl) rfl ?_
                          first | refine K.GL.splitB 188 rfl (fun h38 => ?_) (fun h38 => ?_) | skip
                          all_goals first | exact absurd h38 (by decide) | replace h38 := of_decide_eq_true h38 | replace h38 := of_decide_eq_false h38 | skip
                          all_goals
                            first | (refine K.GL.want 188 rfl rfl rfl ?_; first | refine K.GL.det (K.e_move rfl) rfl ?_) | refine K.GL.skip 188 rfl rfl rfl rfl ?_ | refine K.GL.skipU 188 rfl rfl rfl rfl ?_
                            first | (refine K.GL.want 188 rfl rfl rfl ?_; first | refine K.GL.det (K.e_move rfl) rfl ?_) | refine K.GL.skip 188 rfl rfl rfl rfl ?_ | refine K.GL.skipU 188 rfl rfl rfl rfl ?_
                            first | (refine K.GL.want 188 rfl rfl rfl ?_; first | refine K.GL.det ((K.e_ne rfl rfl).no (not_not_intro rfl)) rfl ?_) | refine K.GL.skip 188 rfl rfl rfl rfl ?_ | refine K.GL.skipU 188 rfl rfl rfl rfl ?_
                            first | refine K.GL.det (K.e_pick_t rfl rfl) rfl ?_ | refine K.GL.det (K.e_pick_f rfl rfl) rfl ?_
                            refine K.GL.nil ?_
                            refine K.GQ.go ?_
                            refine K.GC.condB rfl (fun h39 => ?_) (fun h39 => ?_)
                            · first
                              | exact absurd h39 (by decide)
                              | try replace h39 := of_decide_eq_true h39
                                refine K.GC.seq ?_
                                refine K.GC.region ?_
                                refine K.GL.det (K.e_assign rfl) rfl ?_
                                refine K.GL.nil ?_
                                refine K.GQ.go ?_
                                refine K.GC.ret ?_
                                refine K.GQ.block_ret ?_
                                refine K.GQ.then_ret ?_
                                refine K.GQ.then_ret ?_
                                refine K.GQ.block_ret ?_
                                refine K.GQ.then_ret ?_
                                refine K.GQ.ret1 Try.results3 rfl (fun w hT => ?_)
                                exact ⟨rfl, hT.nil⟩
                            · first
                              | exact absurd h39 (by decide)
                              | try replace h39 := of_decide_eq_false h39
                                refine K.GC.skip ?_
                                refine K.GQ.block_normal ?_
                                refine K.GQ.go ?_
                                refine K.GC.region ?_
                                refine K.GL.det (K.e_move rfl) rfl ?_
                                first | refine K.GL.det (K.e_add rfl rfl ⟨by omega, by omega⟩) rfl ?_ | refine K.GL.det (K.e_addw rfl rfl) rfl ?_
                                refine K.GL.det (K.e_assign rfl) rfl ?_
                                refine K.GL.nil ?_
                                exact K.GQ.round (z + 1) (by omega) (by omega) (by (repeat refine ⟨rfl, ?_⟩); exact trivial) two_sub
                      · first
                        | exact absurd h37 (by decide)
                        | try replace h37 := of_decide_eq_false h37
                          refine K.GC.exit ?_
                          refine K.GQ.then_exit ?_
                          refine K.GQ.then_exit ?_
                          refine K.GQ.block_hit ?_
                          refine K.GQ.go ?_
                          refine K.GC.seq ?_
                          refine K.GC.region ?_
                          refine K.GL.det (K.e_move rfl) rfl ?_
                          refine K.GL.det (K.e_move rfl) rfl ?_
                          first | refine K.GL.splitB 194 rfl (fun h40 => ?_) (fun h40 => ?_) | skip
                          all_goals first | exact absurd h40 (by decide) | replace h40 := of_decide_eq_true h40 | replace h40 := of_decide_eq_false h40 | skip
                          all_goals
                            first | (refine K.GL.want 194 rfl rfl rfl ?_; first | refine K.GL.det (K.e_move rfl) rfl ?_) | refine K.GL.skip 194 rfl rfl rfl rfl ?_ | refine K.GL.skipU 194 rfl rfl rfl rfl ?_
                            first | (refine K.GL.want 194 rfl rfl rfl ?_; first | refine K.GL.det (K.e_call1 Try.call31 rfl (fun w hT => size_con (hT.ok _ Pick.mem))) rfl ?_) | refine K.GL.skip 194 rfl rfl rfl rfl ?_ | refine K.GL.skipU 194 rfl rfl rfl rfl ?_
                            first | (refine K.GL.want 194 rfl rfl rfl ?_; first | refine K.GL.det (K.e_move rfl) rfl ?_) | refine K.GL.skip 194 rfl rfl rfl rfl ?_ | refine K.GL.skipU 194 rfl rfl rfl rfl ?_
                            first | (refine K.GL.want 194 rfl rfl rfl ?_; first | refine K.GL.det ((K.e_call1 Try.call32 rfl (fun w hT => rsize_con (hT.ok _ PickR.mem))).cast_int (b := (g1.kept.length : Int)) (by rw [hsr1]; rfl)) rfl ?_) | refine K.GL.skip 194 rfl rfl rfl rfl ?_ | refine K.GL.skipU 194 rfl rfl rfl rfl ?_
                            first | (refine K.GL.want 194 rfl rfl rfl ?_; first | refine K.GL.det ((K.e_eq rfl rfl).yes rfl) rfl ?_) | refine K.GL.skip 194 rfl rfl rfl rfl ?_ | refine K.GL.skipU 194 rfl rfl rfl rfl ?_
                            first | refine K.GL.det (K.e_pick_t rfl rfl) rfl ?_ | refine K.GL.det (K.e_pick_f rfl rfl) rfl ?_
                            refine K.GL.det (K.e_assign rfl) rfl ?_
                            refine K.GL.nil ?_
                            refine K.GQ.go ?_
                            refine K.GC.ret ?_
                            refine K.GQ.ret1 Try.results3 rfl (fun w hT => ?_)
                            exact ⟨rfl, hT.nil⟩

set_option maxHeartbeats 1000000 in
set_option maxRecDepth 100000 in
theorem DevPlays_lifted (os : Os) (started : os.Started) (H : Type) (enc : TypeId × Value → H) :
    ReturnsInHanded {} Try.checked os 3 .any (Rows.devPlaysSpec.pre6 enc Try.prog Try.f3 Rows.devPlaysRow.domain false) (Rows.devPlaysSpec.post enc Try.prog Try.f3 false true false false) := by
  refine returnsInHanded_of_change_sized (C := Try.checked) own started (by kernel_rfl) Try.func3
    (ChangeSpec.witness6 (enc := enc) (C := Try.checked) false ⟨#[], #[.int .i64 0, .slice none 0 0], []⟩ 8 (by kernel_rfl) (by kernel_rfl) (by kernel_rfl) (by kernel_rfl)) ?_
  intro W base args ds gs before hval0 hW _ hsz0 _
  have hval : ∀ (j : Nat) t v, Try.f3.params[j]? = some t → args[j]? = some v → Value.okWide Try.prog W .any base t v := hval0
  have hsz : (DataW.weightsEach Try.prog (Try.f3.params.toList ++ []) (ds ++ gs)).all (· ≤ reachBytes) = true := hsz0
  have hW' := hW
  obtain ⟨p, q, hA0, hV, hpe, hfz, hnd⟩ := hW
  have hA : DataW.TrodAll enc Try.prog W 0 (fun _ => true) true Try.f3.params.toList args.toList ds p := hA0
  obtain ⟨rfl, rfl⟩ := trodVars_none hV
  rw [Try.params3] at hA hval hsz
  obtain ⟨v0, vs0, d0, ds0, p0, q0, hargs, rfl, rfl, h0, r0⟩ := trodAll_cons hA
  obtain ⟨v1, vs1, d1, ds1, p1, q1, rfl, rfl, rfl, h1, r1⟩ := trodAll_cons r0
  obtain ⟨rfl, rfl, rfl⟩ := trodAll_nil r1
  obtain rfl : args = #[v0, v1] := by cases args; simp_all
  clear hA0 hval0 hsz0 hA hargs
  obtain ⟨m, rfl, rfl, rfl, wm⟩ := open_int Try.underlying3 (hval 0 3 _ rfl rfl) h0
  obtain ⟨ax, nx, cx, rfl⟩ := okWide_slice Try.underlying22 (hval 1 22 _ rfl rfl)
  obtain ⟨fuelx, hfx⟩ := h1
  obtain ⟨ax', nx', cx', lx, hcsx, hnx, hSx, hGx⟩ := open_ops2 hfx
  have hcsx' : Value.slice ax nx cx = .slice ax' nx' cx' := by simpa [Value.cells] using hcsx
  simp only [Value.slice.injEq] at hcsx'
  obtain ⟨rfl, rfl, rfl⟩ := hcsx'
  unfold maxLen at hnx
  have core : Calls Try.prog 3 #[.int .i64 m, .slice ax nx cx] W fun e W' => e = .returned (.bool true) ∧ Tr W [] W' [] := plays_any W hSx hGx (by omega)
  exact core.mono fun e W' ⟨he, hT⟩ => ⟨_, he, law_post (tb := 4) hW' rfl rfl Try.underlying4 (fun _ => rfl) laidOut (by kernel_rfl) hT.below⟩
theorem DevPlays_holds : Rows.DevPlaysSaid :=
  OpenClaim.holds_of_wide 3 Try.f3 rfl rfl rfl rfl rfl rfl rfl ⟨rfl, rfl, rfl, rfl, rfl⟩ rfl rfl rfl rfl rfl (by kernel_rfl) Try.func3 (by kernel_rfl)
    (of_decide_eq_true (by kernel_rfl)) (by unfold Func.isWrapper; first | (rw [if_pos (by decide +kernel)]; kernel_rfl) | (rw [if_neg (by decide +kernel)]; exact ⟨rfl, rfl⟩))
    (fun os started H enc _ => DevPlays_lifted os started H enc)

end Go.Proofs.Ytgkdnecjokhkcaa
