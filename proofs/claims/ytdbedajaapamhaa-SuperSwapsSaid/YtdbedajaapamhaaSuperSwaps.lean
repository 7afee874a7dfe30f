/- SuperSwaps returns true for all tables, wherever power fails, whatever is kept and turned. -/
import Derived.ProofKit
import Derived.OpenShut
import Derived.SizedLaws
import Derived.Lib.SmallJoins
import Derived.Test.YtdbedajaapamhaaRows
import Derived.Test.YtdbedajaapamhaaSuH
import Derived.Test.YtdbedajaapamhaaSuC
namespace Go.Proofs.Ytdbedajaapamhaa
open Go Go.K Go.ChangeShapes Go.WideShapes Go.ChangeAt Go.RowKit Go.Joins
set_option linter.unusedVariables false
set_option linter.unusedSimpArgs false
attribute [local irreducible] Calls Ev GL GC GQ GR Code.wp
theorem own : ownKnob Try.prog.godebug = none := by kernel_rfl
theorem laidOut : laidOutB Try.prog = true := by kernel_rfl
theorem mk51 : K.mkOf Try.prog 51 = some (49, [.int .i64 0, .int .i64 0, .int .u32 0], 24) := by kernel_rfl
/- turntable/turntablelaw10.SuperSwaps -/
set_option maxHeartbeats 8000000 in
set_option maxRecDepth 100000 in
theorem swaps_con {o t : Tab} {x wb : Nat} {wh wa : Int} {ks : List Bool} {a a2 ak : Option Addr} {c c2 ck : Nat} {w : World} (hlo : o.exts.length ≤ 9223372036854775807) (hl : t.exts.length ≤ 9223372036854775807) (hx8 : x < 256) (hk2 : ks.length ≤ 9223372036854775807) (hwb : wb < 4294967296) [Old w [wildR] a (encX) (o.exts)] [Old w [wildR] a2 (encX) (t.exts)] [Old w [wildR] ak (encT) (ks)] (hd : Disj [wildR]) (ho : ∀ r ∈ ([wildR] : List Res), r.ok w.heap) :
    Calls Try.prog 6 #[.agg (tabC o a c).toArray, .agg (tabC t a2 c2).toArray, .int .u8 (x : Int), .slice ak ks.length ck, .agg (encH ⟨wh, wa, wb⟩).toArray] w fun e w' => e = .returned (.bool true) ∧ Tr w [wildR] w' [wildR] := by
  refine K.enter (args := [_, _, _, _, _]) Try.func6 rfl Try.ntmps6 rfl hd ho ?_
  refine K.GC.seq ?_
  refine K.GC.region ?_
  refine K.GL.box rfl rfl rfl (fun b5 => ?_)
  refine K.GL.box rfl rfl rfl (fun b6 => ?_)
  refine K.GL.box rfl rfl rfl (fun b9 => ?_)
  refine K.GL.det (K.e_assign rfl) rfl ?_
  refine K.GL.nil ?_
  refine K.GQ.go ?_
  refine K.GC.seq ?_
  refine K.GC.region ?_
  refine K.GL.det (ev_head10_con Try.call14 rfl ) rfl ?_
  refine K.GL.det (K.e_assign rfl) rfl ?_
  refine K.GL.nil ?_
  refine K.GQ.go ?_
  refine K.GC.seq ?_
  refine K.GC.region ?_
  refine gl_dnew_con Try.call15 rfl (by first | assumption | omega | rfl | decide) rfl (fun d18 g18 hk18 hv18 => ?_)
  refine K.GL.det (K.e_assign rfl) rfl ?_
  refine K.GL.nil ?_
  refine K.GQ.go ?_
  refine K.GC.seq ?_
  refine K.GC.seq ?_
  refine K.GC.region ?_
  refine K.GL.det (K.e_move rfl) rfl ?_
  refine K.GL.det ((K.e_eqlp Try.underlying25 rfl rfl).cast_bool (b := false) rfl) rfl ?_
  refine K.GL.det (K.e_move rfl) rfl ?_
  first | refine K.GL.splitB 21 rfl (fun h1 => ?_) (fun h1 => ?_) | skip
  all_goals first | exact absurd h1 (by decide) | replace h1 := of_decide_eq_true h1 | replace h1 := of_decide_eq_false h1 | skip
  all_goals
    first | (refine K.GL.want 21 rfl rfl rfl ?_; first | refine K.GL.det (K.e_move rfl) rfl ?_) | refine K.GL.skip 21 rfl rfl rfl rfl ?_ | refine K.GL.skipU 21 rfl rfl rfl rfl ?_
    first | (refine K.GL.want 21 rfl rfl rfl ?_; first | refine K.GL.det (K.e_len Try.underlying46 rfl) rfl ?_) | refine K.GL.skip 21 rfl rfl rfl rfl ?_ | refine K.GL.skipU 21 rfl rfl rfl rfl ?_
    first | (refine K.GL.want 21 rfl rfl rfl ?_; first | refine K.GL.det ((K.e_gt rfl rfl).yes (by first | omega | assumption | decide +kernel)) rfl ?_ | refine K.GL.det ((K.e_gt rfl rfl).no (by first | omega | assumption | decide +kernel)) rfl ?_ | refine K.GL.det (K.e_gt rfl rfl) rfl ?_) | refine K.GL.skip 21 rfl rfl rfl rfl ?_ | refine K.GL.skipU 21 rfl rfl rfl rfl ?_
    first | refine K.GL.det (K.e_pick_t rfl rfl) rfl ?_ | refine K.GL.det (K.e_pick_f rfl rfl) rfl ?_
    refine K.GL.nil ?_
    refine K.GQ.go ?_
    refine K.GC.condB rfl (fun h2 => ?_) (fun h2 => ?_)
    · first
      | exact absurd h2 (by decide)
      | try replace h2 := of_decide_eq_true h2
        refine K.GC.seq ?_
        refine K.GC.region ?_
        refine K.GL.det (K.e_move rfl) rfl ?_
        refine K.GL.det ((K.e_neqp Try.underlying25 rfl rfl).cast_bool (b := true) rfl) rfl ?_
        refine K.GL.det (K.e_move rfl) rfl ?_
        first | refine K.GL.splitB 28 rfl (fun h3 => ?_) (fun h3 => ?_) | skip
        all_goals first | exact absurd h3 (by decide) | replace h3 := of_decide_eq_true h3 | replace h3 := of_decide_eq_false h3 | skip
        all_goals
          first | (refine K.GL.want 28 rfl rfl rfl ?_; first | refine K.GL.det (K.e_move rfl) rfl ?_) | refine K.GL.skip 28 rfl rfl rfl rfl ?_ | refine K.GL.skipU 28 rfl rfl rfl rfl ?_
          first | refine K.GL.det (K.e_pick_t rfl rfl) rfl ?_ | refine K.GL.det (K.e_pick_f rfl rfl) rfl ?_
          refine K.GL.det (K.e_assign rfl) rfl ?_
          refine K.GL.nil ?_
          refine K.GQ.go ?_
          refine K.GC.ret ?_
          refine K.GQ.then_ret ?_
          refine K.GQ.ret1 Try.results6 rfl (fun w hT => ?_)
          first
            | exact ⟨rfl, hT.sub K.sb⟩
            | (have hz : lo = t1 := hlc.resolve_right (fun hh => absurd (by assumption) hh.1)
               rw [decide_eq_true hz]
               exact ⟨rfl, hT.sub K.sb⟩)
            | (have hz : lo = t1 := hlc.resolve_right (fun hh => absurd hh.2 (by assumption))
               rw [decide_eq_true hz]
               exact ⟨rfl, hT.sub K.sb⟩)
            | (have hz : lo = o := by assumption
               rw [decide_eq_true hz]
               exact ⟨rfl, hT.sub K.sb⟩)
    · first
      | exact absurd h2 (by decide)
      | try replace h2 := of_decide_eq_false h2
        refine K.GC.skip ?_
        refine K.GQ.go ?_
        refine K.GC.seq ?_
        refine K.GC.seq ?_
        refine K.GC.region ?_
        refine K.GL.det (K.e_move rfl) rfl ?_
        first | refine K.GL.det (K.e_ldA Try.isAgg29 Try.sizeOf29 rfl rfl (by assumption)) rfl ?_ | refine K.GL.det (K.e_ldAF Try.isAgg29 Try.sizeOf29 rfl rfl (by assumption) rfl) rfl ?_ | refine K.GL.det (K.e_loads Try.isAgg29 Try.sizeOf29 rfl rfl) rfl ?_
        refine gl_save_con (s := (DS.new 4)) (t := o) Try.call16 rfl hk18 hv18 hlo rfl (fun g33 hk33 hv33 => ?_)
        first | refine K.GL.det ((K.e_ne rfl rfl).yes (by first | omega | assumption | decide +kernel)) rfl ?_ | refine K.GL.det ((K.e_ne rfl rfl).no (by first | omega | assumption | decide +kernel)) rfl ?_ | refine K.GL.det (K.e_ne rfl rfl) rfl ?_
        refine K.GL.nil ?_
        refine K.GQ.go ?_
        refine K.GC.condB rfl (fun h4 => ?_) (fun h4 => ?_)
        · first
          | exact absurd h4 (by decide)
          | try replace h4 := of_decide_eq_true h4
            refine K.GC.seq ?_
            refine K.GC.region ?_
            refine K.GL.det (K.e_move rfl) rfl ?_
            refine K.GL.det (K.e_assign rfl) rfl ?_
            refine K.GL.nil ?_
            refine K.GQ.go ?_
            refine K.GC.ret ?_
            refine K.GQ.then_ret ?_
            refine K.GQ.ret1 Try.results6 rfl (fun w hT => ?_)
            first
              | exact ⟨rfl, hT.sub K.sb⟩
              | (have hz : lo = t1 := hlc.resolve_right (fun hh => absurd (by assumption) hh.1)
                 rw [decide_eq_true hz]
                 exact ⟨rfl, hT.sub K.sb⟩)
              | (have hz : lo = t1 := hlc.resolve_right (fun hh => absurd hh.2 (by assumption))
                 rw [decide_eq_true hz]
                 exact ⟨rfl, hT.sub K.sb⟩)
              | (have hz : lo = o := by assumption
                 rw [decide_eq_true hz]
                 exact ⟨rfl, hT.sub K.sb⟩)
        · first
          | exact absurd h4 (by decide)
          | try replace h4 := of_decide_eq_false h4
            refine K.GC.skip ?_
            refine K.GQ.go ?_
            refine K.GC.seq ?_
            have hRo := save_right (Classical.not_not.1 (by assumption))
            obtain ⟨_, hdw, hlo2⟩ := (Dw.new 4).save (by decide) hRo
            rw [← hv33] at hdw hlo2
            have hg1 := hRo.g1
            have hg2 := hRo.g2
            refine K.GC.region ?_
            first | refine K.GL.det (K.e_fa fo29_0 rfl) rfl ?_ | refine K.GL.det (K.e_fieldAddr fo29_0 rfl) rfl ?_
            refine K.GL.det (K.e_load Try.isAgg2 rfl rfl) rfl ?_
            first | refine K.GL.det (K.e_add rfl rfl ⟨by omega, by omega⟩) rfl ?_ | refine K.GL.det (K.e_addw rfl rfl) rfl ?_
            first | refine K.GL.det (K.e_fa fo29_0 rfl) rfl ?_ | refine K.GL.det (K.e_fieldAddr fo29_0 rfl) rfl ?_
            refine K.GL.store rfl rfl rfl Try.sizeOf2 rfl rfl ?_
            refine K.GL.nil ?_
            refine K.GQ.go ?_
            refine K.GC.seq ?_
            obtain ⟨t1, ht1⟩ : ∃ t1 : Tab, t1 = ⟨o.gen + 1, t.opn, t.exts⟩ := ⟨_, rfl⟩
            have e1 : [Value.int .i64 (o.gen + 1), Value.int .i64 t.opn, Value.slice a2 t.exts.length c2] = tabC t1 a2 c2 := by rw [ht1]; rfl
            have hgt : t1.gen = o.gen + 1 := by rw [ht1]
            have hxt : t.exts = t1.exts := by rw [ht1]
            have hl1 : t1.exts.length ≤ 9223372036854775807 := by rw [← hxt]; exact hl
            have hq3 : Old w [wildR] a2 encX t1.exts := by rw [← hxt]; infer_instance
            refine K.GC.res (L' := [DevR d18 g33, cl b9 49 (encH ⟨wh, wa, wb⟩), cl b6 29 [Value.int .i64 (o.gen + 1), Value.int .i64 t.opn, Value.slice a2 t.exts.length c2], cl b5 29 (tabC o a c), wildR]) ?_ (K.Sub.refl _)
            rw [e1]
            refine K.GC.region ?_
            refine K.GL.det (K.e_move rfl) rfl ?_
            refine K.GL.det (K.e_move rfl) rfl ?_
            refine K.GL.det ((K.e_remk (a := (x : Int)) (b := 4) rfl rfl (by omega) (by omega) (K.wrap_u8 (by omega) (by omega))).cast_int (b := ((x % 4 : Nat) : Int)) (by omega)) rfl ?_
            refine K.GL.det (K.e_conv Try.underlying5 Try.underlying3 rfl (K.wrap_i64 (by omega) (by omega))) rfl ?_
            refine gl_dcut_con (s := g33.v) Try.call25 rfl hk33 rfl (by unfold I64; omega) rfl (fun g44 hk44 hv44 => ?_)
            refine K.GL.nil ?_
            refine K.GQ.go ?_
            refine K.GC.seq ?_
            refine K.GC.region ?_
            refine K.GL.det (K.e_move rfl) rfl ?_
            first | refine K.GL.det (K.e_ldA Try.isAgg29 Try.sizeOf29 rfl rfl (by assumption)) rfl ?_ | refine K.GL.det (K.e_ldAF Try.isAgg29 Try.sizeOf29 rfl rfl (by assumption) rfl) rfl ?_ | refine K.GL.det (K.e_loads Try.isAgg29 Try.sizeOf29 rfl rfl) rfl ?_
            refine gl_save_con (s := (g33.v.setCut ((x % 4 : Nat) : Int))) (t := t1) Try.call16 rfl hk44 hv44 hl1 rfl (fun g47 hk47 hv47 => ?_)
            refine K.GL.det (K.e_assign rfl) rfl ?_
            refine K.GL.nil ?_
            refine K.GQ.go ?_
            refine K.GC.seq ?_
            refine K.GC.seq ?_
            refine K.GC.region ?_
            first | refine K.GL.det (K.e_fa fo49_1 rfl) rfl ?_ | refine K.GL.det (K.e_fieldAddr fo49_1 rfl) rfl ?_
            refine K.GL.det (K.e_load Try.isAgg3 rfl rfl) rfl ?_
            first | refine K.GL.det ((K.e_lt rfl rfl).yes (by first | omega | assumption | decide +kernel)) rfl ?_ | refine K.GL.det ((K.e_lt rfl rfl).no (by first | omega | assumption | decide +kernel)) rfl ?_ | refine K.GL.det (K.e_lt rfl rfl) rfl ?_
            refine K.GL.nil ?_
            refine K.GQ.go ?_
            refine K.GC.condB rfl (fun h5 => ?_) (fun h5 => ?_)
            · first
              | exact absurd h5 (by decide)
              | try replace h5 := of_decide_eq_true h5
                refine K.GC.region ?_
                first | refine K.GL.det (K.e_fa fo49_1 rfl) rfl ?_ | refine K.GL.det (K.e_fieldAddr fo49_1 rfl) rfl ?_
                refine K.GL.store rfl rfl rfl Try.sizeOf3 rfl rfl ?_
                refine K.GL.nil ?_
                refine K.GQ.go ?_
                refine K.GC.seq ?_
                refine K.GC.seq ?_
                refine K.GC.region ?_
                first | refine K.GL.det (K.e_fa fo49_1 rfl) rfl ?_ | refine K.GL.det (K.e_fieldAddr fo49_1 rfl) rfl ?_
                refine K.GL.det (K.e_load Try.isAgg3 rfl rfl) rfl ?_
                first | refine K.GL.det ((K.e_gt rfl rfl).yes (by first | omega | assumption | decide +kernel)) rfl ?_ | refine K.GL.det ((K.e_gt rfl rfl).no (by first | omega | assumption | decide +kernel)) rfl ?_ | refine K.GL.det (K.e_gt rfl rfl) rfl ?_
                refine K.GL.nil ?_
                refine K.GQ.go ?_
                refine K.GC.condB rfl (fun h6 => ?_) (fun h6 => ?_)
                · first
                  | exact absurd h6 (by decide)
                  | try replace h6 := of_decide_eq_true h6
                    refine K.GC.region ?_
                    first | refine K.GL.det (K.e_fa fo49_1 rfl) rfl ?_ | refine K.GL.det (K.e_fieldAddr fo49_1 rfl) rfl ?_
                    refine K.GL.store rfl rfl rfl Try.sizeOf3 rfl rfl ?_
                    refine K.GL.nil ?_
                    refine K.GQ.go ?_
                    refine K.GC.seq ?_
                    refine K.GC.region ?_
                    refine K.GL.det (K.e_move rfl) rfl ?_
                    refine K.GL.det (K.e_move rfl) rfl ?_
                    first | refine K.GL.det (K.e_ldA Try.isAgg49 Try.sizeOf49 rfl rfl (by assumption)) rfl ?_ | refine K.GL.det (K.e_ldAF Try.isAgg49 Try.sizeOf49 rfl rfl (by assumption) rfl) rfl ?_ | refine K.GL.det (K.e_loads Try.isAgg49 Try.sizeOf49 rfl rfl) rfl ?_
                    first
                      | refine K.GL.buildT encHX [⟨wh, wa, wb⟩] mk51 rfl rfl rfl rfl rfl (fun b59 => ?_)
                      | refine K.GL.buildT encHX [⟨wh, 40, wb⟩] mk51 rfl rfl rfl rfl rfl (fun b59 => ?_)
                      | refine K.GL.buildT encHX [⟨wh, 480, wb⟩] mk51 rfl rfl rfl rfl rfl (fun b59 => ?_)
                    refine gl_dboot_con (s := g47.v) (ks := ks) Try.call23 rfl hk47 rfl (by simp only [List.mem_singleton]; rintro _ rfl; exact hwb) (by simp) rfl (fun g60 hk60 hv60 => ?_)
                    refine K.GL.nil ?_
                    refine K.GQ.go ?_
                    refine K.GC.seq ?_
                    obtain ⟨hx, hx1, hx2, hx3, hx4⟩ : ∃ hx : HX, g60.v = g47.v.boot ks [hx] ∧ 40 ≤ hx.at_ ∧ hx.at_ ≤ 480 ∧ hx.bits < 4294967296 := ⟨_, hv60, by (try dsimp only at *); omega, by (try dsimp only at *); omega, hwb⟩
                    obtain ⟨lo, hld, hlc⟩ : ∃ lo, g60.v.load = (lo, true, 0) ∧ (lo = t1 ∨ (((g33.v.setCut ((x % 4 : Nat) : Int)).save t1).2 ≠ 0 ∧ lo = o)) := by
                      rw [hx1, hv47]
                      rcases swaps (t := t1) hdw hlo2 hRo (by unfold upd; rw [if_pos rfl]) (by unfold upd; rw [if_neg (by omega)]) hgt (c := ((x % 4 : Nat) : Int)) (by omega) ks hx2 hx3 hx4 with hz | ⟨hz, hz2⟩
                      · exact ⟨t1, hz, .inl rfl⟩
                      · exact ⟨o, hz2, .inr ⟨hz, rfl⟩⟩
                    have hlol : lo.exts.length ≤ 9223372036854775807 := by
                      rcases hlc with hz | ⟨_, hz⟩
                      · rw [hz]; exact hl1
                      · rw [hz]; exact hlo
                    refine K.GC.region ?_
                    refine K.GL.det (K.e_move rfl) rfl ?_
                    refine gl_load_con (s := g60.v) Try.call17 rfl hk60 rfl rfl (fun a63 c63 => ?_)
                    rw [hld]
                    dsimp only
                    refine K.GL.det (K.e_move rfl) rfl ?_
                    refine K.GL.det (K.e_extract rfl rfl) rfl ?_
                    refine K.GL.det (K.e_extract rfl rfl) rfl ?_
                    refine K.GL.det (K.e_extract rfl rfl) rfl ?_
                    refine K.GL.alloc Try.zeroValue29 rfl rfl (fun b14 => ?_)
                    refine K.GL.storeP (vs := tabC lo a63 c63) (cs' := tabC lo a63 c63) rfl rfl rfl Try.sizeOf29 rfl rfl (by exact spliceO_all rfl) ?_
                    refine K.GL.det (K.e_assign rfl) rfl ?_
                    refine K.GL.det (K.e_assign rfl) rfl ?_
                    refine K.GL.nil ?_
                    refine K.GQ.go ?_
                    refine K.GC.seq ?_
                    refine K.GC.seq ?_
                    refine K.GC.region ?_
                    refine K.GL.det (K.e_move rfl) rfl ?_
                    first | refine K.GL.det (K.e_notp rfl) rfl ?_ | refine K.GL.det (K.e_not rfl) rfl ?_
                    refine K.GL.det (K.e_move rfl) rfl ?_
                    first | refine K.GL.splitB 69 rfl (fun h7 => ?_) (fun h7 => ?_) | skip
                    all_goals first | exact absurd h7 (by decide) | replace h7 := of_decide_eq_true h7 | replace h7 := of_decide_eq_false h7 | skip
                    all_goals
                      first | (refine K.GL.want 69 rfl rfl rfl ?_; first | refine K.GL.det (K.e_move rfl) rfl ?_) | refine K.GL.skip 69 rfl rfl rfl rfl ?_ | refine K.GL.skipU 69 rfl rfl rfl rfl ?_
                      first | (refine K.GL.want 69 rfl rfl rfl ?_; first | refine K.GL.det ((K.e_ne rfl rfl).yes (by first | omega | assumption | decide +kernel)) rfl ?_ | refine K.GL.det ((K.e_ne rfl rfl).no (by first | omega | assumption | decide +kernel)) rfl ?_ | refine K.GL.det (K.e_ne rfl rfl) rfl ?_) | refine K.GL.skip 69 rfl rfl rfl rfl ?_ | refine K.GL.skipU 69 rfl rfl rfl rfl ?_
                      first | refine K.GL.det (K.e_pick_t rfl rfl) rfl ?_ | refine K.GL.det (K.e_pick_f rfl rfl) rfl ?_
                      refine K.GL.nil ?_
                      refine K.GQ.go ?_
                      refine K.GC.condB rfl (fun h8 => ?_) (fun h8 => ?_)
                      · first
                        | exact absurd h8 (by decide)
                        | try replace h8 := of_decide_eq_true h8
                          refine K.GC.seq ?_
                          refine K.GC.region ?_
                          refine K.GL.det (K.e_assign rfl) rfl ?_
                          refine K.GL.nil ?_
                          refine K.GQ.go ?_
                          refine K.GC.ret ?_
                          refine K.GQ.then_ret ?_
                          refine K.GQ.ret1 Try.results6 rfl (fun w hT => ?_)
                          first
                            | exact ⟨rfl, hT.sub K.sb⟩
                            | (have hz : lo = t1 := hlc.resolve_right (fun hh => absurd (by assumption) hh.1)
                               rw [decide_eq_true hz]
                               exact ⟨rfl, hT.sub K.sb⟩)
                            | (have hz : lo = t1 := hlc.resolve_right (fun hh => absurd hh.2 (by assumption))
                               rw [decide_eq_true hz]
                               exact ⟨rfl, hT.sub K.sb⟩)
                            | (have hz : lo = o := by assumption
                               rw [decide_eq_true hz]
                               exact ⟨rfl, hT.sub K.sb⟩)
                      · first
                        | exact absurd h8 (by decide)
                        | try replace h8 := of_decide_eq_false h8
                          refine K.GC.skip ?_
                          refine K.GQ.go ?_
                          refine K.GC.seq ?_
                          refine K.GC.seq ?_
                          refine K.GC.region ?_
                          refine K.GL.det (K.e_move rfl) rfl ?_
                          first | refine K.GL.det ((K.e_eq rfl rfl).yes (by first | omega | assumption | decide +kernel)) rfl ?_ | refine K.GL.det ((K.e_eq rfl rfl).no (by first | omega | assumption | decide +kernel)) rfl ?_ | refine K.GL.det (K.e_eq rfl rfl) rfl ?_
                          refine K.GL.nil ?_
                          refine K.GQ.go ?_
                          refine K.GC.condB rfl (fun h9 => ?_) (fun h9 => ?_)
                          · first
                            | exact absurd h9 (by decide)
                            | try replace h9 := of_decide_eq_true h9
                              refine K.GC.seq ?_
                              refine K.GC.region ?_
                              refine K.GL.det (K.e_move rfl) rfl ?_
                              refine K.GL.det (K.e_move rfl) rfl ?_
                              first | refine K.GL.splitB 76 rfl (fun h10 => ?_) (fun h10 => ?_) | skip
                              all_goals first | exact absurd h10 (by decide) | replace h10 := of_decide_eq_true h10 | replace h10 := of_decide_eq_false h10 | skip
                              all_goals
                                first | (refine K.GL.want 76 rfl rfl rfl ?_; first | refine K.GL.det (K.e_ldA Try.isAgg29 Try.sizeOf29 rfl rfl (by assumption)) rfl ?_ | refine K.GL.det (K.e_ldAF Try.isAgg29 Try.sizeOf29 rfl rfl (by assumption) rfl) rfl ?_ | refine K.GL.det (K.e_loads Try.isAgg29 Try.sizeOf29 rfl rfl) rfl ?_) | refine K.GL.skip 76 rfl rfl rfl rfl ?_ | refine K.GL.skipU 76 rfl rfl rfl rfl ?_
                                first | (refine K.GL.want 76 rfl rfl rfl ?_; first | refine K.GL.det (K.e_ldA Try.isAgg29 Try.sizeOf29 rfl rfl (by assumption)) rfl ?_ | refine K.GL.det (K.e_ldAF Try.isAgg29 Try.sizeOf29 rfl rfl (by assumption) rfl) rfl ?_ | refine K.GL.det (K.e_loads Try.isAgg29 Try.sizeOf29 rfl rfl) rfl ?_) | refine K.GL.skip 76 rfl rfl rfl rfl ?_ | refine K.GL.skipU 76 rfl rfl rfl rfl ?_
                                first | (refine K.GL.want 76 rfl rfl rfl ?_; first | refine K.GL.det (ev_rsame_con (t := lo) (u := t1) Try.call18 rfl (by assumption) (by assumption)) rfl ?_) | refine K.GL.skip 76 rfl rfl rfl rfl ?_ | refine K.GL.skipU 76 rfl rfl rfl rfl ?_
                                first | refine K.GL.det (K.e_pick_t rfl rfl) rfl ?_ | refine K.GL.det (K.e_pick_f rfl rfl) rfl ?_
                                refine K.GL.det (K.e_assign rfl) rfl ?_
                                refine K.GL.nil ?_
                                refine K.GQ.go ?_
                                refine K.GC.ret ?_
                                refine K.GQ.then_ret ?_
                                refine K.GQ.ret1 Try.results6 rfl (fun w hT => ?_)
                                first
                                  | exact ⟨rfl, hT.sub K.sb⟩
                                  | (have hz : lo = t1 := hlc.resolve_right (fun hh => absurd (by assumption) hh.1)
                                     rw [decide_eq_true hz]
                                     exact ⟨rfl, hT.sub K.sb⟩)
                                  | (have hz : lo = t1 := hlc.resolve_right (fun hh => absurd hh.2 (by assumption))
                                     rw [decide_eq_true hz]
                                     exact ⟨rfl, hT.sub K.sb⟩)
                                  | (have hz : lo = o := by assumption
                                     rw [decide_eq_true hz]
                                     exact ⟨rfl, hT.sub K.sb⟩)
                          · first
                            | exact absurd h9 (by decide)
                            | try replace h9 := of_decide_eq_false h9
                              refine K.GC.skip ?_
                              refine K.GQ.go ?_
                              refine K.GC.seq ?_
                              refine K.GC.region ?_
                              refine K.GL.det (K.e_move rfl) rfl ?_
                              refine K.GL.det (K.e_move rfl) rfl ?_
                              first | refine K.GL.splitB 82 rfl (fun h11 => ?_) (fun h11 => ?_) | skip
                              all_goals first | exact absurd h11 (by decide) | replace h11 := of_decide_eq_true h11 | replace h11 := of_decide_eq_false h11 | skip
                              all_goals
                                first | (refine K.GL.want 82 rfl rfl rfl ?_; first | refine K.GL.det (K.e_ldA Try.isAgg29 Try.sizeOf29 rfl rfl (by assumption)) rfl ?_ | refine K.GL.det (K.e_ldAF Try.isAgg29 Try.sizeOf29 rfl rfl (by assumption) rfl) rfl ?_ | refine K.GL.det (K.e_loads Try.isAgg29 Try.sizeOf29 rfl rfl) rfl ?_) | refine K.GL.skip 82 rfl rfl rfl rfl ?_ | refine K.GL.skipU 82 rfl rfl rfl rfl ?_
                                first | (refine K.GL.want 82 rfl rfl rfl ?_; first | refine K.GL.det (K.e_ldA Try.isAgg29 Try.sizeOf29 rfl rfl (by assumption)) rfl ?_ | refine K.GL.det (K.e_ldAF Try.isAgg29 Try.sizeOf29 rfl rfl (by assumption) rfl) rfl ?_ | refine K.GL.det (K.e_loads Try.isAgg29 Try.sizeOf29 rfl rfl) rfl ?_) | refine K.GL.skip 82 rfl rfl rfl rfl ?_ | refine K.GL.skipU 82 rfl rfl rfl rfl ?_
                                first | (refine K.GL.want 82 rfl rfl rfl ?_; first | refine K.GL.det (ev_rsame_con (t := lo) (u := o) Try.call18 rfl (by assumption) (by assumption)) rfl ?_) | refine K.GL.skip 82 rfl rfl rfl rfl ?_ | refine K.GL.skipU 82 rfl rfl rfl rfl ?_
                                first | (refine K.GL.want 82 rfl rfl rfl ?_; first | refine K.GL.det (K.e_move rfl) rfl ?_) | refine K.GL.skip 82 rfl rfl rfl rfl ?_ | refine K.GL.skipU 82 rfl rfl rfl rfl ?_
                                first | refine K.GL.splitB 86 rfl (fun h12 => ?_) (fun h12 => ?_) | skip
                                all_goals first | exact absurd h12 (by decide) | replace h12 := of_decide_eq_true h12 | replace h12 := of_decide_eq_false h12 | skip
                                all_goals
                                  first | (refine K.GL.want 86 rfl rfl rfl ?_; first | refine K.GL.det (K.e_ldA Try.isAgg29 Try.sizeOf29 rfl rfl (by assumption)) rfl ?_ | refine K.GL.det (K.e_ldAF Try.isAgg29 Try.sizeOf29 rfl rfl (by assumption) rfl) rfl ?_ | refine K.GL.det (K.e_loads Try.isAgg29 Try.sizeOf29 rfl rfl) rfl ?_) | refine K.GL.skip 86 rfl rfl rfl rfl ?_ | refine K.GL.skipU 86 rfl rfl rfl rfl ?_
                                  first | (refine K.GL.want 86 rfl rfl rfl ?_; first | refine K.GL.det (K.e_ldA Try.isAgg29 Try.sizeOf29 rfl rfl (by assumption)) rfl ?_ | refine K.GL.det (K.e_ldAF Try.isAgg29 Try.sizeOf29 rfl rfl (by assumption) rfl) rfl ?_ | refine K.GL.det (K.e_loads Try.isAgg29 Try.sizeOf29 rfl rfl) rfl ?_) | refine K.GL.skip 86 rfl rfl rfl rfl ?_ | refine K.GL.skipU 86 rfl rfl rfl rfl ?_
                                  first | (refine K.GL.want 86 rfl rfl rfl ?_; first | refine K.GL.det (ev_rsame_con (t := lo) (u := t1) Try.call18 rfl (by assumption) (by assumption)) rfl ?_) | refine K.GL.skip 86 rfl rfl rfl rfl ?_ | refine K.GL.skipU 86 rfl rfl rfl rfl ?_
                                  first | (refine K.GL.want 82 rfl rfl rfl ?_; first | refine K.GL.det (K.e_pick_t rfl rfl) rfl ?_ | refine K.GL.det (K.e_pick_f rfl rfl) rfl ?_) | refine K.GL.skip 82 rfl rfl rfl rfl ?_ | refine K.GL.skipU 82 rfl rfl rfl rfl ?_
                                  first | refine K.GL.det (K.e_pick_t rfl rfl) rfl ?_ | refine K.GL.det (K.e_pick_f rfl rfl) rfl ?_
                                  refine K.GL.det (K.e_assign rfl) rfl ?_
                                  refine K.GL.nil ?_
                                  refine K.GQ.go ?_
                                  refine K.GC.ret ?_
                                  refine K.GQ.ret1 Try.results6 rfl (fun w hT => ?_)
                                  first
                                    | exact ⟨rfl, hT.sub K.sb⟩
                                    | (have hz : lo = t1 := hlc.resolve_right (fun hh => absurd (by assumption) hh.1)
                                       rw [decide_eq_true hz]
                                       exact ⟨rfl, hT.sub K.sb⟩)
                                    | (have hz : lo = t1 := hlc.resolve_right (fun hh => absurd hh.2 (by assumption))
                                       rw [decide_eq_true hz]
                                       exact ⟨rfl, hT.sub K.sb⟩)
                                    | (have hz : lo = o := by assumption
                                       rw [decide_eq_true hz]
                                       exact ⟨rfl, hT.sub K.sb⟩)
                · first
                  | exact absurd h6 (by decide)
                  | try replace h6 := of_decide_eq_false h6
                    refine K.GC.skip ?_
                    refine K.GQ.go ?_
                    refine K.GC.seq ?_
                    refine K.GC.region ?_
                    refine K.GL.det (K.e_move rfl) rfl ?_
                    refine K.GL.det (K.e_move rfl) rfl ?_
                    first | refine K.GL.det (K.e_ldA Try.isAgg49 Try.sizeOf49 rfl rfl (by assumption)) rfl ?_ | refine K.GL.det (K.e_ldAF Try.isAgg49 Try.sizeOf49 rfl rfl (by assumption) rfl) rfl ?_ | refine K.GL.det (K.e_loads Try.isAgg49 Try.sizeOf49 rfl rfl) rfl ?_
                    first
                      | refine K.GL.buildT encHX [⟨wh, wa, wb⟩] mk51 rfl rfl rfl rfl rfl (fun b59 => ?_)
                      | refine K.GL.buildT encHX [⟨wh, 40, wb⟩] mk51 rfl rfl rfl rfl rfl (fun b59 => ?_)
                      | refine K.GL.buildT encHX [⟨wh, 480, wb⟩] mk51 rfl rfl rfl rfl rfl (fun b59 => ?_)
                    refine gl_dboot_con (s := g47.v) (ks := ks) Try.call23 rfl hk47 rfl (by simp only [List.mem_singleton]; rintro _ rfl; exact hwb) (by simp) rfl (fun g60 hk60 hv60 => ?_)
                    refine K.GL.nil ?_
                    refine K.GQ.go ?_
                    refine K.GC.seq ?_
                    obtain ⟨hx, hx1, hx2, hx3, hx4⟩ : ∃ hx : HX, g60.v = g47.v.boot ks [hx] ∧ 40 ≤ hx.at_ ∧ hx.at_ ≤ 480 ∧ hx.bits < 4294967296 := ⟨_, hv60, by (try dsimp only at *); omega, by (try dsimp only at *); omega, hwb⟩
                    obtain ⟨lo, hld, hlc⟩ : ∃ lo, g60.v.load = (lo, true, 0) ∧ (lo = t1 ∨ (((g33.v.setCut ((x % 4 : Nat) : Int)).save t1).2 ≠ 0 ∧ lo = o)) := by
                      rw [hx1, hv47]
                      rcases swaps (t := t1) hdw hlo2 hRo (by unfold upd; rw [if_pos rfl]) (by unfold upd; rw [if_neg (by omega)]) hgt (c := ((x % 4 : Nat) : Int)) (by omega) ks hx2 hx3 hx4 with hz | ⟨hz, hz2⟩
                      · exact ⟨t1, hz, .inl rfl⟩
                      · exact ⟨o, hz2, .inr ⟨hz, rfl⟩⟩
                    have hlol : lo.exts.length ≤ 9223372036854775807 := by
                      rcases hlc with hz | ⟨_, hz⟩
                      · rw [hz]; exact hl1
                      · rw [hz]; exact hlo
                    refine K.GC.region ?_
                    refine K.GL.det (K.e_move rfl) rfl ?_
                    refine gl_load_con (s := g60.v) Try.call17 rfl hk60 rfl rfl (fun a63 c63 => ?_)
                    rw [hld]
                    dsimp only
                    refine K.GL.det (K.e_move rfl) rfl ?_
                    refine K.GL.det (K.e_extract rfl rfl) rfl ?_
                    refine K.GL.det (K.e_extract rfl rfl) rfl ?_
                    refine K.GL.det (K.e_extract rfl rfl) rfl ?_
                    refine K.GL.alloc Try.zeroValue29 rfl rfl (fun b14 => ?_)
                    refine K.GL.storeP (vs := tabC lo a63 c63) (cs' := tabC lo a63 c63) rfl rfl rfl Try.sizeOf29 rfl rfl (by exact spliceO_all rfl) ?_
                    refine K.GL.det (K.e_assign rfl) rfl ?_
                    refine K.GL.det (K.e_assign rfl) rfl ?_
                    refine K.GL.nil ?_
                    refine K.GQ.go ?_
                    refine K.GC.seq ?_
                    refine K.GC.seq ?_
                    refine K.GC.region ?_
                    refine K.GL.det (K.e_move rfl) rfl ?_
                    first | refine K.GL.det (K.e_notp rfl) rfl ?_ | refine K.GL.det (K.e_not rfl) rfl ?_
                    refine K.GL.det (K.e_move rfl) rfl ?_
                    first | refine K.GL.splitB 69 rfl (fun h13 => ?_) (fun h13 => ?_) | skip
                    all_goals first | exact absurd h13 (by decide) | replace h13 := of_decide_eq_true h13 | replace h13 := of_decide_eq_false h13 | skip
                    all_goals
                      first | (refine K.GL.want 69 rfl rfl rfl ?_; first | refine K.GL.det (K.e_move rfl) rfl ?_) | refine K.GL.skip 69 rfl rfl rfl rfl ?_ | refine K.GL.skipU 69 rfl rfl rfl rfl ?_
                      first | (refine K.GL.want 69 rfl rfl rfl ?_; first | refine K.GL.det ((K.e_ne rfl rfl).yes (by first | omega | assumption | decide +kernel)) rfl ?_ | refine K.GL.det ((K.e_ne rfl rfl).no (by first | omega | assumption | decide +kernel)) rfl ?_ | refine K.GL.det (K.e_ne rfl rfl) rfl ?_) | refine K.GL.skip 69 rfl rfl rfl rfl ?_ | refine K.GL.skipU 69 rfl rfl rfl rfl ?_
                      first | refine K.GL.det (K.e_pick_t rfl rfl) rfl ?_ | refine K.GL.det (K.e_pick_f rfl rfl) rfl ?_
                      refine K.GL.nil ?_
                      refine K.GQ.go ?_
                      refine K.GC.condB rfl (fun h14 => ?_) (fun h14 => ?_)
                      · first
                        | exact absurd h14 (by decide)
                        | try replace h14 := of_decide_eq_true h14
                          refine K.GC.seq ?_
                          refine K.GC.region ?_
                          refine K.GL.det (K.e_assign rfl) rfl ?_
                          refine K.GL.nil ?_
                          refine K.GQ.go ?_
                          refine K.GC.ret ?_
                          refine K.GQ.then_ret ?_
                          refine K.GQ.ret1 Try.results6 rfl (fun w hT => ?_)
                          first
                            | exact ⟨rfl, hT.sub K.sb⟩
                            | (have hz : lo = t1 := hlc.resolve_right (fun hh => absurd (by assumption) hh.1)
                               rw [decide_eq_true hz]
                               exact ⟨rfl, hT.sub K.sb⟩)
                            | (have hz : lo = t1 := hlc.resolve_right (fun hh => absurd hh.2 (by assumption))
                               rw [decide_eq_true hz]
                               exact ⟨rfl, hT.sub K.sb⟩)
                            | (have hz : lo = o := by assumption
                               rw [decide_eq_true hz]
                               exact ⟨rfl, hT.sub K.sb⟩)
                      · first
                        | exact absurd h14 (by decide)
                        | try replace h14 := of_decide_eq_false h14
                          refine K.GC.skip ?_
                          refine K.GQ.go ?_
                          refine K.GC.seq ?_
                          refine K.GC.seq ?_
                          refine K.GC.region ?_
                          refine K.GL.det (K.e_move rfl) rfl ?_
                          first | refine K.GL.det ((K.e_eq rfl rfl).yes (by first | omega | assumption | decide +kernel)) rfl ?_ | refine K.GL.det ((K.e_eq rfl rfl).no (by first | omega | assumption | decide +kernel)) rfl ?_ | refine K.GL.det (K.e_eq rfl rfl) rfl ?_
                          refine K.GL.nil ?_
                          refine K.GQ.go ?_
                          refine K.GC.condB rfl (fun h15 => ?_) (fun h15 => ?_)
                          · first
                            | exact absurd h15 (by decide)
                            | try replace h15 := of_decide_eq_true h15
                              refine K.GC.seq ?_
                              refine K.GC.region ?_
                              refine K.GL.det (K.e_move rfl) rfl ?_
                              refine K.GL.det (K.e_move rfl) rfl ?_
                              first | refine K.GL.splitB 76 rfl (fun h16 => ?_) (fun h16 => ?_) | skip
                              all_goals first | exact absurd h16 (by decide) | replace h16 := of_decide_eq_true h16 | replace h16 := of_decide_eq_false h16 | skip
                              all_goals
                                first | (refine K.GL.want 76 rfl rfl rfl ?_; first | refine K.GL.det (K.e_ldA Try.isAgg29 Try.sizeOf29 rfl rfl (by assumption)) rfl ?_ | refine K.GL.det (K.e_ldAF Try.isAgg29 Try.sizeOf29 rfl rfl (by assumption) rfl) rfl ?_ | refine K.GL.det (K.e_loads Try.isAgg29 Try.sizeOf29 rfl rfl) rfl ?_) | refine K.GL.skip 76 rfl rfl rfl rfl ?_ | refine K.GL.skipU 76 rfl rfl rfl rfl ?_
                                first | (refine K.GL.want 76 rfl rfl rfl ?_; first | refine K.GL.det (K.e_ldA Try.isAgg29 Try.sizeOf29 rfl rfl (by assumption)) rfl ?_ | refine K.GL.det (K.e_ldAF Try.isAgg29 Try.sizeOf29 rfl rfl (by assumption) rfl) rfl ?_ | refine K.GL.det (K.e_loads Try.isAgg29 Try.sizeOf29 rfl rfl) rfl ?_) | refine K.GL.skip 76 rfl rfl rfl rfl ?_ | refine K.GL.skipU 76 rfl rfl rfl rfl ?_
                                first | (refine K.GL.want 76 rfl rfl rfl ?_; first | refine K.GL.det (ev_rsame_con (t := lo) (u := t1) Try.call18 rfl (by assumption) (by assumption)) rfl ?_) | refine K.GL.skip 76 rfl rfl rfl rfl ?_ | refine K.GL.skipU 76 rfl rfl rfl rfl ?_
                                first | refine K.GL.det (K.e_pick_t rfl rfl) rfl ?_ | refine K.GL.det (K.e_pick_f rfl rfl) rfl ?_
                                refine K.GL.det (K.e_assign rfl) rfl ?_
                                refine K.GL.nil ?_
                                refine K.GQ.go ?_
                                refine K.GC.ret ?_
                                refine K.GQ.then_ret ?_
                                refine K.GQ.ret1 Try.results6 rfl (fun w hT => ?_)
                                first
                                  | exact ⟨rfl, hT.sub K.sb⟩
                                  | (have hz : lo = t1 := hlc.resolve_right (fun hh => absurd (by assumption) hh.1)
                                     rw [decide_eq_true hz]
                                     exact ⟨rfl, hT.sub K.sb⟩)
                                  | (have hz : lo = t1 := hlc.resolve_right (fun hh => absurd hh.2 (by assumption))
                                     rw [decide_eq_true hz]
                                     exact ⟨rfl, hT.sub K.sb⟩)
                                  | (have hz : lo = o := by assumption
                                     rw [decide_eq_true hz]
                                     exact ⟨rfl, hT.sub K.sb⟩)
                          · first
                            | exact absurd h15 (by decide)
                            | try replace h15 := of_decide_eq_false h15
                              refine K.GC.skip ?_
                              refine K.GQ.go ?_
                              refine K.GC.seq ?_
                              refine K.GC.region ?_
                              refine K.GL.det (K.e_move rfl) rfl ?_
                              refine K.GL.det (K.e_move rfl) rfl ?_
                              first | refine K.GL.splitB 82 rfl (fun h17 => ?_) (fun h17 => ?_) | skip
                              all_goals first | exact absurd h17 (by decide) | replace h17 := of_decide_eq_true h17 | replace h17 := of_decide_eq_false h17 | skip
                              all_goals
                                first | (refine K.GL.want 82 rfl rfl rfl ?_; first | refine K.GL.det (K.e_ldA Try.isAgg29 Try.sizeOf29 rfl rfl (by assumption)) rfl ?_ | refine K.GL.det (K.e_ldAF Try.isAgg29 Try.sizeOf29 rfl rfl (by assumption) rfl) rfl ?_ | refine K.GL.det (K.e_loads Try.isAgg29 Try.sizeOf29 rfl rfl) rfl ?_) | refine K.GL.skip 82 rfl rfl rfl rfl ?_ | refine K.GL.skipU 82 rfl rfl rfl rfl ?_
                                first | (refine K.GL.want 82 rfl rfl rfl ?_; first | refine K.GL.det (K.e_ldA Try.isAgg29 Try.sizeOf29 rfl rfl (by assumption)) rfl ?_ | refine K.GL.det (K.e_ldAF Try.isAgg29 Try.sizeOf29 rfl rfl (by assumption) rfl) rfl ?_ | refine K.GL.det (K.e_loads Try.isAgg29 Try.sizeOf29 rfl rfl) rfl ?_) | refine K.GL.skip 82 rfl rfl rfl rfl ?_ | refine K.GL.skipU 82 rfl rfl rfl rfl ?_
                                first | (refine K.GL.want 82 rfl rfl rfl ?_; first | refine K.GL.det (ev_rsame_con (t := lo) (u := o) Try.call18 rfl (by assumption) (by assumption)) rfl ?_) | refine K.GL.skip 82 rfl rfl rfl rfl ?_ | refine K.GL.skipU 82 rfl rfl rfl rfl ?_
                                first | (refine K.GL.want 82 rfl rfl rfl ?_; first | refine K.GL.det (K.e_move rfl) rfl ?_) | refine K.GL.skip 82 rfl rfl rfl rfl ?_ | refine K.GL.skipU 82 rfl rfl rfl rfl ?_
                                first | refine K.GL.splitB 86 rfl (fun h18 => ?_) (fun h18 => ?_) | skip
                                all_goals first | exact absurd h18 (by decide) | replace h18 := of_decide_eq_true h18 | replace h18 := of_decide_eq_false h18 | skip
                                all_goals
                                  first | (refine K.GL.want 86 rfl rfl rfl ?_; first | refine K.GL.det (K.e_ldA Try.isAgg29 Try.sizeOf29 rfl rfl (by assumption)) rfl ?_ | refine K.GL.det (K.e_ldAF Try.isAgg29 Try.sizeOf29 rfl rfl (by assumption) rfl) rfl ?_ | refine K.GL.det (K.e_loads Try.isAgg29 Try.sizeOf29 rfl rfl) rfl ?_) | refine K.GL.skip 86 rfl rfl rfl rfl ?_ | refine K.GL.skipU 86 rfl rfl rfl rfl ?_
                                  first | (refine K.GL.want 86 rfl rfl rfl ?_; first | refine K.GL.det (K.e_ldA Try.isAgg29 Try.sizeOf29 rfl rfl (by assumption)) rfl ?_ | refine K.GL.det (K.e_ldAF Try.isAgg29 Try.sizeOf29 rfl rfl (by assumption) rfl) rfl ?_ | refine K.GL.det (K.e_loads Try.isAgg29 Try.sizeOf29 rfl rfl) rfl ?_) | refine K.GL.skip 86 rfl rfl rfl rfl ?_ | refine K.GL.skipU 86 rfl rfl rfl rfl ?_
                                  first | (refine K.GL.want 86 rfl rfl rfl ?_; first | refine K.GL.det (ev_rsame_con (t := lo) (u := t1) Try.call18 rfl (by assumption) (by assumption)) rfl ?_) | refine K.GL.skip 86 rfl rfl rfl rfl ?_ | refine K.GL.skipU 86 rfl rfl rfl rfl ?_
                                  first | (refine K.GL.want 82 rfl rfl rfl ?_; first | refine K.GL.det (K.e_pick_t rfl rfl) rfl ?_ | refine K.GL.det (K.e_pick_f rfl rfl) rfl ?_) | refine K.GL.skip 82 rfl rfl rfl rfl ?_ | refine K.GL.skipU 82 rfl rfl rfl rfl ?_
                                  first | refine K.GL.det (K.e_pick_t rfl rfl) rfl ?_ | refine K.GL.det (K.e_pick_f rfl rfl) rfl ?_
                                  refine K.GL.det (K.e_assign rfl) rfl ?_
                                  refine K.GL.nil ?_
                                  refine K.GQ.go ?_
                                  refine K.GC.ret ?_
                                  refine K.GQ.ret1 Try.results6 rfl (fun w hT => ?_)
                                  first
                                    | exact ⟨rfl, hT.sub K.sb⟩
                                    | (have hz : lo = t1 := hlc.resolve_right (fun hh => absurd (by assumption) hh.1)
                                       rw [decide_eq_true hz]
                                       exact ⟨rfl, hT.sub K.sb⟩)
                                    | (have hz : lo = t1 := hlc.resolve_right (fun hh => absurd hh.2 (by assumption))
                                       rw [decide_eq_true hz]
                                       exact ⟨rfl, hT.sub K.sb⟩)
                                    | (have hz : lo = o := by assumption
                                       rw [decide_eq_true hz]
                                       exact ⟨rfl, hT.sub K.sb⟩)
            · first
              | exact absurd h5 (by decide)
              | try replace h5 := of_decide_eq_false h5
                refine K.GC.skip ?_
                refine K.GQ.go ?_
                refine K.GC.seq ?_
                refine K.GC.seq ?_
                refine K.GC.region ?_
                first | refine K.GL.det (K.e_fa fo49_1 rfl) rfl ?_ | refine K.GL.det (K.e_fieldAddr fo49_1 rfl) rfl ?_
                refine K.GL.det (K.e_load Try.isAgg3 rfl rfl) rfl ?_
                first | refine K.GL.det ((K.e_gt rfl rfl).yes (by first | omega | assumption | decide +kernel)) rfl ?_ | refine K.GL.det ((K.e_gt rfl rfl).no (by first | omega | assumption | decide +kernel)) rfl ?_ | refine K.GL.det (K.e_gt rfl rfl) rfl ?_
                refine K.GL.nil ?_
                refine K.GQ.go ?_
                refine K.GC.condB rfl (fun h19 => ?_) (fun h19 => ?_)
                · first
                  | exact absurd h19 (by decide)
                  | try replace h19 := of_decide_eq_true h19
                    refine K.GC.region ?_
                    first | refine K.GL.det (K.e_fa fo49_1 rfl) rfl ?_ | refine K.GL.det (K.e_fieldAddr fo49_1 rfl) rfl ?_
                    refine K.GL.store rfl rfl rfl Try.sizeOf3 rfl rfl ?_
                    refine K.GL.nil ?_
                    refine K.GQ.go ?_
                    refine K.GC.seq ?_
                    refine K.GC.region ?_
                    refine K.GL.det (K.e_move rfl) rfl ?_
                    refine K.GL.det (K.e_move rfl) rfl ?_
                    first | refine K.GL.det (K.e_ldA Try.isAgg49 Try.sizeOf49 rfl rfl (by assumption)) rfl ?_ | refine K.GL.det (K.e_ldAF Try.isAgg49 Try.sizeOf49 rfl rfl (by assumption) rfl) rfl ?_ | refine K.GL.det (K.e_loads Try.isAgg49 Try.sizeOf49 rfl rfl) rfl ?_
                    first
                      | refine K.GL.buildT encHX [⟨wh, wa, wb⟩] mk51 rfl rfl rfl rfl rfl (fun b59 => ?_)
                      | refine K.GL.buildT encHX [⟨wh, 40, wb⟩] mk51 rfl rfl rfl rfl rfl (fun b59 => ?_)
                      | refine K.GL.buildT encHX [⟨wh, 480, wb⟩] mk51 rfl rfl rfl rfl rfl (fun b59 => ?_)
                    refine gl_dboot_con (s := g47.v) (ks := ks) Try.call23 rfl hk47 rfl (by simp only [List.mem_singleton]; rintro _ rfl; exact hwb) (by simp) rfl (fun g60 hk60 hv60 => ?_)
                    refine K.GL.nil ?_
                    refine K.GQ.go ?_
                    refine K.GC.seq ?_
                    obtain ⟨hx, hx1, hx2, hx3, hx4⟩ : ∃ hx : HX, g60.v = g47.v.boot ks [hx] ∧ 40 ≤ hx.at_ ∧ hx.at_ ≤ 480 ∧ hx.bits < 4294967296 := ⟨_, hv60, by (try dsimp only at *); omega, by (try dsimp only at *); omega, hwb⟩
                    obtain ⟨lo, hld, hlc⟩ : ∃ lo, g60.v.load = (lo, true, 0) ∧ (lo = t1 ∨ (((g33.v.setCut ((x % 4 : Nat) : Int)).save t1).2 ≠ 0 ∧ lo = o)) := by
                      rw [hx1, hv47]
                      rcases swaps (t := t1) hdw hlo2 hRo (by unfold upd; rw [if_pos rfl]) (by unfold upd; rw [if_neg (by omega)]) hgt (c := ((x % 4 : Nat) : Int)) (by omega) ks hx2 hx3 hx4 with hz | ⟨hz, hz2⟩
                      · exact ⟨t1, hz, .inl rfl⟩
                      · exact ⟨o, hz2, .inr ⟨hz, rfl⟩⟩
                    have hlol : lo.exts.length ≤ 9223372036854775807 := by
                      rcases hlc with hz | ⟨_, hz⟩
                      · rw [hz]; exact hl1
                      · rw [hz]; exact hlo
                    refine K.GC.region ?_
                    refine K.GL.det (K.e_move rfl) rfl ?_
                    refine gl_load_con (s := g60.v) Try.call17 rfl hk60 rfl rfl (fun a63 c63 => ?_)
                    rw [hld]
                    dsimp only
                    refine K.GL.det (K.e_move rfl) rfl ?_
                    refine K.GL.det (K.e_extract rfl rfl) rfl ?_
                    refine K.GL.det (K.e_extract rfl rfl) rfl ?_
                    refine K.GL.det (K.e_extract rfl rfl) rfl ?_
                    refine K.GL.alloc Try.zeroValue29 rfl rfl (fun b14 => ?_)
                    refine K.GL.storeP (vs := tabC lo a63 c63) (cs' := tabC lo a63 c63) rfl rfl rfl Try.sizeOf29 rfl rfl (by exact spliceO_all rfl) ?_
                    refine K.GL.det (K.e_assign rfl) rfl ?_
                    refine K.GL.det (K.e_assign rfl) rfl ?_
                    refine K.GL.nil ?_
                    refine K.GQ.go ?_
                    refine K.GC.seq ?_
                    refine K.GC.seq ?_
                    refine K.GC.region ?_
                    refine K.GL.det (K.e_move rfl) rfl ?_
                    first | refine K.GL.det (K.e_notp rfl) rfl ?_ | refine K.GL.det (K.e_not rfl) rfl ?_
                    refine K.GL.det (K.e_move rfl) rfl ?_
                    first | refine K.GL.splitB 69 rfl (fun h20 => ?_) (fun h20 => ?_) | skip
                    all_goals first | exact absurd h20 (by decide) | replace h20 := of_decide_eq_true h20 | replace h20 := of_decide_eq_false h20 | skip
                    all_goals
                      first | (refine K.GL.want 69 rfl rfl rfl ?_; first | refine K.GL.det (K.e_move rfl) rfl ?_) | refine K.GL.skip 69 rfl rfl rfl rfl ?_ | refine K.GL.skipU 69 rfl rfl rfl rfl ?_
                      first | (refine K.GL.want 69 rfl rfl rfl ?_; first | refine K.GL.det ((K.e_ne rfl rfl).yes (by first | omega | assumption | decide +kernel)) rfl ?_ | refine K.GL.det ((K.e_ne rfl rfl).no (by first | omega | assumption | decide +kernel)) rfl ?_ | refine K.GL.det (K.e_ne rfl rfl) rfl ?_) | refine K.GL.skip 69 rfl rfl rfl rfl ?_ | refine K.GL.skipU 69 rfl rfl rfl rfl ?_
                      first | refine K.GL.det (K.e_pick_t rfl rfl) rfl ?_ | refine K.GL.det (K.e_pick_f rfl rfl) rfl ?_
                      refine K.GL.nil ?_
                      refine K.GQ.go ?_
                      refine K.GC.condB rfl (fun h21 => ?_) (fun h21 => ?_)
                      · first
                        | exact absurd h21 (by decide)
                        | try replace h21 := of_decide_eq_true h21
                          refine K.GC.seq ?_
                          refine K.GC.region ?_
                          refine K.GL.det (K.e_assign rfl) rfl ?_
                          refine K.GL.nil ?_
                          refine K.GQ.go ?_
                          refine K.GC.ret ?_
                          refine K.GQ.then_ret ?_
                          refine K.GQ.ret1 Try.results6 rfl (fun w hT => ?_)
                          first
                            | exact ⟨rfl, hT.sub K.sb⟩
                            | (have hz : lo = t1 := hlc.resolve_right (fun hh => absurd (by assumption) hh.1)
                               rw [decide_eq_true hz]
                               exact ⟨rfl, hT.sub K.sb⟩)
                            | (have hz : lo = t1 := hlc.resolve_right (fun hh => absurd hh.2 (by assumption))
                               rw [decide_eq_true hz]
                               exact ⟨rfl, hT.sub K.sb⟩)
                            | (have hz : lo = o := by assumption
                               rw [decide_eq_true hz]
                               exact ⟨rfl, hT.sub K.sb⟩)
                      · first
                        | exact absurd h21 (by decide)
                        | try replace h21 := of_decide_eq_false h21
                          refine K.GC.skip ?_
                          refine K.GQ.go ?_
                          refine K.GC.seq ?_
                          refine K.GC.seq ?_
                          refine K.GC.region ?_
                          refine K.GL.det (K.e_move rfl) rfl ?_
                          first | refine K.GL.det ((K.e_eq rfl rfl).yes (by first | omega | assumption | decide +kernel)) rfl ?_ | refine K.GL.det ((K.e_eq rfl rfl).no (by first | omega | assumption | decide +kernel)) rfl ?_ | refine K.GL.det (K.e_eq rfl rfl) rfl ?_
                          refine K.GL.nil ?_
                          refine K.GQ.go ?_
                          refine K.GC.condB rfl (fun h22 => ?_) (fun h22 => ?_)
                          · first
                            | exact absurd h22 (by decide)
                            | try replace h22 := of_decide_eq_true h22
                              refine K.GC.seq ?_
                              refine K.GC.region ?_
                              refine K.GL.det (K.e_move rfl) rfl ?_
                              refine K.GL.det (K.e_move rfl) rfl ?_
                              first | refine K.GL.splitB 76 rfl (fun h23 => ?_) (fun h23 => ?_) | skip
                              all_goals first | exact absurd h23 (by decide) | replace h23 := of_decide_eq_true h23 | replace h23 := of_decide_eq_false h23 | skip
                              all_goals
                                first | (refine K.GL.want 76 rfl rfl rfl ?_; first | refine K.GL.det (K.e_ldA Try.isAgg29 Try.sizeOf29 rfl rfl (by assumption)) rfl ?_ | refine K.GL.det (K.e_ldAF Try.isAgg29 Try.sizeOf29 rfl rfl (by assumption) rfl) rfl ?_ | refine K.GL.det (K.e_loads Try.isAgg29 Try.sizeOf29 rfl rfl) rfl ?_) | refine K.GL.skip 76 rfl rfl rfl rfl ?_ | refine K.GL.skipU 76 rfl rfl rfl rfl ?_
                                first | (refine K.GL.want 76 rfl rfl rfl ?_; first | refine K.GL.det (K.e_ldA Try.isAgg29 Try.sizeOf29 rfl rfl (by assumption)) rfl ?_ | refine K.GL.det (K.e_ldAF Try.isAgg29 Try.sizeOf29 rfl rfl (by assumption) rfl) rfl ?_ | refine K.GL.det (K.e_loads Try.isAgg29 Try.sizeOf29 rfl rfl) rfl ?_) | refine K.GL.skip 76 rfl rfl rfl rfl ?_ | refine K.GL.skipU 76 rfl rfl rfl rfl ?_
                                first | (refine K.GL.want 76 rfl rfl rfl ?_; first | refine K.GL.det (ev_rsame_con (t := lo) (u := t1) Try.call18 rfl (by assumption) (by assumption)) rfl ?_) | refine K.GL.skip 76 rfl rfl rfl rfl ?_ | refine K.GL.skipU 76 rfl rfl rfl rfl ?_
                                first | refine K.GL.det (K.e_pick_t rfl rfl) rfl ?_ | refine K.GL.det (K.e_pick_f rfl rfl) rfl ?_
                                refine K.GL.det (K.e_assign rfl) rfl ?_
                                refine K.GL.nil ?_
                                refine K.GQ.go ?_
                                refine K.GC.ret ?_
                                refine K.GQ.then_ret ?_
                                refine K.GQ.ret1 Try.results6 rfl (fun w hT => ?_)
                                first
                                  | exact ⟨rfl, hT.sub K.sb⟩
                                  | (have hz : lo = t1 := hlc.resolve_right (fun hh => absurd (by assumption) hh.1)
                                     rw [decide_eq_true hz]
                                     exact ⟨rfl, hT.sub K.sb⟩)
                                  | (have hz : lo = t1 := hlc.resolve_right (fun hh => absurd hh.2 (by assumption))
                                     rw [decide_eq_true hz]
                                     exact ⟨rfl, hT.sub K.sb⟩)
                                  | (have hz : lo = o := by assumption
                                     rw [decide_eq_true hz]
                                     exact ⟨rfl, hT.sub K.sb⟩)
                          · first
                            | exact absurd h22 (by decide)
                            | try replace h22 := of_decide_eq_false h22
                              refine K.GC.skip ?_
                              refine K.GQ.go ?_
                              refine K.GC.seq ?_
                              refine K.GC.region ?_
                              refine K.GL.det (K.e_move rfl) rfl ?_
                              refine K.GL.det (K.e_move rfl) rfl ?_
                              first | refine K.GL.splitB 82 rfl (fun h24 => ?_) (fun h24 => ?_) | skip
                              all_goals first | exact absurd h24 (by decide) | replace h24 := of_decide_eq_true h24 | replace h24 := of_decide_eq_false h24 | skip
                              all_goals
                                first | (refine K.GL.want 82 rfl rfl rfl ?_; first | refine K.GL.det (K.e_ldA Try.isAgg29 Try.sizeOf29 rfl rfl (by assumption)) rfl ?_ | refine K.GL.det (K.e_ldAF Try.isAgg29 Try.sizeOf29 rfl rfl (by assumption) rfl) rfl ?_ | refine K.GL.det (K.e_loads Try.isAgg29 Try.sizeOf29 rfl rfl) rfl ?_) | refine K.GL.skip 82 rfl rfl rfl rfl ?_ | refine K.GL.skipU 82 rfl rfl rfl rfl ?_
                                first | (refine K.GL.want 82 rfl rfl rfl ?_; first | refine K.GL.det (K.e_ldA Try.isAgg29 Try.sizeOf29 rfl rfl (by assumption)) rfl ?_ | refine K.GL.det (K.e_ldAF Try.isAgg29 Try.sizeOf29 rfl rfl (by assumption) rfl) rfl ?_ | refine K.GL.det (K.e_loads Try.isAgg29 Try.sizeOf29 rfl rfl) rfl ?_) | refine K.GL.skip 82 rfl rfl rfl rfl ?_ | refine K.GL.skipU 82 rfl rfl rfl rfl ?_
                                first | (refine K.GL.want 82 rfl rfl rfl ?_; first | refine K.GL.det (ev_rsame_con (t := lo) (u := o) Try.call18 rfl (by assumption) (by assumption)) rfl ?_) | refine K.GL.skip 82 rfl rfl rfl rfl ?_ | refine K.GL.skipU 82 rfl rfl rfl rfl ?_
                                first | (refine K.GL.want 82 rfl rfl rfl ?_; first | refine K.GL.det (K.e_move rfl) rfl ?_) | refine K.GL.skip 82 rfl rfl rfl rfl ?_ | refine K.GL.skipU 82 rfl rfl rfl rfl ?_
                                first | refine K.GL.splitB 86 rfl (fun h25 => ?_) (fun h25 => ?_) | skip
                                all_goals first | exact absurd h25 (by decide) | replace h25 := of_decide_eq_true h25 | replace h25 := of_decide_eq_false h25 | skip
                                all_goals
                                  first | (refine K.GL.want 86 rfl rfl rfl ?_; first | refine K.GL.det (K.e_ldA Try.isAgg29 Try.sizeOf29 rfl rfl (by assumption)) rfl ?_ | refine K.GL.det (K.e_ldAF Try.isAgg29 Try.sizeOf29 rfl rfl (by assumption) rfl) rfl ?_ | refine K.GL.det (K.e_loads Try.isAgg29 Try.sizeOf29 rfl rfl) rfl ?_) | refine K.GL.skip 86 rfl rfl rfl rfl ?_ | refine K.GL.skipU 86 rfl rfl rfl rfl ?_
                                  first | (refine K.GL.want 86 rfl rfl rfl ?_; first | refine K.GL.det (K.e_ldA Try.isAgg29 Try.sizeOf29 rfl rfl (by assumption)) rfl ?_ | refine K.GL.det (K.e_ldAF Try.isAgg29 Try.sizeOf29 rfl rfl (by assumption) rfl) rfl ?_ | refine K.GL.det (K.e_loads Try.isAgg29 Try.sizeOf29 rfl rfl) rfl ?_) | refine K.GL.skip 86 rfl rfl rfl rfl ?_ | refine K.GL.skipU 86 rfl rfl rfl rfl ?_
                                  first | (refine K.GL.want 86 rfl rfl rfl ?_; first | refine K.GL.det (ev_rsame_con (t := lo) (u := t1) Try.call18 rfl (by assumption) (by assumption)) rfl ?_) | refine K.GL.skip 86 rfl rfl rfl rfl ?_ | refine K.GL.skipU 86 rfl rfl rfl rfl ?_
                                  first | (refine K.GL.want 82 rfl rfl rfl ?_; first | refine K.GL.det (K.e_pick_t rfl rfl) rfl ?_ | refine K.GL.det (K.e_pick_f rfl rfl) rfl ?_) | refine K.GL.skip 82 rfl rfl rfl rfl ?_ | refine K.GL.skipU 82 rfl rfl rfl rfl ?_
                                  first | refine K.GL.det (K.e_pick_t rfl rfl) rfl ?_ | refine K.GL.det (K.e_pick_f rfl rfl) rfl ?_
                                  refine K.GL.det (K.e_assign rfl) rfl ?_
                                  refine K.GL.nil ?_
                                  refine K.GQ.go ?_
                                  refine K.GC.ret ?_
                                  refine K.GQ.ret1 Try.results6 rfl (fun w hT => ?_)
                                  first
                                    | exact ⟨rfl, hT.sub K.sb⟩
                                    | (have hz : lo = t1 := hlc.resolve_right (fun hh => absurd (by assumption) hh.1)
                                       rw [decide_eq_true hz]
                                       exact ⟨rfl, hT.sub K.sb⟩)
                                    | (have hz : lo = t1 := hlc.resolve_right (fun hh => absurd hh.2 (by assumption))
                                       rw [decide_eq_true hz]
                                       exact ⟨rfl, hT.sub K.sb⟩)
                                    | (have hz : lo = o := by assumption
                                       rw [decide_eq_true hz]
                                       exact ⟨rfl, hT.sub K.sb⟩)
                · first
                  | exact absurd h19 (by decide)
                  | try replace h19 := of_decide_eq_false h19
                    refine K.GC.skip ?_
                    refine K.GQ.go ?_
                    refine K.GC.seq ?_
                    refine K.GC.region ?_
                    refine K.GL.det (K.e_move rfl) rfl ?_
                    refine K.GL.det (K.e_move rfl) rfl ?_
                    first | refine K.GL.det (K.e_ldA Try.isAgg49 Try.sizeOf49 rfl rfl (by assumption)) rfl ?_ | refine K.GL.det (K.e_ldAF Try.isAgg49 Try.sizeOf49 rfl rfl (by assumption) rfl) rfl ?_ | refine K.GL.det (K.e_loads Try.isAgg49 Try.sizeOf49 rfl rfl) rfl ?_
                    first
                      | refine K.GL.buildT encHX [⟨wh, wa, wb⟩] mk51 rfl rfl rfl rfl rfl (fun b59 => ?_)
                      | refine K.GL.buildT encHX [⟨wh, 40, wb⟩] mk51 rfl rfl rfl rfl rfl (fun b59 => ?_)
                      | refine K.GL.buildT encHX [⟨wh, 480, wb⟩] mk51 rfl rfl rfl rfl rfl (fun b59 => ?_)
                    refine gl_dboot_con (s := g47.v) (ks := ks) Try.call23 rfl hk47 rfl (by simp only [List.mem_singleton]; rintro _ rfl; exact hwb) (by simp) rfl (fun g60 hk60 hv60 => ?_)
                    refine K.GL.nil ?_
                    refine K.GQ.go ?_
                    refine K.GC.seq ?_
                    obtain ⟨hx, hx1, hx2, hx3, hx4⟩ : ∃ hx : HX, g60.v = g47.v.boot ks [hx] ∧ 40 ≤ hx.at_ ∧ hx.at_ ≤ 480 ∧ hx.bits < 4294967296 := ⟨_, hv60, by (try dsimp only at *); omega, by (try dsimp only at *); omega, hwb⟩
                    obtain ⟨lo, hld, hlc⟩ : ∃ lo, g60.v.load = (lo, true, 0) ∧ (lo = t1 ∨ (((g33.v.setCut ((x % 4 : Nat) : Int)).save t1).2 ≠ 0 ∧ lo = o)) := by
                      rw [hx1, hv47]
                      rcases swaps (t := t1) hdw hlo2 hRo (by unfold upd; rw [if_pos rfl]) (by unfold upd; rw [if_neg (by omega)]) hgt (c := ((x % 4 : Nat) : Int)) (by omega) ks hx2 hx3 hx4 with hz | ⟨hz, hz2⟩
                      · exact ⟨t1, hz, .inl rfl⟩
                      · exact ⟨o, hz2, .inr ⟨hz, rfl⟩⟩
                    have hlol : lo.exts.length ≤ 9223372036854775807 := by
                      rcases hlc with hz | ⟨_, hz⟩
                      · rw [hz]; exact hl1
                      · rw [hz]; exact hlo
                    refine K.GC.region ?_
                    refine K.GL.det (K.e_move rfl) rfl ?_
                    refine gl_load_con (s := g60.v) Try.call17 rfl hk60 rfl rfl (fun a63 c63 => ?_)
                    rw [hld]
                    dsimp only
                    refine K.GL.det (K.e_move rfl) rfl ?_
                    refine K.GL.det (K.e_extract rfl rfl) rfl ?_
                    refine K.GL.det (K.e_extract rfl rfl) rfl ?_
                    refine K.GL.det (K.e_extract rfl rfl) rfl ?_
                    refine K.GL.alloc Try.zeroValue29 rfl rfl (fun b14 => ?_)
                    refine K.GL.storeP (vs := tabC lo a63 c63) (cs' := tabC lo a63 c63) rfl rfl rfl Try.sizeOf29 rfl rfl (by exact spliceO_all rfl) ?_
                    refine K.GL.det (K.e_assign rfl) rfl ?_
                    refine K.GL.det (K.e_assign rfl) rfl ?_
                    refine K.GL.nil ?_
                    refine K.GQ.go ?_
                    refine K.GC.seq ?_
                    refine K.GC.seq ?_
                    refine K.GC.region ?_
                    refine K.GL.det (K.e_move rfl) rfl ?_
                    first | refine K.GL.det (K.e_notp rfl) rfl ?_ | refine K.GL.det (K.e_not rfl) rfl ?_
                    refine K.GL.det (K.e_move rfl) rfl ?_
                    first | refine K.GL.splitB 69 rfl (fun h26 => ?_) (fun h26 => ?_) | skip
                    all_goals first | exact absurd h26 (by decide) | replace h26 := of_decide_eq_true h26 | replace h26 := of_decide_eq_false h26 | skip
                    all_goals
                      first | (refine K.GL.want 69 rfl rfl rfl ?_; first | refine K.GL.det (K.e_move rfl) rfl ?_) | refine K.GL.skip 69 rfl rfl rfl rfl ?_ | refine K.GL.skipU 69 rfl rfl rfl rfl ?_
                      first | (refine K.GL.want 69 rfl rfl rfl ?_; first | refine K.GL.det ((K.e_ne rfl rfl).yes (by first | omega | assumption | decide +kernel)) rfl ?_ | refine K.GL.det ((K.e_ne rfl rfl).no (by first | omega | assumption | decide +kernel)) rfl ?_ | refine K.GL.det (K.e_ne rfl rfl) rfl ?_) | refine K.GL.skip 69 rfl rfl rfl rfl ?_ | refine K.GL.skipU 69 rfl rfl rfl rfl ?_
                      first | refine K.GL.det (K.e_pick_t rfl rfl) rfl ?_ | refine K.GL.det (K.e_pick_f rfl rfl) rfl ?_
                      refine K.GL.nil ?_
                      refine K.GQ.go ?_
                      refine K.GC.condB rfl (fun h27 => ?_) (fun h27 => ?_)
                      · first
                        | exact absurd h27 (by decide)
                        | try replace h27 := of_decide_eq_true h27
                          refine K.GC.seq ?_
                          refine K.GC.region ?_
                          refine K.GL.det (K.e_assign rfl) rfl ?_
                          refine K.GL.nil ?_
                          refine K.GQ.go ?_
                          refine K.GC.ret ?_
                          refine K.GQ.then_ret ?_
                          refine K.GQ.ret1 Try.results6 rfl (fun w hT => ?_)
                          first
                            | exact ⟨rfl, hT.sub K.sb⟩
                            | (have hz : lo = t1 := hlc.resolve_right (fun hh => absurd (by assumption) hh.1)
                               rw [decide_eq_true hz]
                               exact ⟨rfl, hT.sub K.sb⟩)
                            | (have hz : lo = t1 := hlc.resolve_right (fun hh => absurd hh.2 (by assumption))
                               rw [decide_eq_true hz]
                               exact ⟨rfl, hT.sub K.sb⟩)
                            | (have hz : lo = o := by assumption
                               rw [decide_eq_true hz]
                               exact ⟨rfl, hT.sub K.sb⟩)
                      · first
                        | exact absurd h27 (by decide)
                        | try replace h27 := of_decide_eq_false h27
                          refine K.GC.skip ?_
                          refine K.GQ.go ?_
                          refine K.GC.seq ?_
                          refine K.GC.seq ?_
                          refine K.GC.region ?_
                          refine K.GL.det (K.e_move rfl) rfl ?_
                          first | refine K.GL.det ((K.e_eq rfl rfl).yes (by first | omega | assumption | decide +kernel)) rfl ?_ | refine K.GL.det ((K.e_eq rfl rfl).no (by first | omega | assumption | decide +kernel)) rfl ?_ | refine K.GL.det (K.e_eq rfl rfl) rfl ?_
                          refine K.GL.nil ?_
                          refine K.GQ.go ?_
                          refine K.GC.condB rfl (fun h28 => ?_) (fun h28 => ?_)
                          · first
                            | exact absurd h28 (by decide)
                            | try replace h28 := of_decide_eq_true h28
                              refine K.GC.seq ?_
                              refine K.GC.region ?_
                              refine K.GL.det (K.e_move rfl) rfl ?_
                              refine K.GL.det (K.e_move rfl) rfl ?_
                              first | refine K.GL.splitB 76 rfl (fun h29 => ?_) (fun h29 => ?_) | skip
                              all_goals first | exact absurd h29 (by decide) | replace h29 := of_decide_eq_true h29 | replace h29 := of_decide_eq_false h29 | skip
                              all_goals
                                first | (refine K.GL.want 76 rfl rfl rfl ?_; first | refine K.GL.det (K.e_ldA Try.isAgg29 Try.sizeOf29 rfl rfl (by assumption)) rfl ?_ | refine K.GL.det (K.e_ldAF Try.isAgg29 Try.sizeOf29 rfl rfl (by assumption) rfl) rfl ?_ | refine K.GL.det (K.e_loads Try.isAgg29 Try.sizeOf29 rfl rfl) rfl ?_) | refine K.GL.skip 76 rfl rfl rfl rfl ?_ | refine K.GL.skipU 76 rfl rfl rfl rfl ?_
                                first | (refine K.GL.want 76 rfl rfl rfl ?_; first | refine K.GL.det (K.e_ldA Try.isAgg29 Try.sizeOf29 rfl rfl (by assumption)) rfl ?_ | refine K.GL.det (K.e_ldAF Try.isAgg29 Try.sizeOf29 rfl rfl (by assumption) rfl) rfl ?_ | refine K.GL.det (K.e_loads Try.isAgg29 Try.sizeOf29 rfl rfl) rfl ?_) | refine K.GL.skip 76 rfl rfl rfl rfl ?_ | refine K.GL.skipU 76 rfl rfl rfl rfl ?_
                                first | (refine K.GL.want 76 rfl rfl rfl ?_; first | refine K.GL.det (ev_rsame_con (t := lo) (u := t1) Try.call18 rfl (by assumption) (by assumption)) rfl ?_) | refine K.GL.skip 76 rfl rfl rfl rfl ?_ | refine K.GL.skipU 76 rfl rfl rfl rfl ?_
                                first | refine K.GL.det (K.e_pick_t rfl rfl) rfl ?_ | refine K.GL.det (K.e_pick_f rfl rfl) rfl ?_
                                refine K.GL.det (K.e_assign rfl) rfl ?_
                                refine K.GL.nil ?_
                                refine K.GQ.go ?_
                                refine K.GC.ret ?_
                                refine K.GQ.then_ret ?_
                                refine K.GQ.ret1 Try.results6 rfl (fun w hT => ?_)
                                first
                                  | exact ⟨rfl, hT.sub K.sb⟩
                                  | (have hz : lo = t1 := hlc.resolve_right (fun hh => absurd (by assumption) hh.1)
                                     rw [decide_eq_true hz]
                                     exact ⟨rfl, hT.sub K.sb⟩)
                                  | (have hz : lo = t1 := hlc.resolve_right (fun hh => absurd hh.2 (by assumption))
                                     rw [decide_eq_true hz]
                                     exact ⟨rfl, hT.sub K.sb⟩)
                                  | (have hz : lo = o := by assumption
                                     rw [decide_eq_true hz]
                                     exact ⟨rfl, hT.sub K.sb⟩)
                          · first
                            | exact absurd h28 (by decide)
                            | try replace h28 := of_decide_eq_false h28
                              refine K.GC.skip ?_
                              refine K.GQ.go ?_
                              refine K.GC.seq ?_
                              refine K.GC.region ?_
                              refine K.GL.det (K.e_move rfl) rfl ?_
                              refine K.GL.det (K.e_move rfl) rfl ?_
                              first | refine K.GL.splitB 82 rfl (fun h30 => ?_) (fun h30 => ?_) | skip
                              all_goals first | exact absurd h30 (by decide) | replace h30 := of_decide_eq_true h30 | replace h30 := of_decide_eq_false h30 | skip
                              all_goals
                                first | (refine K.GL.want 82 rfl rfl rfl ?_; first | refine K.GL.det (K.e_ldA Try.isAgg29 Try.sizeOf29 rfl rfl (by assumption)) rfl ?_ | refine K.GL.det (K.e_ldAF Try.isAgg29 Try.sizeOf29 rfl rfl (by assumption) rfl) rfl ?_ | refine K.GL.det (K.e_loads Try.isAgg29 Try.sizeOf29 rfl rfl) rfl ?_) | refine K.GL.skip 82 rfl rfl rfl rfl ?_ | refine K.GL.skipU 82 rfl rfl rfl rfl ?_
                                first | (refine K.GL.want 82 rfl rfl rfl ?_; first | refine K.GL.det (K.e_ldA Try.isAgg29 Try.sizeOf29 rfl rfl (by assumption)) rfl ?_ | refine K.GL.det (K.e_ldAF Try.isAgg29 Try.sizeOf29 rfl rfl (by assumption) rfl) rfl ?_ | refine K.GL.det (K.e_loads Try.isAgg29 Try.sizeOf29 rfl rfl) rfl ?_) | refine K.GL.skip 82 rfl rfl rfl rfl ?_ | refine K.GL.skipU 82 rfl rfl rfl rfl ?_
                                first | (refine K.GL.want 82 rfl rfl rfl ?_; first | refine K.GL.det (ev_rsame_con (t := lo) (u := o) Try.call18 rfl (by assumption) (by assumption)) rfl ?_) | refine K.GL.skip 82 rfl rfl rfl rfl ?_ | refine K.GL.skipU 82 rfl rfl rfl rfl ?_
                                first | (refine K.GL.want 82 rfl rfl rfl ?_; first | refine K.GL.det (K.e_move rfl) rfl ?_) | refine K.GL.skip 82 rfl rfl rfl rfl ?_ | refine K.GL.skipU 82 rfl rfl rfl rfl ?_
                                first | refine K.GL.splitB 86 rfl (fun h31 => ?_) (fun h31 => ?_) | skip
                                all_goals first | exact absurd h31 (by decide) | replace h31 := of_decide_eq_true h31 | replace h31 := of_decide_eq_false h31 | skip
                                all_goals
                                  first | (refine K.GL.want 86 rfl rfl rfl ?_; first | refine K.GL.det (K.e_ldA Try.isAgg29 Try.sizeOf29 rfl rfl (by assumption)) rfl ?_ | refine K.GL.det (K.e_ldAF Try.isAgg29 Try.sizeOf29 rfl rfl (by assumption) rfl) rfl ?_ | refine K.GL.det (K.e_loads Try.isAgg29 Try.sizeOf29 rfl rfl) rfl ?_) | refine K.GL.skip 86 rfl rfl rfl rfl ?_ | refine K.GL.skipU 86 rfl rfl rfl rfl ?_
                                  first | (refine K.GL.want 86 rfl rfl rfl ?_; first | refine K.GL.det (K.e_ldA Try.isAgg29 Try.sizeOf29 rfl rfl (by assumption)) rfl ?_ | refine K.GL.det (K.e_ldAF Try.isAgg29 Try.sizeOf29 rfl rfl (by assumption) rfl) rfl ?_ | refine K.GL.det (K.e_loads Try.isAgg29 Try.sizeOf29 rfl rfl) rfl ?_) | refine K.GL.skip 86 rfl rfl rfl rfl ?_ | refine K.GL.skipU 86 rfl rfl rfl rfl ?_
                                  first | (refine K.GL.want 86 rfl rfl rfl ?_; first | refine K.GL.det (ev_rsame_con (t := lo) (u := t1) Try.call18 rfl (by assumption) (by assumption)) rfl ?_) | refine K.GL.skip 86 rfl rfl rfl rfl ?_ | refine K.GL.skipU 86 rfl rfl rfl rfl ?_
                                  first | (refine K.GL.want 82 rfl rfl rfl ?_; first | refine K.GL.det (K.e_pick_t rfl rfl) rfl ?_ | refine K.GL.det (K.e_pick_f rfl rfl) rfl ?_) | refine K.GL.skip 82 rfl rfl rfl rfl ?_ | refine K.GL.skipU 82 rfl rfl rfl rfl ?_
                                  first | refine K.GL.det (K.e_pick_t rfl rfl) rfl ?_ | refine K.GL.det (K.e_pick_f rfl rfl) rfl ?_
                                  refine K.GL.det (K.e_assign rfl) rfl ?_
                                  refine K.GL.nil ?_
                                  refine K.GQ.go ?_
                                  refine K.GC.ret ?_
                                  refine K.GQ.ret1 Try.results6 rfl (fun w hT => ?_)
                                  first
                                    | exact ⟨rfl, hT.sub K.sb⟩
                                    | (have hz : lo = t1 := hlc.resolve_right (fun hh => absurd (by assumption) hh.1)
                                       rw [decide_eq_true hz]
                                       exact ⟨rfl, hT.sub K.sb⟩)
                                    | (have hz : lo = t1 := hlc.resolve_right (fun hh => absurd hh.2 (by assumption))
                                       rw [decide_eq_true hz]
                                       exact ⟨rfl, hT.sub K.sb⟩)
                                    | (have hz : lo = o := by assumption
                                       rw [decide_eq_true hz]
                                       exact ⟨rfl, hT.sub K.sb⟩)
section
variable {H : Type} {enc : TypeId × Value → H} {w : World} {held : Bool}
theorem open_hurt (n : Nat) (cs : List Value) (x : DataW H × List MemPlace) (h : DataW.trod enc Try.prog w 0 (fun _ => true) held n 49 cs = some x) : ∃ x : HX, cs = encH x ∧ x.bits < 4294967296 := by
  obtain ⟨xs, m, _, rfl, hl, hlen, hf⟩ := DataW.trod_struct Try.underlying49 h
  have hc : Try.prog.cellsOf 49 = 3 := by kernel_rfl
  rw [hc] at hl
  obtain ⟨c0, c1, c2, rfl⟩ := list3 hl
  obtain ⟨x0, x1, x2, rfl⟩ := list3 (hlen.trans rfl)
  have z3 : Try.prog.cellsOf 3 = 1 := by kernel_rfl
  have h0 : DataW.trod enc Try.prog w 0 (fun _ => true) held m 3 [c0] = some x0 := by
    have h : DataW.trod enc Try.prog w 0 (fun _ => true) held m 3 (List.take (Try.prog.cellsOf 3) (List.drop 0 [c0, c1, c2])) = some x0 := hf 0 _ rfl
    rw [z3] at h
    exact h
  have h1 : DataW.trod enc Try.prog w 0 (fun _ => true) held m 3 [c1] = some x1 := by
    have h : DataW.trod enc Try.prog w 0 (fun _ => true) held m 3 (List.take (Try.prog.cellsOf 3) (List.drop 1 [c0, c1, c2])) = some x1 := hf 1 _ rfl
    rw [z3] at h
    exact h
  have z47 : Try.prog.cellsOf 47 = 1 := by kernel_rfl
  have h2 : DataW.trod enc Try.prog w 0 (fun _ => true) held m 47 [c2] = some x2 := by
    have h : DataW.trod enc Try.prog w 0 (fun _ => true) held m 47 (List.take (Try.prog.cellsOf 47) (List.drop 2 [c0, c1, c2])) = some x2 := hf 2 _ rfl
    rw [z47] at h
    exact h
  obtain ⟨v0, e0, _, w0⟩ := DataW.trod_int Try.underlying3 h0
  simp only [List.cons.injEq, and_true] at e0
  subst e0
  obtain ⟨v1, e1, _, w1⟩ := DataW.trod_int Try.underlying3 h1
  simp only [List.cons.injEq, and_true] at e1
  subst e1
  obtain ⟨v2, e2, _, w2⟩ := DataW.trod_int Try.underlying47 h2
  simp only [List.cons.injEq, and_true] at e2
  subst e2
  have hb2 := bounds_u32 w2
  obtain ⟨n2, rfl⟩ := Int.eq_ofNat_of_zero_le hb2.1
  exact ⟨⟨v0, v1, n2⟩, rfl, by show n2 < _; omega⟩
end

set_option maxHeartbeats 1000000 in
set_option maxRecDepth 100000 in
theorem SuperSwaps_lifted (os : Os) (started : os.Started) (H : Type) (enc : TypeId × Value → H) :
    ReturnsInHanded {} Try.checked os 6 .any (Rows.superSwapsSpec.pre6 enc Try.prog Try.f6 Rows.superSwapsRow.domain false) (Rows.superSwapsSpec.post enc Try.prog Try.f6 false true false false) := by
  refine returnsInHanded_of_change_sized (C := Try.checked) own started (by kernel_rfl) Try.func6
    (ChangeSpec.witness6 (enc := enc) (C := Try.checked) false ⟨#[], #[.agg #[.int .i64 0, .int .i64 0, .slice none 0 0], .agg #[.int .i64 0, .int .i64 0, .slice none 0 0], .int .u8 0, .slice none 0 0, .agg #[.int .i64 0, .int .i64 0, .int .u32 0]], []⟩ 8 (by kernel_rfl) (by kernel_rfl) (by kernel_rfl) (by kernel_rfl)) ?_
  intro W base args ds gs before hval0 hW _ hsz0 _
  have hval : ∀ (j : Nat) t v, Try.f6.params[j]? = some t → args[j]? = some v → Value.okWide Try.prog W .any base t v := hval0
  have hsz : (DataW.weightsEach Try.prog (Try.f6.params.toList ++ []) (ds ++ gs)).all (· ≤ reachBytes) = true := hsz0
  have hW' := hW
  obtain ⟨p, q, hA0, hV, hpe, hfz, hnd⟩ := hW
  have hA : DataW.TrodAll enc Try.prog W 0 (fun _ => true) true Try.f6.params.toList args.toList ds p := hA0
  obtain ⟨rfl, rfl⟩ := trodVars_none hV
  rw [Try.params6] at hA hval hsz
  obtain ⟨v0, vs0, d0, ds0, p0, q0, hargs, rfl, rfl, h0, r0⟩ := trodAll_cons hA
  obtain ⟨v1, vs1, d1, ds1, p1, q1, rfl, rfl, rfl, h1, r1⟩ := trodAll_cons r0
  obtain ⟨v2, vs2, d2, ds2, p2, q2, rfl, rfl, rfl, h2, r2⟩ := trodAll_cons r1
  obtain ⟨v3, vs3, d3, ds3, p3, q3, rfl, rfl, rfl, h3, r3⟩ := trodAll_cons r2
  obtain ⟨v4, vs4, d4, ds4, p4, q4, rfl, rfl, rfl, h4, r4⟩ := trodAll_cons r3
  obtain ⟨rfl, rfl, rfl⟩ := trodAll_nil r4
  obtain rfl : args = #[v0, v1, v2, v3, v4] := by cases args; simp_all
  clear hA0 hval0 hsz0 hA hargs
  obtain ⟨csy, rfl, _⟩ := okWide_struct Try.underlying29 (hval 0 29 _ rfl rfl)
  obtain ⟨fuely, hfy⟩ := h0
  obtain ⟨ty, ay, cy, hcsy, hny, hcy, hoy⟩ := open_tab _ _ _ hfy
  unfold maxLen at hny
  obtain rfl : csy = (tabC ty ay cy).toArray := by
    have : csy.toList = tabC ty ay cy := by simpa [Value.cells] using hcsy
    rw [← this]
  obtain ⟨csz, rfl, _⟩ := okWide_struct Try.underlying29 (hval 1 29 _ rfl rfl)
  obtain ⟨fuelz, hfz⟩ := h1
  obtain ⟨tz, az, cz, hcsz, hnz, hcz, hoz⟩ := open_tab _ _ _ hfz
  unfold maxLen at hnz
  obtain rfl : csz = (tabC tz az cz).toArray := by
    have : csz.toList = tabC tz az cz := by simpa [Value.cells] using hcsz
    rw [← this]
  obtain ⟨x, rfl, rfl, rfl, wx⟩ := open_int Try.underlying5 (hval 2 5 _ rfl rfl) h2
  have hbx := bounds_u8 wx
  obtain ⟨nx, rfl⟩ := Int.eq_ofNat_of_zero_le hbx.1
  obtain ⟨ak, nnk, ck, rfl⟩ := okWide_slice Try.underlying46 (hval 3 46 _ rfl rfl)
  obtain ⟨fuelk, hfk⟩ := h3
  obtain ⟨aak, cck, lk, hcsk, hnk, hck, hok, hGk⟩ := open_row (e := encT) Try.underlying46 (by kernel_rfl) (each_bool Try.underlying4) hfk
  have hcsk' : Value.slice ak nnk ck = .slice aak lk.length cck := by simpa [Value.cells] using hcsk
  simp only [Value.slice.injEq] at hcsk'
  obtain ⟨rfl, rfl, rfl⟩ := hcsk'
  unfold maxLen at hnk
  obtain ⟨csh, rfl, _⟩ := okWide_struct Try.underlying49 (hval 4 49 _ rfl rfl)
  obtain ⟨fuelh, hfh⟩ := h4
  obtain ⟨hxh, hcsh, hbh⟩ := open_hurt _ _ _ hfh
  obtain rfl : csh = (encH hxh).toArray := by
    have : csh.toList = encH hxh := by simpa [Value.cells] using hcsh
    rw [← this]
  have core : Calls Try.prog 6 #[.agg (tabC ty ay cy).toArray, .agg (tabC tz az cz).toArray, .int .u8 (nx : Int), .slice ak lk.length ck, .agg (encH hxh).toArray] W fun e W' => e = .returned (.bool true) ∧ Tr W [wildR] W' [wildR] := swaps_con (by omega) (by omega) (by omega) (by omega) hbh disj1W ok1W
  exact core.mono fun e W' ⟨he, hT⟩ => ⟨_, he, law_post (tb := 4) hW' rfl rfl Try.underlying4 (fun _ => rfl) laidOut (by kernel_rfl) (Tr.belowW hT)⟩
theorem SuperSwaps_holds : Rows.SuperSwapsSaid :=
  OpenClaim.holds_of_wide 6 Try.f6 rfl rfl rfl rfl rfl rfl rfl ⟨rfl, rfl, rfl, rfl, rfl⟩ rfl rfl rfl rfl rfl (by kernel_rfl) Try.func6 (by kernel_rfl)
    (of_decide_eq_true (by kernel_rfl)) (by unfold Func.isWrapper; first | (rw [if_pos (by decide +kernel)]; kernel_rfl) | (rw [if_neg (by decide +kernel)]; exact ⟨rfl, rfl⟩))
    (fun os started H enc _ => SuperSwaps_lifted os started H enc)

end Go.Proofs.Ytdbedajaapamhaa
