/- EntryStill returns true for all calls and any entry, and turns nothing. -/
import Derived.ProofKit
import Derived.OpenShut
import Derived.SizedLaws
import Derived.Lib.SmallJoins
import Derived.Test.YtcphpcjcbmennaaRows
import Derived.Test.YtcphpcjcbmennaaEntL
import Derived.Test.YtcphpcjcbmennaaEntM
namespace Go.Proofs.Ytcphpcjcbmennaa
open Go Go.K Go.ChangeShapes Go.WideShapes Go.ChangeAt Go.RowKit Go.Joins
set_option linter.unusedVariables false
set_option linter.unusedSimpArgs false
attribute [local irreducible] Calls Ev GL GC GQ GR Code.wp
theorem own : ownKnob Try.prog.godebug = none := by kernel_rfl
theorem laidOut : laidOutB Try.prog = true := by kernel_rfl
theorem lay35 : K.layout Try.prog 35 = some ([.int .i64 0, .int .i64 0, .int .i64 0, .int .i64 0, .int .i64 0, .bool false, .int .i64 0, .int .i64 0, .int .i64 0, .int .i64 0, .slice none 0 0, .int .i64 0, .int .i64 0, .int .i64 0, .int .i64 0, .bool false, .int .i64 0, .int .i64 0, .int .i64 0, .int .i64 0], [(0, 1), (1, 13), (14, 1), (15, 1), (16, 1), (17, 1), (18, 1), (19, 1)]) := by kernel_rfl
theorem mk22 : K.mkOf Try.prog 22 = some (35, [.int .i64 0, .int .i64 0, .int .i64 0, .int .i64 0, .int .i64 0, .bool false, .int .i64 0, .int .i64 0, .int .i64 0, .int .i64 0, .slice none 0 0, .int .i64 0, .int .i64 0, .int .i64 0, .int .i64 0, .bool false, .int .i64 0, .int .i64 0, .int .i64 0, .int .i64 0], 176) := by kernel_rfl
/- turntable/turntablelaw14.EntryStill -/
set_option maxHeartbeats 8000000 in
set_option maxRecDepth 100000 in
theorem still_any {a : Option Addr} {n c : Nat} {l : List OX} (w : World) (hL : Sl w 20 a n (l.flatMap encP)) (hG : ∀ q ∈ l, OGood w q) (hn : n ≤ 9223372036854775807) {y : EX} {b : Option Addr} {cb : Nat} (hE : EGood w y b) :
    Calls Try.prog 4 #[.slice a n c, .agg (encE y b cb).toArray] w fun e w' => e = .returned (.bool true) ∧ Tr w [] w' [] := by
  have hl : l.length = n := hL.count (by omega) encP_len
  refine K.enter0 (args := [_, _]) Try.func4 rfl Try.ntmps4 rfl ?_
  refine K.GC.seq ?_
  refine K.GC.region ?_
  refine K.GL.box rfl rfl rfl (fun b3 => ?_)
  refine K.GL.det (K.e_assign rfl) rfl ?_
  refine K.GL.nil ?_
  refine K.GQ.go ?_
  refine K.GC.seq ?_
  refine K.GC.region ?_
  refine K.GL.det (K.e_call1 Try.call9 rfl (fun w hT => head_con)) rfl ?_
  refine K.GL.det (K.e_assign rfl) rfl ?_
  refine K.GL.nil ?_
  refine K.GQ.go ?_
  refine K.GC.seq ?_
  refine K.GC.region ?_
  refine gl_new Try.call10 rfl rfl (fun d g1 hk1 hv1 => ?_)
  refine K.GL.det (K.e_assign rfl) rfl ?_
  refine K.GL.nil ?_
  refine K.GQ.go ?_
  refine K.GC.seq ?_
  refine K.GC.seq ?_
  refine K.GC.region ?_
  refine K.GL.det (K.e_move rfl) rfl ?_
  refine K.GL.det ((K.e_eqlp Try.underlying24 rfl rfl).cast_bool (b := false) rfl) rfl ?_
  refine K.GL.det (K.e_move rfl) rfl ?_
  first | refine K.GL.splitB 20 rfl (fun h1 => ?_) (fun h1 => ?_) | skip
  all_goals first | exact absurd h1 (by decide) | replace h1 := of_decide_eq_true h1 | replace h1 := of_decide_eq_false h1 | skip
  all_goals
    first | (refine K.GL.want 20 rfl rfl rfl ?_; first | refine K.GL.det (K.e_move rfl) rfl ?_) | refine K.GL.skip 20 rfl rfl rfl rfl ?_ | refine K.GL.skipU 20 rfl rfl rfl rfl ?_
    first
      | refine K.GL.skip 20 rfl rfl rfl rfl ?_
      | refine K.GL.skipU 20 rfl rfl rfl rfl ?_
      | (refine K.GL.want 20 rfl rfl rfl ?_
         refine gl_great (l := l) Try.call11 rfl (fun w hT => ⟨hL.stay hT (fun r hr => by cases hr), fun q hq => (hG q hq).e.sl.stay hT (fun r hr => by cases hr)⟩) (by omega) (fun q hq => (hG q hq).e.lt) rfl (fun gr22 hg22 => ?_)
         rcases gr22 with _ | _)
    all_goals
      first | refine K.GL.det (K.e_pick_t rfl rfl) rfl ?_ | refine K.GL.det (K.e_pick_f rfl rfl) rfl ?_
      refine K.GL.det (K.e_move rfl) rfl ?_
      first | refine K.GL.splitB 24 rfl (fun h2 => ?_) (fun h2 => ?_) | skip
      all_goals first | exact absurd h2 (by decide) | replace h2 := of_decide_eq_true h2 | replace h2 := of_decide_eq_false h2 | skip
      all_goals
        first | (refine K.GL.want 24 rfl rfl rfl ?_; first | refine K.GL.det (K.e_loads Try.isAgg33 Try.sizeOf33 rfl rfl) rfl ?_) | refine K.GL.skip 24 rfl rfl rfl rfl ?_ | refine K.GL.skipU 24 rfl rfl rfl rfl ?_
        first | (refine K.GL.want 24 rfl rfl rfl ?_; first | refine K.GL.det (K.e_build lay35 rfl) rfl ?_) | refine K.GL.skip 24 rfl rfl rfl rfl ?_ | refine K.GL.skipU 24 rfl rfl rfl rfl ?_
        first
          | refine K.GL.skip 24 rfl rfl rfl rfl ?_
          | refine K.GL.skipU 24 rfl rfl rfl rfl ?_
          | (refine K.GL.want 24 rfl rfl rfl ?_
             refine K.GL.buildSlice mk22 rfl rfl rfl (fun b27 => ?_))
        first
          | refine K.GL.skip 24 rfl rfl rfl rfl ?_
          | refine K.GL.skipU 24 rfl rfl rfl rfl ?_
          | (refine K.GL.want 24 rfl rfl rfl ?_
             refine gl_great (l := [opE y b cb]) Try.call11 rfl (fun w hT => ⟨Sl.of_block (hT.ok _ List.mem_cons_self) rfl, fun q hq => by simp only [List.mem_singleton] at hq; subst hq; exact hE.sl.stay hT (fun r hr => by cases hr)⟩) (by omega) (fun q hq => by simp only [List.mem_singleton] at hq; subst hq; exact hE.lt) rfl (fun gr28 hg28 => ?_)
             rcases gr28 with _ | _)
        all_goals
          first | refine K.GL.det (K.e_pick_t rfl rfl) rfl ?_ | refine K.GL.det (K.e_pick_f rfl rfl) rfl ?_
          refine K.GL.nil ?_
          refine K.GQ.go ?_
          refine K.GC.condB rfl (fun h3 => ?_) (fun h3 => ?_)
          · first
            | exact absurd h3 (by decide)
            | try replace h3 := of_decide_eq_true h3
              refine K.GC.seq ?_
              refine K.GC.region ?_
              refine K.GL.det (K.e_move rfl) rfl ?_
              refine K.GL.det ((K.e_neqp Try.underlying24 rfl rfl).cast_bool (b := true) rfl) rfl ?_
              refine K.GL.det (K.e_move rfl) rfl ?_
              first | refine K.GL.splitB 32 rfl (fun h4 => ?_) (fun h4 => ?_) | skip
              all_goals first | exact absurd h4 (by decide) | replace h4 := of_decide_eq_true h4 | replace h4 := of_decide_eq_false h4 | skip
              all_goals
                first | (refine K.GL.want 32 rfl rfl rfl ?_; first | refine K.GL.det (K.e_move rfl) rfl ?_) | refine K.GL.skip 32 rfl rfl rfl rfl ?_ | refine K.GL.skipU 32 rfl rfl rfl rfl ?_
                first | refine K.GL.det (K.e_pick_t rfl rfl) rfl ?_ | refine K.GL.det (K.e_pick_f rfl rfl) rfl ?_
                refine K.GL.det (K.e_assign rfl) rfl ?_
                refine K.GL.nil ?_
                refine K.GQ.go ?_
                refine K.GC.ret ?_
                refine K.GQ.then_ret ?_
                refine K.GQ.ret1 Try.results4 rfl (fun w hT => ?_)
                exact ⟨rfl, hT.nil⟩
          · first
            | exact absurd h3 (by decide)
            | try replace h3 := of_decide_eq_false h3
              refine K.GC.skip ?_
              refine K.GQ.go ?_
              refine K.GC.seq ?_
              refine K.GC.seq ?_
              have hgs := hg22 rfl
              have hge := hg28 rfl
              have hy9 : y.sv.length ≤ 9000 := hge.2 _ List.mem_cons_self
              refine K.GC.region ?_
              refine K.GL.det (K.e_assign rfl) rfl ?_
              refine K.GL.nil ?_
              refine K.GQ.go ?_
              refine K.GC.block ?_
              refine K.GC.loopk (α := Nat × IG) [0, 3, 4, 5, 6, 8, 9, 10, 11, 12, 13, 14, 15, 48, 49, 50, 51, 52, 53, 54, 55, 56, 57, 59, 60, 61, 62, 63, 64, 65, 66, 67, 68, 69, 70, 71, 72, 73, 74, 75, 76, 77, 78, 79, 80, 81, 82, 83, 84, 85, 86, 87, 88, 89, 90, 91, 92, 93, 94, 95, 96, 97, 98, 99, 100, 101, 102, 103, 104, 105, 106, 107, 108, 109, 110, 111, 112, 113, 114, 115, 116, 117, 118] rfl (fun x => [(7, .int .i64 (x.1 : Int))]) (fun x => [IdxR d x.2, cl b3 33 (encE y b cb)]) (fun x => x.1 ≤ n ∧ x.2.Ok ∧ x.2.es.length ≤ x.1) (fun x => (n - x.1)) (0, g1) ⟨Nat.zero_le _, hk1, by rw [← IG.ents_length, hv1]; exact Nat.le_refl _⟩ (by (repeat refine ⟨rfl, ?_⟩); exact trivial) (Sub.take (i := 1) rfl (Sub.take (i := 1) rfl (Sub.nil _))) (fun x hI => ?_)
              obtain ⟨x, g⟩ := x
              obtain ⟨hx, hk, hz⟩ := hI
              simp only at hx hk hz ⊢
              refine K.GC.seq ?_
              refine K.GC.seq ?_
              refine K.GC.region ?_
              refine K.GL.det (K.e_move rfl) rfl ?_
              refine K.GL.det (K.e_move rfl) rfl ?_
              refine K.GL.det (K.e_len Try.underlying22 rfl) rfl ?_
              first | refine K.GL.det ((K.e_lt rfl rfl).yes (by first | omega | assumption | decide +kernel)) rfl ?_ | refine K.GL.det ((K.e_lt rfl rfl).no (by first | omega | assumption | decide +kernel)) rfl ?_ | refine K.GL.det (K.e_lt rfl rfl) rfl ?_
              refine K.GL.nil ?_
              refine K.GQ.go ?_
              refine K.GC.condB rfl (fun h5 => ?_) (fun h5 => ?_)
              · first
                | exact absurd h5 (by decide)
                | try replace h5 := of_decide_eq_true h5
                  refine K.GC.skip ?_
                  refine K.GQ.go ?_
                  refine K.GC.seq ?_
                  refine K.GC.block ?_
                  obtain ⟨q, hq⟩ : ∃ q, l[x]? = some q := get_ex (by omega)
                  refine K.GC.region ?_
                  refine K.GL.det (K.e_move rfl) rfl ?_
                  refine K.GL.det (K.e_move rfl) rfl ?_
                  refine K.GL.det (K.e_move rfl) rfl ?_
                  refine K.GL.det (K.e_indexAddrS sl22 rfl rfl hL (by omega) (by omega)) rfl ?_
                  refine K.GL.det (K.e_fieldAddr fo35_1 rfl) rfl ?_
                  refine K.GL.det (K.e_loadsw (vs := encE q.e q.ea q.ec) Try.isAgg33 Try.sizeOf33 rfl (fun w hT j v hj => hT.cell0 (op_ent hL hq j v hj)) rfl) rfl ?_
                  refine gl_put (x := q.e) (a0 := q.ea) (c0 := q.ec) (was := (xget q.e.id g.ents).isSome) Try.call17 rfl hk rfl (fun w hT => ⟨(hG q (List.mem_of_getElem? hq)).e.sl.stay hT (fun r hr => by cases hr), fun h0 => apart_old (hG q (List.mem_of_getElem? hq)).e.sl (by omega) hT PickI.mem h0⟩) (hG q (List.mem_of_getElem? hq)).e.id (hgs.2 q (List.mem_of_getElem? hq)) rfl (fun g2 hk2 hv2 => ?_)
                  refine K.GL.nil ?_
                  refine K.GQ.block_normal ?_
                  refine K.GQ.go ?_
                  refine K.GC.region ?_
                  refine K.GL.det (K.e_move rfl) rfl ?_
                  first | refine K.GL.det (K.e_add rfl rfl ⟨by omega, by omega⟩) rfl ?_ | refine K.GL.det (K.e_addw rfl rfl) rfl ?_
                  refine K.GL.det (K.e_assign rfl) rfl ?_
                  refine K.GL.nil ?_
                  exact K.GQ.round (x + 1, g2) ⟨by simp only; omega, hk2, put_len hz hv2⟩ (by simp only; omega) (by (repeat refine ⟨rfl, ?_⟩); exact trivial) (Sub.take (i := 0) rfl (Sub.take (i := 0) rfl (Sub.nil _)))
              · first
                | exact absurd h5 (by decide)
                | try replace h5 := of_decide_eq_false h5
                  refine K.GC.exit ?_
                  refine K.GQ.then_exit ?_
                  refine K.GQ.then_exit ?_
                  refine K.GQ.block_hit ?_
                  refine K.GQ.go ?_
                  refine K.GC.seq ?_
                  refine K.GC.region ?_
                  refine K.GL.det (K.e_loads Try.isAgg33 Try.sizeOf33 rfl rfl) rfl ?_
                  refine K.GL.alloc Try.zeroValue33 rfl rfl (fun b8 => ?_)
                  refine K.GL.store rfl rfl rfl Try.sizeOf33 rfl rfl ?_
                  refine K.GL.nil ?_
                  refine K.GQ.go ?_
                  refine K.GC.seq ?_
                  refine K.GC.region ?_
                  refine K.GL.buildSlice mk29 rfl rfl rfl (fun b49 => ?_)
                  refine K.GL.cl_row (c := 0) (k := 1) rfl ?_
                  refine K.GL.det (K.e_fieldAddr fo33_1 rfl) rfl ?_
                  refine K.GL.det (K.e_fieldAddr fo31_4 rfl) rfl ?_
                  first | refine K.GL.det (K.e_load Try.isAgg29 rfl rfl) rfl ?_ | refine K.GL.det (K.e_load0 Try.isAgg29 rfl (by assumption)) rfl ?_
                  refine K.GL.append_hd (xs := []) mk29 rfl (Nat.zero_le _) rfl rfl (fun w hT => hE.sl.stay hT (fun r hr => by cases hr)) (strs_length _) (fun h => sl_some hE.sl h) (oneCells_spec (oneCells_strs y.sv)) (by have := hge.2 _ List.mem_cons_self; simp only [opE] at this; omega) (by have := hge.2 _ List.mem_cons_self; simp only [opE] at this; omega) rfl (fun a53 c53 => ?_)
                  rw [Nat.zero_add, List.nil_append]
                  refine K.GL.det (K.e_fieldAddr fo33_1 rfl) rfl ?_
                  refine K.GL.det (K.e_fieldAddr fo31_4 rfl) rfl ?_
                  refine K.GL.store rfl rfl rfl Try.sizeOf29 rfl rfl ?_
                  refine K.GL.nil ?_
                  refine K.GQ.go ?_
                  refine K.GC.seq ?_
                  refine K.GC.region ?_
                  refine K.GL.det (K.e_move rfl) rfl ?_
                  refine K.GL.det (K.e_loads Try.isAgg33 Try.sizeOf33 rfl rfl) rfl ?_
                  refine gl_put (x := y) (a0 := a53) (c0 := c53) (was := (xget y.id g.ents).isSome) Try.call17 rfl hk rfl (fun w hT => ⟨hT.sl_row (xs := strs y.sv) (List.mem_of_getElem? (i := 0) rfl) (by omega) (by rw [strs_length, Nat.mul_one]), fun h0 => row_apart (i := 0) (j := 2) hT rfl rfl (by decide) (fun h => by have := congrArg List.length h; rw [strs_length, List.length_nil] at this; omega)⟩) hE.id (hge.2 _ List.mem_cons_self) rfl (fun g3 hk3 hv3 => ?_)
                  have hW := put_eq (id := y.id) rfl hv3
                  refine K.GL.nil ?_
                  refine K.GQ.go ?_
                  refine K.GC.seq ?_
                  refine K.GC.seq ?_
                  refine K.GC.res (L' := [row a53 c53 1 9 (strs y.sv), cl b8 33 (encE y a53 c53), IdxR d g3, cl b3 33 (encE y b cb)]) ?_ (Sub.take (i := 1) rfl (Sub.take (i := 1) rfl (Sub.take (i := 0) rfl (Sub.take (i := 0) rfl (Sub.nil _)))))
                  refine K.GC.fact (p := 0 < y.sv.length → a53 = some ⟨bk a53, of_ a53, none⟩) (fun w hT => (hT.sl_row (k := 1) (n := y.sv.length) (List.mem_of_getElem? (i := 0) rfl) (by omega) (by rw [strs_length, Nat.mul_one])).base) (fun hb => ?_)
                  refine K.GC.region ?_
                  refine K.GL.det (K.e_assign rfl) rfl ?_
                  refine K.GL.nil ?_
                  refine K.GQ.go ?_
                  refine K.GC.block ?_
                  refine K.GC.loopk (α := Nat × List Bytes) [3, 4, 5, 6, 8, 10, 11, 12, 13, 14, 15, 72, 73, 74, 75, 76, 77, 78, 79, 80, 81, 82, 83, 84, 85, 86, 87, 88, 89, 90, 91, 92, 93, 94, 95, 96, 97, 98, 99, 100, 101, 102, 103, 104, 105, 106, 107, 108, 109, 110, 111, 112, 113, 114, 115, 116, 117, 118] rfl (fun z => [(9, .int .i64 (z.1 : Int))]) (fun z => [row a53 c53 1 9 (strs z.2), cl b8 33 (encE y a53 c53), IdxR d g3, cl b3 33 (encE y b cb)]) (fun z => z.1 ≤ y.sv.length ∧ z.2.length = y.sv.length) (fun z => (y.sv.length - z.1)) (0, y.sv) ⟨Nat.zero_le _, rfl⟩ (by (repeat refine ⟨rfl, ?_⟩); exact trivial) (K.Sub.refl _) (fun z hI => ?_)
                  obtain ⟨z, zs⟩ := z
                  obtain ⟨hz1, hz2⟩ := hI
                  simp only at hz1 hz2 ⊢
                  refine K.GC.seq ?_
                  refine K.GC.seq ?_
                  refine K.GC.region ?_
                  refine K.GL.det (K.e_move rfl) rfl ?_
                  refine K.GL.det (K.e_fieldAddr fo33_1 rfl) rfl ?_
                  refine K.GL.det (K.e_fieldAddr fo31_4 rfl) rfl ?_
                  first | refine K.GL.det (K.e_load Try.isAgg29 rfl rfl) rfl ?_ | refine K.GL.det (K.e_load0 Try.isAgg29 rfl (by assumption)) rfl ?_
                  refine K.GL.det (K.e_len Try.underlying29 rfl) rfl ?_
                  first | refine K.GL.det ((K.e_lt rfl rfl).yes (by first | omega | assumption | decide +kernel)) rfl ?_ | refine K.GL.det ((K.e_lt rfl rfl).no (by first | omega | assumption | decide +kernel)) rfl ?_ | refine K.GL.det (K.e_lt rfl rfl) rfl ?_
                  refine K.GL.nil ?_
                  refine K.GQ.go ?_
                  refine K.GC.condB rfl (fun h6 => ?_) (fun h6 => ?_)
                  · first
                    | exact absurd h6 (by decide)
                    | try replace h6 := of_decide_eq_true h6
                      refine K.GC.skip ?_
                      refine K.GQ.go ?_
                      refine K.GC.seq ?_
                      refine K.GC.block ?_
                      refine K.GC.region ?_
                      refine K.GL.det (K.e_fieldAddr fo33_1 rfl) rfl ?_
                      refine K.GL.det (K.e_fieldAddr fo31_4 rfl) rfl ?_
                      first | refine K.GL.det (K.e_load Try.isAgg29 rfl rfl) rfl ?_ | refine K.GL.det (K.e_load0 Try.isAgg29 rfl (by assumption)) rfl ?_
                      refine K.GL.det (K.e_move rfl) rfl ?_
                      refine K.GL.det (K.e_indexAddrB sl29 rfl rfl hb (by omega) (by omega)) rfl ?_
                      refine K.GL.storeRow (v := K.str [111, 116, 104, 101, 114]) rfl (by rw [strs_length]; omega) rfl rfl Try.sizeOf9 rfl ?_
                      rw [strs_set, Int.toNat_natCast, Nat.mul_one]
                      refine K.GL.nil ?_
                      refine K.GQ.block_normal ?_
                      refine K.GQ.go ?_
                      refine K.GC.region ?_
                      refine K.GL.det (K.e_move rfl) rfl ?_
                      first | refine K.GL.det (K.e_add rfl rfl ⟨by omega, by omega⟩) rfl ?_ | refine K.GL.det (K.e_addw rfl rfl) rfl ?_
                      refine K.GL.det (K.e_assign rfl) rfl ?_
                      refine K.GL.nil ?_
                      exact K.GQ.round (z + 1, zs.set z [111, 116, 104, 101, 114]) ⟨by simp only; omega, by simp only [List.length_set]; omega⟩ (by simp only; omega) (by (repeat refine ⟨rfl, ?_⟩); exact trivial) (Sub.take (i := 0) rfl (Sub.take (i := 0) rfl (Sub.take (i := 0) rfl (Sub.take (i := 0) rfl (Sub.nil _)))))
                  · first
                    | exact absurd h6 (by decide)
                    | try replace h6 := of_decide_eq_false h6
                      refine K.GC.exit ?_
                      refine K.GQ.then_exit ?_
                      refine K.GQ.then_exit ?_
                      refine K.GQ.block_hit ?_
                      refine K.GQ.go ?_
                      refine K.GC.seq ?_
                      refine K.GC.region ?_
                      refine K.GL.det (K.e_move rfl) rfl ?_
                      refine K.GL.det (K.e_fieldAddr fo33_0 rfl) rfl ?_
                      refine K.GL.det (K.e_fieldAddr fo28_0 rfl) rfl ?_
                      first | refine K.GL.det (K.e_load Try.isAgg2 rfl rfl) rfl ?_ | refine K.GL.det (K.e_load0 Try.isAgg2 rfl (by assumption)) rfl ?_
                      refine gl_get Try.call12 rfl hk3 hW rfl (fun a77 c77 => ?_)
                      refine K.GL.det (K.e_move rfl) rfl ?_
                      refine K.GL.det (K.e_extract rfl rfl) rfl ?_
                      refine K.GL.det ((K.e_extract rfl rfl).cast_bool (b := true) rfl) rfl ?_
                      refine K.GL.alloc Try.zeroValue33 rfl rfl (fun b10 => ?_)
                      refine K.GL.store rfl rfl rfl Try.sizeOf33 rfl rfl ?_
                      refine K.GL.det (K.e_assign rfl) rfl ?_
                      refine K.GL.nil ?_
                      refine K.GQ.go ?_
                      refine K.GC.seq ?_
                      refine K.GC.region ?_
                      refine K.GL.det (K.e_loads Try.isAgg33 Try.sizeOf33 rfl rfl) rfl ?_
                      refine K.GL.det (K.e_loads Try.isAgg33 Try.sizeOf33 rfl rfl) rfl ?_
                      refine K.GL.det ((K.e_call1 Try.call18 rfl (fun w hT => same_con (x := y) (y := y) (hT.sl_row (List.mem_of_getElem? (i := 1) rfl) (by omega) (by rw [strs_length, Nat.mul_one])) (hE.sl.stay hT (fun r hr => by cases hr)) (by have := hge.2 _ List.mem_cons_self; show y.sv.length < _; exact Nat.lt_of_le_of_lt this (by decide)))).yes rfl) rfl ?_
                      refine K.GL.det (K.e_assign rfl) rfl ?_
                      refine K.GL.nil ?_
                      refine K.GQ.go ?_
                      refine K.GC.seq ?_
                      refine K.GC.seq ?_
                      refine K.GC.res (L' := [row a77 c77 1 9 (strs y.sv), cl b10 33 (encE y a77 c77), IdxR d g3, cl b3 33 (encE y b cb)]) ?_ (Sub.take (i := 1) rfl (Sub.take (i := 0) rfl (Sub.take (i := 2) rfl (Sub.take (i := 2) rfl (Sub.nil _)))))
                      refine K.GC.fact (p := 0 < y.sv.length → a77 = some ⟨bk a77, of_ a77, none⟩) (fun w hT => (hT.sl_row (k := 1) (n := y.sv.length) (List.mem_of_getElem? (i := 0) rfl) (by omega) (by rw [strs_length, Nat.mul_one])).base) (fun hb => ?_)
                      refine K.GC.region ?_
                      refine K.GL.det (K.e_assign rfl) rfl ?_
                      refine K.GL.nil ?_
                      refine K.GQ.go ?_
                      refine K.GC.block ?_
                      refine K.GC.loopk (α := Nat × List Bytes) [3, 4, 5, 6, 10, 11, 12, 14, 15, 96, 97, 98, 99, 100, 101, 102, 103, 104, 105, 106, 107, 108, 109, 110, 111, 112, 113, 114, 115, 116, 117, 118] rfl (fun z => [(13, .int .i64 (z.1 : Int))]) (fun z => [row a77 c77 1 9 (strs z.2), cl b10 33 (encE y a77 c77), IdxR d g3, cl b3 33 (encE y b cb)]) (fun z => z.1 ≤ y.sv.length ∧ z.2.length = y.sv.length) (fun z => (y.sv.length - z.1)) (0, y.sv) ⟨Nat.zero_le _, rfl⟩ (by (repeat refine ⟨rfl, ?_⟩); exact trivial) (K.Sub.refl _) (fun z hI => ?_)
                      obtain ⟨z, zs⟩ := z
                      obtain ⟨hz1, hz2⟩ := hI
                      simp only at hz1 hz2 ⊢
                      refine K.GC.seq ?_
                      refine K.GC.seq ?_
                      refine K.GC.region ?_
                      refine K.GL.det (K.e_move rfl) rfl ?_
                      refine K.GL.det (K.e_fieldAddr fo33_1 rfl) rfl ?_
                      refine K.GL.det (K.e_fieldAddr fo31_4 rfl) rfl ?_
                      first | refine K.GL.det (K.e_load Try.isAgg29 rfl rfl) rfl ?_ | refine K.GL.det (K.e_load0 Try.isAgg29 rfl (by assumption)) rfl ?_
                      refine K.GL.det (K.e_len Try.underlying29 rfl) rfl ?_
                      first | refine K.GL.det ((K.e_lt rfl rfl).yes (by first | omega | assumption | decide +kernel)) rfl ?_ | refine K.GL.det ((K.e_lt rfl rfl).no (by first | omega | assumption | decide +kernel)) rfl ?_ | refine K.GL.det (K.e_lt rfl rfl) rfl ?_
                      refine K.GL.nil ?_
                      refine K.GQ.go ?_
                      refine K.GC.condB rfl (fun h7 => ?_) (fun h7 => ?_)
                      · first
                        | exact absurd h7 (by decide)
                        | try replace h7 := of_decide_eq_true h7
                          refine K.GC.skip ?_
                          refine K.GQ.go ?_
                          refine K.GC.seq ?_
                          refine K.GC.block ?_
                          refine K.GC.region ?_
                          refine K.GL.det (K.e_fieldAddr fo33_1 rfl) rfl ?_
                          refine K.GL.det (K.e_fieldAddr fo31_4 rfl) rfl ?_
                          first | refine K.GL.det (K.e_load Try.isAgg29 rfl rfl) rfl ?_ | refine K.GL.det (K.e_load0 Try.isAgg29 rfl (by assumption)) rfl ?_
                          refine K.GL.det (K.e_move rfl) rfl ?_
                          refine K.GL.det (K.e_indexAddrB sl29 rfl rfl hb (by omega) (by omega)) rfl ?_
                          refine K.GL.storeRow (v := K.str [97, 110, 111, 116, 104, 101, 114]) rfl (by rw [strs_length]; omega) rfl rfl Try.sizeOf9 rfl ?_
                          rw [strs_set, Int.toNat_natCast, Nat.mul_one]
                          refine K.GL.nil ?_
                          refine K.GQ.block_normal ?_
                          refine K.GQ.go ?_
                          refine K.GC.region ?_
                          refine K.GL.det (K.e_move rfl) rfl ?_
                          first | refine K.GL.det (K.e_add rfl rfl ⟨by omega, by omega⟩) rfl ?_ | refine K.GL.det (K.e_addw rfl rfl) rfl ?_
                          refine K.GL.det (K.e_assign rfl) rfl ?_
                          refine K.GL.nil ?_
                          exact K.GQ.round (z + 1, zs.set z [97, 110, 111, 116, 104, 101, 114]) ⟨by simp only; omega, by simp only [List.length_set]; omega⟩ (by simp only; omega) (by (repeat refine ⟨rfl, ?_⟩); exact trivial) (Sub.take (i := 0) rfl (Sub.take (i := 0) rfl (Sub.take (i := 0) rfl (Sub.take (i := 0) rfl (Sub.nil _)))))
                      · first
                        | exact absurd h7 (by decide)
                        | try replace h7 := of_decide_eq_false h7
                          refine K.GC.exit ?_
                          refine K.GQ.then_exit ?_
                          refine K.GQ.then_exit ?_
                          refine K.GQ.block_hit ?_
                          refine K.GQ.go ?_
                          refine K.GC.seq ?_
                          refine K.GC.region ?_
                          refine K.GL.det (K.e_move rfl) rfl ?_
                          refine K.GL.det (K.e_fieldAddr fo33_0 rfl) rfl ?_
                          refine K.GL.det (K.e_fieldAddr fo28_0 rfl) rfl ?_
                          first | refine K.GL.det (K.e_load Try.isAgg2 rfl rfl) rfl ?_ | refine K.GL.det (K.e_load0 Try.isAgg2 rfl (by assumption)) rfl ?_
                          refine gl_get Try.call12 rfl hk3 hW rfl (fun a101 c101 => ?_)
                          refine K.GL.det (K.e_move rfl) rfl ?_
                          refine K.GL.det (K.e_extract rfl rfl) rfl ?_
                          refine K.GL.det ((K.e_extract rfl rfl).cast_bool (b := true) rfl) rfl ?_
                          refine K.GL.alloc Try.zeroValue33 rfl rfl (fun b14 => ?_)
                          refine K.GL.store rfl rfl rfl Try.sizeOf33 rfl rfl ?_
                          refine K.GL.det (K.e_assign rfl) rfl ?_
                          refine K.GL.nil ?_
                          refine K.GQ.go ?_
                          refine K.GC.seq ?_
                          refine K.GC.region ?_
                          refine K.GL.det (K.e_move rfl) rfl ?_
                          refine K.GL.det (K.e_move rfl) rfl ?_
                          first | refine K.GL.splitB 105 rfl (fun h8 => ?_) (fun h8 => ?_) | skip
                          all_goals first | exact absurd h8 (by decide) | replace h8 := of_decide_eq_true h8 | replace h8 := of_decide_eq_false h8 | skip
                          all_goals
                            first | (refine K.GL.want 105 rfl rfl rfl ?_; first | refine K.GL.det (K.e_move rfl) rfl ?_) | refine K.GL.skip 105 rfl rfl rfl rfl ?_ | refine K.GL.skipU 105 rfl rfl rfl rfl ?_
                            first | refine K.GL.det (K.e_pick_t rfl rfl) rfl ?_ | refine K.GL.det (K.e_pick_f rfl rfl) rfl ?_
                            refine K.GL.det (K.e_move rfl) rfl ?_
                            first | refine K.GL.splitB 108 rfl (fun h9 => ?_) (fun h9 => ?_) | skip
                            all_goals first | exact absurd h9 (by decide) | replace h9 := of_decide_eq_true h9 | replace h9 := of_decide_eq_false h9 | skip
                            all_goals
                              first | (refine K.GL.want 108 rfl rfl rfl ?_; first | refine K.GL.det (K.e_move rfl) rfl ?_) | refine K.GL.skip 108 rfl rfl rfl rfl ?_ | refine K.GL.skipU 108 rfl rfl rfl rfl ?_
                              first | refine K.GL.det (K.e_pick_t rfl rfl) rfl ?_ | refine K.GL.det (K.e_pick_f rfl rfl) rfl ?_
                              refine K.GL.det (K.e_move rfl) rfl ?_
                              first | refine K.GL.splitB 111 rfl (fun h10 => ?_) (fun h10 => ?_) | skip
                              all_goals first | exact absurd h10 (by decide) | replace h10 := of_decide_eq_true h10 | replace h10 := of_decide_eq_false h10 | skip
                              all_goals
                                first | (refine K.GL.want 111 rfl rfl rfl ?_; first | refine K.GL.det (K.e_move rfl) rfl ?_) | refine K.GL.skip 111 rfl rfl rfl rfl ?_ | refine K.GL.skipU 111 rfl rfl rfl rfl ?_
                                first | refine K.GL.det (K.e_pick_t rfl rfl) rfl ?_ | refine K.GL.det (K.e_pick_f rfl rfl) rfl ?_
                                refine K.GL.det (K.e_move rfl) rfl ?_
                                first | refine K.GL.splitB 114 rfl (fun h11 => ?_) (fun h11 => ?_) | skip
                                all_goals first | exact absurd h11 (by decide) | replace h11 := of_decide_eq_true h11 | replace h11 := of_decide_eq_false h11 | skip
                                all_goals
                                  first | (refine K.GL.want 114 rfl rfl rfl ?_; first | refine K.GL.det (K.e_loads Try.isAgg33 Try.sizeOf33 rfl rfl) rfl ?_) | refine K.GL.skip 114 rfl rfl rfl rfl ?_ | refine K.GL.skipU 114 rfl rfl rfl rfl ?_
                                  first | (refine K.GL.want 114 rfl rfl rfl ?_; first | refine K.GL.det (K.e_loads Try.isAgg33 Try.sizeOf33 rfl rfl) rfl ?_) | refine K.GL.skip 114 rfl rfl rfl rfl ?_ | refine K.GL.skipU 114 rfl rfl rfl rfl ?_
                                  first | (refine K.GL.want 114 rfl rfl rfl ?_; first | refine K.GL.det ((K.e_call1 Try.call18 rfl (fun w hT => same_con (x := y) (y := y) (hT.sl_row (List.mem_of_getElem? (i := 1) rfl) (by omega) (by rw [strs_length, Nat.mul_one])) (hE.sl.stay hT (fun r hr => by cases hr)) (by have := hge.2 _ List.mem_cons_self; show y.sv.length < _; exact Nat.lt_of_le_of_lt this (by decide)))).yes rfl) rfl ?_) | refine K.GL.skip 114 rfl rfl rfl rfl ?_ | refine K.GL.skipU 114 rfl rfl rfl rfl ?_
                                  first | refine K.GL.det (K.e_pick_t rfl rfl) rfl ?_ | refine K.GL.det (K.e_pick_f rfl rfl) rfl ?_
                                  refine K.GL.det (K.e_assign rfl) rfl ?_
                                  refine K.GL.nil ?_
                                  refine K.GQ.go ?_
                                  refine K.GC.ret ?_
                                  refine K.GQ.ret1 Try.results4 rfl (fun w hT => ?_)
                                  exact ⟨rfl, hT.nil⟩

set_option maxHeartbeats 1000000 in
set_option maxRecDepth 100000 in
theorem EntryStill_lifted (os : Os) (started : os.Started) (H : Type) (enc : TypeId × Value → H) :
    ReturnsInHanded {} Try.checked os 4 .any (Rows.entryStillSpec.pre6 enc Try.prog Try.f4 Rows.entryStillRow.domain false) (Rows.entryStillSpec.post enc Try.prog Try.f4 false true false false) := by
  refine returnsInHanded_of_change_sized (C := Try.checked) own started (by kernel_rfl) Try.func4
    (ChangeSpec.witness6 (enc := enc) (C := Try.checked) false ⟨#[], #[.slice none 0 0, .agg (encE EX.zero none 0).toArray], []⟩ 8 (by kernel_rfl) (by kernel_rfl) (by kernel_rfl) (by kernel_rfl)) ?_
  intro W base args ds gs before hval0 hW _ hsz0 _
  have hval : ∀ (j : Nat) t v, Try.f4.params[j]? = some t → args[j]? = some v → Value.okWide Try.prog W .any base t v := hval0
  have hsz : (DataW.weightsEach Try.prog (Try.f4.params.toList ++ []) (ds ++ gs)).all (· ≤ reachBytes) = true := hsz0
  have hW' := hW
  obtain ⟨p, q, hA0, hV, hpe, hfz, hnd⟩ := hW
  have hA : DataW.TrodAll enc Try.prog W 0 (fun _ => true) true Try.f4.params.toList args.toList ds p := hA0
  obtain ⟨rfl, rfl⟩ := trodVars_none hV
  rw [Try.params4] at hA hval hsz
  obtain ⟨v0, vs0, d0, ds0, p0, q0, hargs, rfl, rfl, h0, r0⟩ := trodAll_cons hA
  obtain ⟨v1, vs1, d1, ds1, p1, q1, rfl, rfl, rfl, h1, r1⟩ := trodAll_cons r0
  obtain ⟨rfl, rfl, rfl⟩ := trodAll_nil r1
  obtain rfl : args = #[v0, v1] := by cases args; simp_all
  clear hA0 hval0 hsz0 hA hargs
  obtain ⟨ax, nx, cx, rfl⟩ := okWide_slice Try.underlying22 (hval 0 22 _ rfl rfl)
  obtain ⟨fuelx, hfx⟩ := h0
  obtain ⟨ax', nx', cx', lx, hcsx, hnx, hSx, hGx⟩ := open_ops hfx
  have hcsx' : Value.slice ax nx cx = .slice ax' nx' cx' := by simpa [Value.cells] using hcsx
  simp only [Value.slice.injEq] at hcsx'
  obtain ⟨rfl, rfl, rfl⟩ := hcsx'
  unfold maxLen at hnx
  obtain ⟨cse, rfl, _⟩ := okWide_struct Try.underlying33 (hval 1 33 _ rfl rfl)
  obtain ⟨fuele, hfe⟩ := h1
  obtain ⟨xe, ae, ce, hcse, hGe⟩ := open_entry _ _ _ hfe
  obtain rfl : cse = (encE xe ae ce).toArray := by
    have : cse.toList = encE xe ae ce := by simpa [Value.cells] using hcse
    rw [← this]
  have core : Calls Try.prog 4 #[.slice ax nx cx, .agg (encE xe ae ce).toArray] W fun e W' => e = .returned (.bool true) ∧ Tr W [] W' [] := still_any W hSx hGx (by omega) hGe
  exact core.mono fun e W' ⟨he, hT⟩ => ⟨_, he, law_post (tb := 4) hW' rfl rfl Try.underlying4 (fun _ => rfl) laidOut (by kernel_rfl) hT.below⟩
theorem EntryStill_holds : Rows.EntryStillSaid :=
  OpenClaim.holds_of_wide 4 Try.f4 rfl rfl rfl rfl rfl rfl rfl ⟨rfl, rfl, rfl, rfl, rfl⟩ rfl rfl rfl rfl rfl (by kernel_rfl) Try.func4 (by kernel_rfl)
    (of_decide_eq_true (by kernel_rfl)) (by unfold Func.isWrapper; first | (rw [if_pos (by decide +kernel)]; kernel_rfl) | (rw [if_neg (by decide +kernel)]; exact ⟨rfl, rfl⟩))
    (fun os started H enc _ => EntryStill_lifted os started H enc)

end Go.Proofs.Ytcphpcjcbmennaa
