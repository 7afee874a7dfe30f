/- SuperBarrier returns true for all tables and bytes. -/
import Derived.ProofKit
import Derived.OpenShut
import Derived.SizedLaws
import Derived.Lib.SmallJoins
import Derived.Test.YtdbedajaapamhaaRows
import Derived.Test.YtdbedajaapamhaaSuH
import Derived.Test.YtdbedajaapamhaaSuC
namespace Go.Proofs.Ytdbedajaapamhaa
open Go Go.K Go.ChangeShapes Go.WideShapes Go.ChangeAt Go.RowKit Go.Joins
set_option linter.unusedVariables false
set_option linter.unusedSimpArgs false
attribute [local irreducible] Calls Ev GL GC GQ GR Code.wp
theorem own : ownKnob Try.prog.godebug = none := by kernel_rfl
theorem laidOut : laidOutB Try.prog = true := by kernel_rfl
/- turntable/turntablelaw10.SuperBarrier -/
set_option maxHeartbeats 8000000 in
set_option maxRecDepth 100000 in
theorem barrier_con {t : Tab} {l m : Bytes} {a al am : Option Addr} {c cl_ cm : Nat} {w : World} (hl : t.exts.length ≤ 9223372036854775807) (hl2 : l.length ≤ 9223372036854775807) (hm2 : m.length ≤ 9223372036854775807) [Old w [wildR] a (encX) (t.exts)] [Old w [wildR] al (encB) (l)] [Old w [wildR] am (encB) (m)] (hd : Disj [wildR]) (ho : ∀ r ∈ ([wildR] : List Res), r.ok w.heap) :
    Calls Try.prog 5 #[.agg (tabC t a c).toArray, .slice al l.length cl_, .slice am m.length cm] w fun e w' => e = .returned (.bool true) ∧ Tr w [wildR] w' [wildR] := by
  refine K.enter (args := [_, _, _]) Try.func5 rfl Try.ntmps5 rfl hd ho ?_
  refine K.GC.seq ?_
  refine K.GC.region ?_
  refine K.GL.box rfl rfl rfl (fun b3 => ?_)
  refine K.GL.det (K.e_assign rfl) rfl ?_
  refine K.GL.nil ?_
  refine K.GQ.go ?_
  refine K.GC.seq ?_
  refine K.GC.region ?_
  refine K.GL.det (ev_head10_con Try.call14 rfl ) rfl ?_
  refine K.GL.det (K.e_assign rfl) rfl ?_
  refine K.GL.nil ?_
  refine K.GQ.go ?_
  refine K.GC.seq ?_
  refine K.GC.region ?_
  refine gl_dnew_con Try.call15 rfl (by first | assumption | omega | rfl | decide) rfl (fun d18 g18 hk18 hv18 => ?_)
  refine K.GL.det (K.e_assign rfl) rfl ?_
  refine K.GL.nil ?_
  refine K.GQ.go ?_
  refine K.GC.seq ?_
  refine K.GC.seq ?_
  refine K.GC.region ?_
  refine K.GL.det (K.e_move rfl) rfl ?_
  refine K.GL.det ((K.e_eqlp Try.underlying25 rfl rfl).cast_bool (b := false) rfl) rfl ?_
  refine K.GL.det (K.e_move rfl) rfl ?_
  first | refine K.GL.splitB 21 rfl (fun h1 => ?_) (fun h1 => ?_) | skip
  all_goals first | exact absurd h1 (by decide) | replace h1 := of_decide_eq_true h1 | replace h1 := of_decide_eq_false h1 | skip
  all_goals
    first | (refine K.GL.want 21 rfl rfl rfl ?_; first | refine K.GL.det (K.e_move rfl) rfl ?_) | refine K.GL.skip 21 rfl rfl rfl rfl ?_ | refine K.GL.skipU 21 rfl rfl rfl rfl ?_
    first | (refine K.GL.want 21 rfl rfl rfl ?_; first | refine K.GL.det (K.e_len Try.underlying37 rfl) rfl ?_) | refine K.GL.skip 21 rfl rfl rfl rfl ?_ | refine K.GL.skipU 21 rfl rfl rfl rfl ?_
    first | (refine K.GL.want 21 rfl rfl rfl ?_; first | refine K.GL.det ((K.e_gt rfl rfl).yes (by first | omega | assumption | decide +kernel)) rfl ?_ | refine K.GL.det ((K.e_gt rfl rfl).no (by first | omega | assumption | decide +kernel)) rfl ?_ | refine K.GL.det (K.e_gt rfl rfl) rfl ?_) | refine K.GL.skip 21 rfl rfl rfl rfl ?_ | refine K.GL.skipU 21 rfl rfl rfl rfl ?_
    first | refine K.GL.det (K.e_pick_t rfl rfl) rfl ?_ | refine K.GL.det (K.e_pick_f rfl rfl) rfl ?_
    refine K.GL.det (K.e_move rfl) rfl ?_
    first | refine K.GL.splitB 26 rfl (fun h2 => ?_) (fun h2 => ?_) | skip
    all_goals first | exact absurd h2 (by decide) | replace h2 := of_decide_eq_true h2 | replace h2 := of_decide_eq_false h2 | skip
    all_goals
      first | (refine K.GL.want 26 rfl rfl rfl ?_; first | refine K.GL.det (K.e_move rfl) rfl ?_) | refine K.GL.skip 26 rfl rfl rfl rfl ?_ | refine K.GL.skipU 26 rfl rfl rfl rfl ?_
      first | (refine K.GL.want 26 rfl rfl rfl ?_; first | refine K.GL.det (K.e_len Try.underlying37 rfl) rfl ?_) | refine K.GL.skip 26 rfl rfl rfl rfl ?_ | refine K.GL.skipU 26 rfl rfl rfl rfl ?_
      first | (refine K.GL.want 26 rfl rfl rfl ?_; first | refine K.GL.det ((K.e_gt rfl rfl).yes (by first | omega | assumption | decide +kernel)) rfl ?_ | refine K.GL.det ((K.e_gt rfl rfl).no (by first | omega | assumption | decide +kernel)) rfl ?_ | refine K.GL.det (K.e_gt rfl rfl) rfl ?_) | refine K.GL.skip 26 rfl rfl rfl rfl ?_ | refine K.GL.skipU 26 rfl rfl rfl rfl ?_
      first | refine K.GL.det (K.e_pick_t rfl rfl) rfl ?_ | refine K.GL.det (K.e_pick_f rfl rfl) rfl ?_
      refine K.GL.nil ?_
      refine K.GQ.go ?_
      refine K.GC.condB rfl (fun h3 => ?_) (fun h3 => ?_)
      · first
        | exact absurd h3 (by decide)
        | try replace h3 := of_decide_eq_true h3
          refine K.GC.seq ?_
          refine K.GC.region ?_
          refine K.GL.det (K.e_move rfl) rfl ?_
          refine K.GL.det ((K.e_neqp Try.underlying25 rfl rfl).cast_bool (b := true) rfl) rfl ?_
          refine K.GL.det (K.e_move rfl) rfl ?_
          first | refine K.GL.splitB 33 rfl (fun h4 => ?_) (fun h4 => ?_) | skip
          all_goals first | exact absurd h4 (by decide) | replace h4 := of_decide_eq_true h4 | replace h4 := of_decide_eq_false h4 | skip
          all_goals
            first | (refine K.GL.want 33 rfl rfl rfl ?_; first | refine K.GL.det (K.e_move rfl) rfl ?_) | refine K.GL.skip 33 rfl rfl rfl rfl ?_ | refine K.GL.skipU 33 rfl rfl rfl rfl ?_
            first | refine K.GL.det (K.e_pick_t rfl rfl) rfl ?_ | refine K.GL.det (K.e_pick_f rfl rfl) rfl ?_
            refine K.GL.det (K.e_assign rfl) rfl ?_
            refine K.GL.nil ?_
            refine K.GQ.go ?_
            refine K.GC.ret ?_
            refine K.GQ.then_ret ?_
            refine K.GQ.ret1 Try.results5 rfl (fun w hT => ?_)
            exact ⟨rfl, hT.sub K.sb⟩
      · first
        | exact absurd h3 (by decide)
        | try replace h3 := of_decide_eq_false h3
          refine K.GC.skip ?_
          refine K.GQ.go ?_
          refine K.GC.seq ?_
          refine K.GC.seq ?_
          refine K.GC.region ?_
          refine K.GL.det (K.e_assign rfl) rfl ?_
          refine K.GL.nil ?_
          refine K.GQ.go ?_
          refine K.GC.block ?_
          refine K.GC.loopk (α := Nat × DG) [1, 2, 3, 6, 7, 8, 10, 11, 12, 13, 14, 15, 51, 52, 53, 54, 55, 56, 57, 58, 59, 60, 61, 62, 63, 64, 65, 66, 67, 68, 69, 71, 73, 74, 75, 76, 77, 78, 79, 80, 81, 82, 83, 84, 85, 86, 87, 88, 89, 90, 91, 92, 93, 94, 95, 96, 97, 98, 99, 100, 101, 102, 103, 104, 105, 106, 107, 108, 109, 110, 111, 112, 113] rfl (fun z => [(9, .int .i64 (z.1 : Int))]) (fun z => [DevR d18 z.2, wildR, cl b3 29 (tabC t a c)]) (fun z => z.1 ≤ l.length ∧ z.2.Ok ∧ Dw 20 z.2.v (fbl l z.1) (fun _ => zer)) (fun z => (l.length - z.1)) (0, g18) ⟨Nat.zero_le _, hk18, by rw [hv18, fbl_zero]; exact Dw.new 20⟩ (by first | ((repeat refine ⟨rfl, ?_⟩); exact trivial) | (simp only [List.take_zero, List.map_nil, List.flatMap_nil, List.append_nil]; (repeat refine ⟨rfl, ?_⟩); exact trivial)) (by first | exact K.sb | (dsimp only; exact K.sb) | (simp only [List.take_zero, List.map_nil, List.flatMap_nil, List.append_nil]; exact K.sb) | exact K.Sub.refl _) (fun z hI => ?_)
          have hI1 := hI.1
          refine K.GC.seq ?_
          refine K.GC.seq ?_
          refine K.GC.region ?_
          refine K.GL.det (K.e_move rfl) rfl ?_
          refine K.GL.det (K.e_move rfl) rfl ?_
          refine K.GL.det (K.e_len Try.underlying37 rfl) rfl ?_
          first | refine K.GL.det ((K.e_lt rfl rfl).yes (by first | omega | assumption | decide +kernel)) rfl ?_ | refine K.GL.det ((K.e_lt rfl rfl).no (by first | omega | assumption | decide +kernel)) rfl ?_ | refine K.GL.det (K.e_lt rfl rfl) rfl ?_
          refine K.GL.nil ?_
          refine K.GQ.go ?_
          refine K.GC.condB rfl (fun h5 => ?_) (fun h5 => ?_)
          · first
            | exact absurd h5 (by decide)
            | try replace h5 := of_decide_eq_true h5
              refine K.GC.skip ?_
              refine K.GQ.go ?_
              refine K.GC.seq ?_
              refine K.GC.block ?_
              refine K.GC.region ?_
              refine K.GL.det (K.e_move rfl) rfl ?_
              refine K.GL.det (K.e_move rfl) rfl ?_
              refine K.GL.det ((K.e_add rfl rfl ⟨by omega, by omega⟩).cast_int (b := ((2 + z.1 : Nat) : Int)) (by omega)) rfl ?_
              refine K.GL.det (K.e_move rfl) rfl ?_
              refine K.GL.det (K.e_move rfl) rfl ?_
              first | refine K.GL.ixK sl37 rfl rfl rfl rfl (by assumption) rfl ?_ | refine K.GL.ix sl37 rfl rfl rfl rfl (by omega) rfl (fun q47 hq47 => ?_) | refine K.GL.ixI sl37 rfl rfl rfl rfl (by omega) (by omega) rfl (fun q47 hq47 => ?_) | refine K.GL.det (K.e_indexAddrS sl37 rfl rfl (by assumption) (by omega) (by omega)) rfl ?_ | refine K.GL.det (K.e_indexAddr sl37 rfl rfl (by omega) (by omega)) rfl ?_
              first | refine K.GL.det (K.e_ldE Try.isAgg5 rfl rfl (by assumption) rfl) rfl ?_ | refine K.GL.det (K.e_ldF Try.isAgg5 rfl rfl (by assumption) rfl) rfl ?_ | refine K.GL.det (K.e_load Try.isAgg5 rfl rfl) rfl ?_ | refine K.GL.det (K.e_load0 Try.isAgg5 rfl (by assumption)) rfl ?_
              refine gl_block_con (q := q47) Try.call22 rfl  rfl (fun a49 c49 => ?_)
              refine gl_dwrite_con (g := z.2) (s := z.2.v) (bs := (blk q47)) (i := ((2 + z.1 : Nat) : Int)) Try.call19 rfl hI.2.1 rfl rfl (fun g50 hk50 hv50 => ?_)
              refine K.GL.nil ?_
              refine K.GQ.block_normal ?_
              refine K.GQ.go ?_
              refine K.GC.region ?_
              refine K.GL.det (K.e_move rfl) rfl ?_
              first | refine K.GL.det (K.e_add rfl rfl ⟨by omega, by omega⟩) rfl ?_ | refine K.GL.det (K.e_addw rfl rfl) rfl ?_
              refine K.GL.det (K.e_assign rfl) rfl ?_
              refine K.GL.nil ?_
              exact K.GQ.round ((z.1 + 1, g50) : Nat × DG) ⟨by show z.1 + 1 ≤ _; omega, hk50, by show Dw 20 g50.v (fbl l (z.1 + 1)) _; rw [hv50, ← fbl_next hq47]; exact (hI.2.2.write (by omega) (blk_len _)).2⟩ (by simp only; omega) (by (repeat refine ⟨rfl, ?_⟩); exact trivial) (by first | exact K.sb | (dsimp only; exact K.sb))
          · first
            | exact absurd h5 (by decide)
            | try replace h5 := of_decide_eq_false h5
              refine K.GC.exit ?_
              refine K.GQ.then_exit ?_
              refine K.GQ.then_exit ?_
              refine K.GQ.block_hit ?_
              refine K.GQ.go ?_
              refine K.GC.seq ?_
              refine K.GC.seq ?_
              refine K.GC.region ?_
              refine K.GL.det (K.e_move rfl) rfl ?_
              first | refine K.GL.det (K.e_ldA Try.isAgg29 Try.sizeOf29 rfl rfl (by assumption)) rfl ?_ | refine K.GL.det (K.e_ldAF Try.isAgg29 Try.sizeOf29 rfl rfl (by assumption) rfl) rfl ?_ | refine K.GL.det (K.e_loads Try.isAgg29 Try.sizeOf29 rfl rfl) rfl ?_
              refine gl_save_con (s := z.2.v) Try.call16 rfl hI.2.1 rfl hl rfl (fun g53 hk53 hv53 => ?_)
              first | refine K.GL.det ((K.e_ne rfl rfl).yes (by first | omega | assumption | decide +kernel)) rfl ?_ | refine K.GL.det ((K.e_ne rfl rfl).no (by first | omega | assumption | decide +kernel)) rfl ?_ | refine K.GL.det (K.e_ne rfl rfl) rfl ?_
              refine K.GL.nil ?_
              refine K.GQ.go ?_
              refine K.GC.condB rfl (fun h6 => ?_) (fun h6 => ?_)
              · first
                | exact absurd h6 (by decide)
                | try replace h6 := of_decide_eq_true h6
                  refine K.GC.seq ?_
                  refine K.GC.region ?_
                  refine K.GL.det (K.e_move rfl) rfl ?_
                  refine K.GL.det (K.e_assign rfl) rfl ?_
                  refine K.GL.nil ?_
                  refine K.GQ.go ?_
                  refine K.GC.ret ?_
                  refine K.GQ.then_ret ?_
                  refine K.GQ.ret1 Try.results5 rfl (fun w hT => ?_)
                  exact ⟨rfl, hT.sub K.sb⟩
              · first
                | exact absurd h6 (by decide)
                | try replace h6 := of_decide_eq_false h6
                  refine K.GC.skip ?_
                  refine K.GQ.go ?_
                  refine K.GC.seq ?_
                  refine K.GC.seq ?_
                  have hR := save_right (Classical.not_not.1 (by assumption))
                  have hz1 : z.1 = l.length := by have := hI.1; omega
                  have hdw := (hI.2.2.save (by decide) hR).2.1
                  rw [← hv53, hz1] at hdw
                  refine K.GC.region ?_
                  refine K.GL.det (K.e_assign rfl) rfl ?_
                  refine K.GL.nil ?_
                  refine K.GQ.go ?_
                  refine K.GC.block ?_
                  refine K.GC.loopk (α := Nat × DG) [1, 2, 3, 6, 7, 8, 11, 12, 13, 14, 15, 71, 73, 74, 75, 76, 77, 78, 79, 80, 81, 82, 83, 84, 85, 86, 87, 88, 89, 90, 91, 92, 93, 94, 95, 96, 97, 98, 99, 100, 101, 102, 103, 104, 105, 106, 107, 108, 109, 110, 111, 112, 113] rfl (fun y => [(10, .int .i64 (y.1 : Int))]) (fun y => [DevR d18 y.2, wildR, cl b3 29 (tabC t a c)]) (fun y => y.1 ≤ m.length ∧ y.2.Ok ∧ ∃ f, Dw 20 y.2.v f (kbl l t)) (fun y => (m.length - y.1)) (0, g53) ⟨Nat.zero_le _, hk53, _, hdw⟩ (by first | ((repeat refine ⟨rfl, ?_⟩); exact trivial) | (simp only [List.take_zero, List.map_nil, List.flatMap_nil, List.append_nil]; (repeat refine ⟨rfl, ?_⟩); exact trivial)) (by first | exact K.sb | (dsimp only; exact K.sb) | (simp only [List.take_zero, List.map_nil, List.flatMap_nil, List.append_nil]; exact K.sb) | exact K.Sub.refl _) (fun y hI => ?_)
                  have hI1 := hI.1
                  refine K.GC.seq ?_
                  refine K.GC.seq ?_
                  refine K.GC.region ?_
                  refine K.GL.det (K.e_move rfl) rfl ?_
                  refine K.GL.det (K.e_move rfl) rfl ?_
                  refine K.GL.det (K.e_len Try.underlying37 rfl) rfl ?_
                  first | refine K.GL.det ((K.e_lt rfl rfl).yes (by first | omega | assumption | decide +kernel)) rfl ?_ | refine K.GL.det ((K.e_lt rfl rfl).no (by first | omega | assumption | decide +kernel)) rfl ?_ | refine K.GL.det (K.e_lt rfl rfl) rfl ?_
                  refine K.GL.nil ?_
                  refine K.GQ.go ?_
                  refine K.GC.condB rfl (fun h7 => ?_) (fun h7 => ?_)
                  · first
                    | exact absurd h7 (by decide)
                    | try replace h7 := of_decide_eq_true h7
                      refine K.GC.skip ?_
                      refine K.GQ.go ?_
                      refine K.GC.seq ?_
                      refine K.GC.block ?_
                      refine K.GC.region ?_
                      refine K.GL.det (K.e_move rfl) rfl ?_
                      refine K.GL.det (K.e_move rfl) rfl ?_
                      refine K.GL.det ((K.e_add rfl rfl ⟨by omega, by omega⟩).cast_int (b := ((2 + y.1 : Nat) : Int)) (by omega)) rfl ?_
                      refine K.GL.det (K.e_move rfl) rfl ?_
                      refine K.GL.det (K.e_move rfl) rfl ?_
                      first | refine K.GL.ixK sl37 rfl rfl rfl rfl (by assumption) rfl ?_ | refine K.GL.ix sl37 rfl rfl rfl rfl (by omega) rfl (fun q67 hq67 => ?_) | refine K.GL.ixI sl37 rfl rfl rfl rfl (by omega) (by omega) rfl (fun q67 hq67 => ?_) | refine K.GL.det (K.e_indexAddrS sl37 rfl rfl (by assumption) (by omega) (by omega)) rfl ?_ | refine K.GL.det (K.e_indexAddr sl37 rfl rfl (by omega) (by omega)) rfl ?_
                      first | refine K.GL.det (K.e_ldE Try.isAgg5 rfl rfl (by assumption) rfl) rfl ?_ | refine K.GL.det (K.e_ldF Try.isAgg5 rfl rfl (by assumption) rfl) rfl ?_ | refine K.GL.det (K.e_load Try.isAgg5 rfl rfl) rfl ?_ | refine K.GL.det (K.e_load0 Try.isAgg5 rfl (by assumption)) rfl ?_
                      refine gl_block_con (q := q67) Try.call22 rfl  rfl (fun a69 c69 => ?_)
                      refine gl_dwrite_con (g := y.2) (s := y.2.v) (bs := (blk q67)) (i := ((2 + y.1 : Nat) : Int)) Try.call19 rfl hI.2.1 rfl rfl (fun g70 hk70 hv70 => ?_)
                      refine K.GL.nil ?_
                      refine K.GQ.block_normal ?_
                      refine K.GQ.go ?_
                      refine K.GC.region ?_
                      refine K.GL.det (K.e_move rfl) rfl ?_
                      first | refine K.GL.det (K.e_add rfl rfl ⟨by omega, by omega⟩) rfl ?_ | refine K.GL.det (K.e_addw rfl rfl) rfl ?_
                      refine K.GL.det (K.e_assign rfl) rfl ?_
                      refine K.GL.nil ?_
                      obtain ⟨f, hf⟩ := hI.2.2
                      exact K.GQ.round ((y.1 + 1, g70) : Nat × DG) ⟨by show y.1 + 1 ≤ _; omega, hk70, _, by show Dw 20 g70.v _ _; rw [hv70]; exact (hf.write (by omega) (blk_len _)).2⟩ (by simp only; omega) (by (repeat refine ⟨rfl, ?_⟩); exact trivial) (by first | exact K.sb | (dsimp only; exact K.sb))
                  · first
                    | exact absurd h7 (by decide)
                    | try replace h7 := of_decide_eq_false h7
                      refine K.GC.exit ?_
                      refine K.GQ.then_exit ?_
                      refine K.GQ.then_exit ?_
                      refine K.GQ.block_hit ?_
                      refine K.GQ.go ?_
                      refine K.GC.seq ?_
                      refine K.GC.region ?_
                      refine K.GL.det (K.e_move rfl) rfl ?_
                      refine gl_dboot_con (s := y.2.v) (ks := ([] : List Bool)) (hs := ([] : List HX)) (ak := none) (ah := none) (ck := 0) (ch := 0) (o0 := rdc_nil encT) (o1 := rdc_nil encHX) Try.call23 rfl hI.2.1 rfl (by simp) (by simp) rfl (fun g72 hk72 hv72 => ?_)
                      refine K.GL.nil ?_
                      refine K.GQ.go ?_
                      refine K.GC.seq ?_
                      refine K.GC.seq ?_
                      obtain ⟨f, hf⟩ := hI.2.2
                      have hdw2 := hf.boot0
                      rw [← hv72] at hdw2
                      have hdv := hdw2.dv
                      refine K.GC.region ?_
                      refine K.GL.det (K.e_assign rfl) rfl ?_
                      refine K.GL.nil ?_
                      refine K.GQ.go ?_
                      refine K.GC.block ?_
                      refine K.GC.loopk (α := Nat) [1, 3, 7, 8, 14, 15, 99, 100, 101, 102, 103, 104, 105, 106, 107, 108, 109, 110, 111, 112, 113] rfl (fun x => [(11, .int .i64 (x : Int))]) (fun x => [DevR d18 g72, wildR, cl b3 29 (tabC t a c)]) (fun x => x ≤ l.length) (fun x => (l.length - x)) 0 (Nat.zero_le _) (by first | ((repeat refine ⟨rfl, ?_⟩); exact trivial) | (simp only [List.take_zero, List.map_nil, List.flatMap_nil, List.append_nil]; (repeat refine ⟨rfl, ?_⟩); exact trivial)) (by first | exact K.sb | (dsimp only; exact K.sb) | (simp only [List.take_zero, List.map_nil, List.flatMap_nil, List.append_nil]; exact K.sb) | exact K.Sub.refl _) (fun x hI => ?_)
                      refine K.GC.seq ?_
                      refine K.GC.seq ?_
                      refine K.GC.region ?_
                      refine K.GL.det (K.e_move rfl) rfl ?_
                      refine K.GL.det (K.e_move rfl) rfl ?_
                      refine K.GL.det (K.e_len Try.underlying37 rfl) rfl ?_
                      first | refine K.GL.det ((K.e_lt rfl rfl).yes (by first | omega | assumption | decide +kernel)) rfl ?_ | refine K.GL.det ((K.e_lt rfl rfl).no (by first | omega | assumption | decide +kernel)) rfl ?_ | refine K.GL.det (K.e_lt rfl rfl) rfl ?_
                      refine K.GL.nil ?_
                      refine K.GQ.go ?_
                      refine K.GC.condB rfl (fun h8 => ?_) (fun h8 => ?_)
                      · first
                        | exact absurd h8 (by decide)
                        | try replace h8 := of_decide_eq_true h8
                          refine K.GC.skip ?_
                          refine K.GQ.go ?_
                          refine K.GC.seq ?_
                          refine K.GC.block ?_
                          refine K.GC.seq ?_
                          obtain ⟨q, hq⟩ : ∃ q, l[x]? = some q := get_ex (by omega)
                          refine K.GC.region ?_
                          refine K.GL.det (K.e_move rfl) rfl ?_
                          refine K.GL.det (K.e_move rfl) rfl ?_
                          refine K.GL.det ((K.e_add rfl rfl ⟨by omega, by omega⟩).cast_int (b := ((2 + x : Nat) : Int)) (by omega)) rfl ?_
                          refine gl_dread_con (s := g72.v) (i := ((2 + x : Nat) : Int)) Try.call24 rfl hk72 rfl rfl (fun a83 c83 => ?_)
                          rw [hdv.read (i := 2 + x) (by omega), kbl_at hq]
                          dsimp only
                          refine K.GL.det (K.e_move rfl) rfl ?_
                          refine K.GL.det (K.e_extract rfl rfl) rfl ?_
                          refine K.GL.det (K.e_extract rfl rfl) rfl ?_
                          refine K.GL.det (K.e_assign rfl) rfl ?_
                          refine K.GL.det (K.e_assign rfl) rfl ?_
                          refine K.GL.nil ?_
                          refine K.GQ.go ?_
                          refine K.GC.seq ?_
                          refine K.D.GC.drawn0 13 [[], [0], [0, 1], [0, 1, 2], [0, 1, 2, 3], [0, 1, 2], [0, 1, 2], [0, 1, 2, 5, 6], [0, 1, 2, 5, 6, 7], [0, 1, 2, 5, 6, 7, 8], [0, 1, 2, 5, 6, 7, 8, 9], [0, 1, 2, 3, 4, 5, 6, 7, 8, 9, 10], [0, 1, 2, 3, 4, 5, 6, 7, 8, 9, 10, 11]] [[], [0], [1], [2], [2, 3], [2], [2], [2, 5, 6], [2, 7], [2, 8], [2, 9], [2, 4, 10], [2, 11]] [[], [], [], [], [], [], [], [], [], [], [9], [], []] [[], [], [], [], [], [], [], [], [], [], [], [], []] [9] [1, 3, 6, 7, 8, 11, 12, 13, 14, 15, 73, 74, 75, 76, 77, 78, 79, 80, 81, 82, 83, 84, 85, 99, 100, 101, 102, 103, 104, 105, 106, 107, 108, 109, 110, 111, 112, 113] (by kernel_rfl) (by kernel_rfl) (by kernel_rfl) rfl ?_
                          refine K.D.DW.det (b := []) (u := []) rfl rfl rfl (fun vs hf => K.e_move rfl) ?_
                          first | refine K.D.DW.det (b := [0]) (u := []) rfl rfl rfl (fun vs hf => (K.e_ne rfl rfl).yes (by first | omega | assumption | decide +kernel)) ?_ | refine K.D.DW.det (b := [0]) (u := []) rfl rfl rfl (fun vs hf => (K.e_ne rfl rfl).no (by first | omega | assumption | decide +kernel)) ?_ | refine K.D.DW.det (b := [0]) (u := []) rfl rfl rfl (fun vs hf => K.e_ne rfl rfl) ?_
                          refine K.D.DW.det (b := [1]) (u := []) rfl rfl rfl (fun vs hf => K.e_move rfl) ?_
                          first | (refine K.D.DW.want (b := [2]) rfl (fun _ => rfl) ?_; first | refine K.D.DW.det (b := [2]) (u := []) rfl rfl rfl (fun vs hf => K.e_move rfl) ?_) | refine K.D.DW.skip (b := [2]) rfl rfl (fun _ => rfl) ?_
                          first | (refine K.D.DW.want (b := [2, 3]) rfl (fun _ => rfl) ?_; first | refine K.D.DW.det (b := [2, 3]) (u := []) rfl rfl rfl (fun vs hf => K.e_str Try.underlying37 Try.underlying5 Try.underlying9 rfl rfl) ?_ | refine K.D.DW.det (b := [2, 3]) (u := []) rfl rfl rfl (fun vs hf => K.e_b2s Try.underlying37 Try.underlying5 Try.underlying9 rfl (by first | assumption | omega | rfl | simp [*])) ?_) | refine K.D.DW.skip (b := [2, 3]) rfl rfl (fun _ => rfl) ?_
                          first | (refine K.D.DW.want (b := [2]) rfl (fun _ => rfl) ?_; first | refine K.D.DW.det (b := [2]) (u := []) rfl rfl rfl (fun vs hf => K.e_move rfl) ?_) | refine K.D.DW.skip (b := [2]) rfl rfl (fun _ => rfl) ?_
                          first | (refine K.D.DW.want (b := [2]) rfl (fun _ => rfl) ?_; first | refine K.D.DW.det (b := [2]) (u := []) rfl rfl rfl (fun vs hf => K.e_move rfl) ?_) | refine K.D.DW.skip (b := [2]) rfl rfl (fun _ => rfl) ?_
                          first | (refine K.D.DW.want (b := [2, 5, 6]) rfl (fun _ => rfl) ?_; first | refine K.D.DW.det (b := [2, 5, 6]) (u := []) rfl rfl rfl (fun vs hf => K.e_ixN sl37 rfl rfl rfl rfl (by omega)) ?_ | refine K.D.DW.det (b := [2, 5, 6]) (u := []) rfl rfl rfl (fun vs hf => K.e_ix sl37 rfl rfl rfl rfl (by omega) (by omega)) ?_ | refine K.D.DW.det (b := [2, 5, 6]) (u := []) rfl rfl rfl (fun vs hf => K.e_indexAddrS sl37 rfl rfl (by assumption) (by omega) (by omega)) ?_ | refine K.D.DW.det (b := [2, 5, 6]) (u := []) rfl rfl rfl (fun vs hf => K.e_indexAddr sl37 rfl rfl (by omega) (by omega)) ?_) | refine K.D.DW.skip (b := [2, 5, 6]) rfl rfl (fun _ => rfl) ?_
                          first | (refine K.D.DW.want (b := [2, 7]) rfl (fun _ => rfl) ?_; first | refine K.D.DW.det (b := [2, 7]) (u := []) rfl rfl rfl (fun vs hf => K.e_ldE Try.isAgg5 rfl rfl (by assumption) rfl) ?_ | refine K.D.DW.det (b := [2, 7]) (u := []) rfl rfl rfl (fun vs hf => K.e_ldF Try.isAgg5 rfl rfl (by assumption) rfl) ?_ | refine K.D.DW.det (b := [2, 7]) (u := []) rfl rfl rfl (fun vs hf => K.e_load Try.isAgg5 rfl rfl) ?_ | refine K.D.DW.det (b := [2, 7]) (u := []) rfl rfl rfl (fun vs hf => K.e_load0 Try.isAgg5 rfl (by assumption)) ?_) | refine K.D.DW.skip (b := [2, 7]) rfl rfl (fun _ => rfl) ?_
                          first | (refine K.D.DW.want (b := [2, 8]) rfl (fun _ => rfl) ?_; first | refine K.D.DW.ev0 (b := [2, 8]) (u := []) (a := []) rfl rfl rfl (fun vs hf => show K.D.EvM _ _ _ _ (_) [] _ _ _ _ _ from em_block_con (q := q) Try.call22 rfl ) ?_) | refine K.D.DW.skip (b := [2, 8]) rfl rfl (fun _ => rfl) ?_
                          first | (refine K.D.DW.want (b := [2, 9]) rfl (fun _ => rfl) ?_; first | refine K.D.DW.det (b := [2, 9]) (u := [9]) rfl rfl rfl (fun vs ⟨hf95, _⟩ => show K.Ev _ _ _ _ (_ :: _) _ _ _ _ from K.e_str Try.underlying37 Try.underlying5 Try.underlying9 rfl rfl) ?_ | refine K.D.DW.det (b := [2, 9]) (u := [9]) rfl rfl rfl (fun vs ⟨hf95, _⟩ => show K.Ev _ _ _ _ (_ :: _) _ _ _ _ from K.e_b2s Try.underlying37 Try.underlying5 Try.underlying9 rfl (by first | assumption | omega | rfl | simp [*])) ?_) | refine K.D.DW.skip (b := [2, 9]) rfl rfl (fun _ => rfl) ?_
                          first | (refine K.D.DW.want (b := [2, 4, 10]) rfl (fun _ => rfl) ?_; first | refine K.D.DW.det (b := [2, 4, 10]) (u := []) rfl rfl rfl (fun vs hf => (K.e_nes Try.underlying9 rfl rfl).cast_bool (b := false) (by simp)) ?_) | refine K.D.DW.skip (b := [2, 4, 10]) rfl rfl (fun _ => rfl) ?_
                          first | refine K.D.DW.det (b := [2, 11]) (u := []) rfl rfl rfl (fun vs hf => K.e_pick_t rfl rfl) ?_ | refine K.D.DW.det (b := [2, 11]) (u := []) rfl rfl rfl (fun vs hf => K.e_pick_f rfl rfl) ?_
                          refine K.D.DW.fin (fun vs hf => ?_)
                          refine K.GL.keep [1, 3, 6, 7, 8, 11, 12, 13, 14, 15, 73, 74, 75, 76, 77, 78, 79, 80, 81, 82, 83, 84, 85, 86, 87, 88, 89, 90, 91, 92, 93, 94, 95, 96, 97, 98, 99, 100, 101, 102, 103, 104, 105, 106, 107, 108, 109, 110, 111, 112, 113] rfl ?_
                          refine K.D.GL.res1 rfl ?_
                          try dsimp only
                          clear hf
                          generalize (vs 9 0).1 = a95, (vs 9 0).2 = c95
                          try clear vs
                          refine K.GL.nil ?_
                          refine K.GQ.go ?_
                          refine K.GC.condB rfl (fun h9 => ?_) (fun h9 => ?_)
                          · first
                            | exact absurd h9 (by decide)
                            | try replace h9 := of_decide_eq_true h9
                              refine K.GC.seq ?_
                              exfalso; first | contradiction | omega | simp_all
                          · first
                            | exact absurd h9 (by decide)
                            | try replace h9 := of_decide_eq_false h9
                              refine K.GC.skip ?_
                              refine K.GQ.block_normal ?_
                              refine K.GQ.go ?_
                              refine K.GC.region ?_
                              refine K.GL.det (K.e_move rfl) rfl ?_
                              first | refine K.GL.det (K.e_add rfl rfl ⟨by omega, by omega⟩) rfl ?_ | refine K.GL.det (K.e_addw rfl rfl) rfl ?_
                              refine K.GL.det (K.e_assign rfl) rfl ?_
                              refine K.GL.nil ?_
                              exact K.GQ.round (x + 1) (by show x + 1 ≤ _; omega) (by omega) (by (repeat refine ⟨rfl, ?_⟩); exact trivial) (by first | exact K.sb | (dsimp only; exact K.sb))
                      · first
                        | exact absurd h8 (by decide)
                        | try replace h8 := of_decide_eq_false h8
                          refine K.GC.exit ?_
                          refine K.GQ.then_exit ?_
                          refine K.GQ.then_exit ?_
                          refine K.GQ.block_hit ?_
                          refine K.GQ.go ?_
                          refine K.GC.seq ?_
                          refine K.GC.region ?_
                          refine K.GL.det (K.e_move rfl) rfl ?_
                          refine gl_load_con (s := g72.v) Try.call17 rfl hk72 rfl rfl (fun a101 c101 => ?_)
                          rw [hdv.kbl hR]
                          dsimp only
                          refine K.GL.det (K.e_move rfl) rfl ?_
                          refine K.GL.det (K.e_extract rfl rfl) rfl ?_
                          refine K.GL.det (K.e_extract rfl rfl) rfl ?_
                          refine K.GL.det (K.e_extract rfl rfl) rfl ?_
                          refine K.GL.alloc Try.zeroValue29 rfl rfl (fun b14 => ?_)
                          refine K.GL.storeP (vs := tabC t a101 c101) (cs' := tabC t a101 c101) rfl rfl rfl Try.sizeOf29 rfl rfl (by exact spliceO_all rfl) ?_
                          refine K.GL.det (K.e_assign rfl) rfl ?_
                          refine K.GL.det (K.e_assign rfl) rfl ?_
                          refine K.GL.nil ?_
                          refine K.GQ.go ?_
                          refine K.GC.seq ?_
                          refine K.GC.region ?_
                          refine K.GL.det (K.e_move rfl) rfl ?_
                          refine K.GL.det (K.e_move rfl) rfl ?_
                          first | refine K.GL.splitB 106 rfl (fun h10 => ?_) (fun h10 => ?_) | skip
                          all_goals first | exact absurd h10 (by decide) | replace h10 := of_decide_eq_true h10 | replace h10 := of_decide_eq_false h10 | skip
                          all_goals
                            first | (refine K.GL.want 106 rfl rfl rfl ?_; first | refine K.GL.det (K.e_move rfl) rfl ?_) | refine K.GL.skip 106 rfl rfl rfl rfl ?_ | refine K.GL.skipU 106 rfl rfl rfl rfl ?_
                            first | refine K.GL.det (K.e_pick_t rfl rfl) rfl ?_ | refine K.GL.det (K.e_pick_f rfl rfl) rfl ?_
                            refine K.GL.det (K.e_move rfl) rfl ?_
                            first | refine K.GL.splitB 109 rfl (fun h11 => ?_) (fun h11 => ?_) | skip
                            all_goals first | exact absurd h11 (by decide) | replace h11 := of_decide_eq_true h11 | replace h11 := of_decide_eq_false h11 | skip
                            all_goals
                              first | (refine K.GL.want 109 rfl rfl rfl ?_; first | refine K.GL.det (K.e_ldA Try.isAgg29 Try.sizeOf29 rfl rfl (by assumption)) rfl ?_ | refine K.GL.det (K.e_ldAF Try.isAgg29 Try.sizeOf29 rfl rfl (by assumption) rfl) rfl ?_ | refine K.GL.det (K.e_loads Try.isAgg29 Try.sizeOf29 rfl rfl) rfl ?_) | refine K.GL.skip 109 rfl rfl rfl rfl ?_ | refine K.GL.skipU 109 rfl rfl rfl rfl ?_
                              first | (refine K.GL.want 109 rfl rfl rfl ?_; first | refine K.GL.det (K.e_ldA Try.isAgg29 Try.sizeOf29 rfl rfl (by assumption)) rfl ?_ | refine K.GL.det (K.e_ldAF Try.isAgg29 Try.sizeOf29 rfl rfl (by assumption) rfl) rfl ?_ | refine K.GL.det (K.e_loads Try.isAgg29 Try.sizeOf29 rfl rfl) rfl ?_) | refine K.GL.skip 109 rfl rfl rfl rfl ?_ | refine K.GL.skipU 109 rfl rfl rfl rfl ?_
                              first | (refine K.GL.want 109 rfl rfl rfl ?_; first | refine K.GL.det ((ev_rsame_con (t := t) (u := t) Try.call18 rfl (by first | assumption | exact getT_len _ | (simp; done) | decide) (by first | assumption | exact getT_len _ | (simp; done) | decide)).cast_bool (b := true) (decide_eq_true rfl)) rfl ?_) | refine K.GL.skip 109 rfl rfl rfl rfl ?_ | refine K.GL.skipU 109 rfl rfl rfl rfl ?_
                              first | refine K.GL.det (K.e_pick_t rfl rfl) rfl ?_ | refine K.GL.det (K.e_pick_f rfl rfl) rfl ?_
                              refine K.GL.det (K.e_assign rfl) rfl ?_
                              refine K.GL.nil ?_
                              refine K.GQ.go ?_
                              refine K.GC.ret ?_
                              refine K.GQ.ret1 Try.results5 rfl (fun w hT => ?_)
                              exact ⟨rfl, hT.sub K.sb⟩

set_option maxHeartbeats 1000000 in
set_option maxRecDepth 100000 in
theorem SuperBarrier_lifted (os : Os) (started : os.Started) (H : Type) (enc : TypeId × Value → H) :
    ReturnsInHanded {} Try.checked os 5 .any (Rows.superBarrierSpec.pre6 enc Try.prog Try.f5 Rows.superBarrierRow.domain false) (Rows.superBarrierSpec.post enc Try.prog Try.f5 false true false false) := by
  refine returnsInHanded_of_change_sized (C := Try.checked) own started (by kernel_rfl) Try.func5
    (ChangeSpec.witness6 (enc := enc) (C := Try.checked) false ⟨#[], #[.agg #[.int .i64 0, .int .i64 0, .slice none 0 0], .slice none 0 0, .slice none 0 0], []⟩ 8 (by kernel_rfl) (by kernel_rfl) (by kernel_rfl) (by kernel_rfl)) ?_
  intro W base args ds gs before hval0 hW _ hsz0 _
  have hval : ∀ (j : Nat) t v, Try.f5.params[j]? = some t → args[j]? = some v → Value.okWide Try.prog W .any base t v := hval0
  have hsz : (DataW.weightsEach Try.prog (Try.f5.params.toList ++ []) (ds ++ gs)).all (· ≤ reachBytes) = true := hsz0
  have hW' := hW
  obtain ⟨p, q, hA0, hV, hpe, hfz, hnd⟩ := hW
  have hA : DataW.TrodAll enc Try.prog W 0 (fun _ => true) true Try.f5.params.toList args.toList ds p := hA0
  obtain ⟨rfl, rfl⟩ := trodVars_none hV
  rw [Try.params5] at hA hval hsz
  obtain ⟨v0, vs0, d0, ds0, p0, q0, hargs, rfl, rfl, h0, r0⟩ := trodAll_cons hA
  obtain ⟨v1, vs1, d1, ds1, p1, q1, rfl, rfl, rfl, h1, r1⟩ := trodAll_cons r0
  obtain ⟨v2, vs2, d2, ds2, p2, q2, rfl, rfl, rfl, h2, r2⟩ := trodAll_cons r1
  obtain ⟨rfl, rfl, rfl⟩ := trodAll_nil r2
  obtain rfl : args = #[v0, v1, v2] := by cases args; simp_all
  clear hA0 hval0 hsz0 hA hargs
  obtain ⟨csz, rfl, _⟩ := okWide_struct Try.underlying29 (hval 0 29 _ rfl rfl)
  obtain ⟨fuelz, hfz⟩ := h0
  obtain ⟨tz, az, cz, hcsz, hnz, hcz, hoz⟩ := open_tab _ _ _ hfz
  unfold maxLen at hnz
  obtain rfl : csz = (tabC tz az cz).toArray := by
    have : csz.toList = tabC tz az cz := by simpa [Value.cells] using hcsz
    rw [← this]
  obtain ⟨ax, nnx, cx, rfl⟩ := okWide_slice Try.underlying37 (hval 1 37 _ rfl rfl)
  obtain ⟨fuelx, hfx⟩ := h1
  obtain ⟨aax, ccx, lx, hcsx, hnx, hcx, hox, hGx⟩ := open_row (e := encB) Try.underlying37 (by kernel_rfl) (each_u8 Try.underlying5) hfx
  have hcsx' : Value.slice ax nnx cx = .slice aax lx.length ccx := by simpa [Value.cells] using hcsx
  simp only [Value.slice.injEq] at hcsx'
  obtain ⟨rfl, rfl, rfl⟩ := hcsx'
  unfold maxLen at hnx
  obtain ⟨ay, nny, cy, rfl⟩ := okWide_slice Try.underlying37 (hval 2 37 _ rfl rfl)
  obtain ⟨fuely, hfy⟩ := h2
  obtain ⟨aay, ccy, ly, hcsy, hny, hcy, hoy, hGy⟩ := open_row (e := encB) Try.underlying37 (by kernel_rfl) (each_u8 Try.underlying5) hfy
  have hcsy' : Value.slice ay nny cy = .slice aay ly.length ccy := by simpa [Value.cells] using hcsy
  simp only [Value.slice.injEq] at hcsy'
  obtain ⟨rfl, rfl, rfl⟩ := hcsy'
  unfold maxLen at hny
  have core : Calls Try.prog 5 #[.agg (tabC tz az cz).toArray, .slice ax lx.length cx, .slice ay ly.length cy] W fun e W' => e = .returned (.bool true) ∧ Tr W [wildR] W' [wildR] := barrier_con hnz (by omega) (by omega) disj1W ok1W
  exact core.mono fun e W' ⟨he, hT⟩ => ⟨_, he, law_post (tb := 4) hW' rfl rfl Try.underlying4 (fun _ => rfl) laidOut (by kernel_rfl) (Tr.belowW hT)⟩
theorem SuperBarrier_holds : Rows.SuperBarrierSaid :=
  OpenClaim.holds_of_wide 5 Try.f5 rfl rfl rfl rfl rfl rfl rfl ⟨rfl, rfl, rfl, rfl, rfl⟩ rfl rfl rfl rfl rfl (by kernel_rfl) Try.func5 (by kernel_rfl)
    (of_decide_eq_true (by kernel_rfl)) (by unfold Func.isWrapper; first | (rw [if_pos (by decide +kernel)]; kernel_rfl) | (rw [if_neg (by decide +kernel)]; exact ⟨rfl, rfl⟩))
    (fun os started H enc _ => SuperBarrier_lifted os started H enc)

end Go.Proofs.Ytdbedajaapamhaa
