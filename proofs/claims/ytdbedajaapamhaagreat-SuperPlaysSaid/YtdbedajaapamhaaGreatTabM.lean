/- The order of what a table names, by the reference. -/
import Derived.Test.YtdbedajaapamhaaGreatTabL
namespace Go.Proofs.YtdbedajaapamhaaGreat
open Go Go.K
set_option linter.unusedVariables false
set_option linter.unusedSimpArgs false
attribute [local irreducible] Calls Ev GL GC GQ GR Code.wp

theorem run_eqX (w : World) (x y : Ext) : (Op.equalIn 10000 82 (.agg (encX.f x).toArray) (.agg (encX.f y).toArray)).run Tryz.prog w = .ok (decide (x = y)) w := by
  have hF : ∃ fs, Tryz.prog.underlying 82 = some (.struct fs) ∧ Tryz.prog.fieldsOf 82 = fs := ⟨_, Tryz.underlying82, by simp only [Program.fieldsOf, Tryz.underlying82]⟩
  obtain ⟨fs, h1, h2⟩ := hF
  rw [run_equalIn_agg w 9999 82 _ _ (by rw [h2]; exact h1) (by kernel_rfl)]
  rw [h2]
  rw [Tryz.underlying82] at h1
  simp only [Option.some.injEq, TypeDesc.struct.injEq] at h1
  subst h1
  show (Op.eqFields (9998 + 1) (encX.f x).toArray (encX.f y).toArray (_ :: _ :: [])).run _ _ = _
  rw [eqF_int (by decide) Tryz.isAgg2 Tryz.underlying2 rfl rfl, eqF_int (by decide) Tryz.isAgg3 Tryz.underlying3 rfl rfl]
  have e : (Op.eqFields 9999 (encX.f x).toArray (encX.f y).toArray []).run Tryz.prog w = .ok true w := rfl
  have e2 := e
  simp only [Op.eqFields, Sem.run_pure]
  obtain ⟨s1, l1⟩ := x
  obtain ⟨s2, l2⟩ := y
  by_cases h1 : s1 = s2
  · rw [if_pos h1]
    by_cases h2 : l1 = l2
    · rw [if_pos h2]; subst h1 h2; rw [decide_eq_true rfl]
    · rw [if_neg h2, decide_eq_false]; intro h; cases h; exact h2 rfl
  · rw [if_neg h1, decide_eq_false]; intro h; cases h; exact h1 rfl

/- turntable/turntableref09.Same -/
set_option maxHeartbeats 4000000 in
set_option maxRecDepth 100000 in
theorem rsame_con {t u : Tab} {a a2 : Option Addr} {c c2 : Nat} {w : World} (hl : t.exts.length ≤ 9223372036854775807) (hu : u.exts.length ≤ 9223372036854775807) [Old w [] a (encX) (t.exts)] [Old w [] a2 (encX) (u.exts)] :
    Calls Tryz.prog 18 #[.agg (tabC t a c).toArray, .agg (tabC u a2 c2).toArray] w fun e w' => e = .returned (.bool (decide (t = u))) ∧ Tr w [] w' [] := by
  refine K.enter0 (args := [_, _]) Tryz.func18 rfl Tryz.ntmps18 rfl ?_
  refine K.GC.seq ?_
  refine K.GC.region ?_
  refine K.GL.box rfl rfl rfl (fun b2 => ?_)
  refine K.GL.box rfl rfl rfl (fun b3 => ?_)
  refine K.GL.det (K.e_assign rfl) rfl ?_
  refine K.GL.nil ?_
  refine K.GQ.go ?_
  refine K.GC.seq ?_
  refine K.GC.seq ?_
  refine K.GC.region ?_
  first | refine K.GL.det (K.e_fa fo31_0 rfl) rfl ?_ | refine K.GL.det (K.e_fieldAddr fo31_0 rfl) rfl ?_
  first | refine K.GL.det (K.e_ldE Tryz.isAgg2 rfl rfl (by assumption) rfl) rfl ?_ | refine K.GL.det (K.e_ldF Tryz.isAgg2 rfl rfl (by assumption) rfl) rfl ?_ | refine K.GL.det (K.e_load Tryz.isAgg2 rfl rfl) rfl ?_ | refine K.GL.det (K.e_load0 Tryz.isAgg2 rfl (by assumption)) rfl ?_
  first | refine K.GL.det (K.e_fa fo31_0 rfl) rfl ?_ | refine K.GL.det (K.e_fieldAddr fo31_0 rfl) rfl ?_
  first | refine K.GL.det (K.e_ldE Tryz.isAgg2 rfl rfl (by assumption) rfl) rfl ?_ | refine K.GL.det (K.e_ldF Tryz.isAgg2 rfl rfl (by assumption) rfl) rfl ?_ | refine K.GL.det (K.e_load Tryz.isAgg2 rfl rfl) rfl ?_ | refine K.GL.det (K.e_load0 Tryz.isAgg2 rfl (by assumption)) rfl ?_
  first | refine K.GL.det ((K.e_ne rfl rfl).yes (by first | omega | assumption | decide +kernel)) rfl ?_ | refine K.GL.det ((K.e_ne rfl rfl).no (by first | omega | assumption | decide +kernel)) rfl ?_ | refine K.GL.det (K.e_ne rfl rfl) rfl ?_
  refine K.GL.det (K.e_move rfl) rfl ?_
  first | refine K.GL.splitB 11 rfl (fun h1 => ?_) (fun h1 => ?_) | skip
  all_goals first | exact absurd h1 (by decide) | replace h1 := of_decide_eq_true h1 | replace h1 := of_decide_eq_false h1 | skip
  all_goals
    first | (refine K.GL.want 11 rfl rfl rfl ?_; first | refine K.GL.det (K.e_fa fo31_1 rfl) rfl ?_ | refine K.GL.det (K.e_fieldAddr fo31_1 rfl) rfl ?_) | refine K.GL.skip 11 rfl rfl rfl rfl ?_ | refine K.GL.skipU 11 rfl rfl rfl rfl ?_
    first | (refine K.GL.want 11 rfl rfl rfl ?_; first | refine K.GL.det (K.e_ldE Tryz.isAgg3 rfl rfl (by assumption) rfl) rfl ?_ | refine K.GL.det (K.e_ldF Tryz.isAgg3 rfl rfl (by assumption) rfl) rfl ?_ | refine K.GL.det (K.e_load Tryz.isAgg3 rfl rfl) rfl ?_ | refine K.GL.det (K.e_load0 Tryz.isAgg3 rfl (by assumption)) rfl ?_) | refine K.GL.skip 11 rfl rfl rfl rfl ?_ | refine K.GL.skipU 11 rfl rfl rfl rfl ?_
    first | (refine K.GL.want 11 rfl rfl rfl ?_; first | refine K.GL.det (K.e_fa fo31_1 rfl) rfl ?_ | refine K.GL.det (K.e_fieldAddr fo31_1 rfl) rfl ?_) | refine K.GL.skip 11 rfl rfl rfl rfl ?_ | refine K.GL.skipU 11 rfl rfl rfl rfl ?_
    first | (refine K.GL.want 11 rfl rfl rfl ?_; first | refine K.GL.det (K.e_ldE Tryz.isAgg3 rfl rfl (by assumption) rfl) rfl ?_ | refine K.GL.det (K.e_ldF Tryz.isAgg3 rfl rfl (by assumption) rfl) rfl ?_ | refine K.GL.det (K.e_load Tryz.isAgg3 rfl rfl) rfl ?_ | refine K.GL.det (K.e_load0 Tryz.isAgg3 rfl (by assumption)) rfl ?_) | refine K.GL.skip 11 rfl rfl rfl rfl ?_ | refine K.GL.skipU 11 rfl rfl rfl rfl ?_
    first | (refine K.GL.want 11 rfl rfl rfl ?_; first | refine K.GL.det ((K.e_ne rfl rfl).yes (by first | omega | assumption | decide +kernel)) rfl ?_ | refine K.GL.det ((K.e_ne rfl rfl).no (by first | omega | assumption | decide +kernel)) rfl ?_ | refine K.GL.det (K.e_ne rfl rfl) rfl ?_) | refine K.GL.skip 11 rfl rfl rfl rfl ?_ | refine K.GL.skipU 11 rfl rfl rfl rfl ?_
    first | refine K.GL.det (K.e_pick_t rfl rfl) rfl ?_ | refine K.GL.det (K.e_pick_f rfl rfl) rfl ?_
    refine K.GL.det (K.e_move rfl) rfl ?_
    first | refine K.GL.splitB 18 rfl (fun h2 => ?_) (fun h2 => ?_) | skip
    all_goals first | exact absurd h2 (by decide) | replace h2 := of_decide_eq_true h2 | replace h2 := of_decide_eq_false h2 | skip
    all_goals
      first | (refine K.GL.want 18 rfl rfl rfl ?_; first | refine K.GL.det (K.e_fa fo31_2 rfl) rfl ?_ | refine K.GL.det (K.e_fieldAddr fo31_2 rfl) rfl ?_) | refine K.GL.skip 18 rfl rfl rfl rfl ?_ | refine K.GL.skipU 18 rfl rfl rfl rfl ?_
      first | (refine K.GL.want 18 rfl rfl rfl ?_; first | refine K.GL.det (K.e_ldE Tryz.isAgg29 rfl rfl (by assumption) rfl) rfl ?_ | refine K.GL.det (K.e_ldF Tryz.isAgg29 rfl rfl (by assumption) rfl) rfl ?_ | refine K.GL.det (K.e_load Tryz.isAgg29 rfl rfl) rfl ?_ | refine K.GL.det (K.e_load0 Tryz.isAgg29 rfl (by assumption)) rfl ?_) | refine K.GL.skip 18 rfl rfl rfl rfl ?_ | refine K.GL.skipU 18 rfl rfl rfl rfl ?_
      first | (refine K.GL.want 18 rfl rfl rfl ?_; first | refine K.GL.det (K.e_len Tryz.underlying29 rfl) rfl ?_) | refine K.GL.skip 18 rfl rfl rfl rfl ?_ | refine K.GL.skipU 18 rfl rfl rfl rfl ?_
      first | (refine K.GL.want 18 rfl rfl rfl ?_; first | refine K.GL.det (K.e_fa fo31_2 rfl) rfl ?_ | refine K.GL.det (K.e_fieldAddr fo31_2 rfl) rfl ?_) | refine K.GL.skip 18 rfl rfl rfl rfl ?_ | refine K.GL.skipU 18 rfl rfl rfl rfl ?_
      first | (refine K.GL.want 18 rfl rfl rfl ?_; first | refine K.GL.det (K.e_ldE Tryz.isAgg29 rfl rfl (by assumption) rfl) rfl ?_ | refine K.GL.det (K.e_ldF Tryz.isAgg29 rfl rfl (by assumption) rfl) rfl ?_ | refine K.GL.det (K.e_load Tryz.isAgg29 rfl rfl) rfl ?_ | refine K.GL.det (K.e_load0 Tryz.isAgg29 rfl (by assumption)) rfl ?_) | refine K.GL.skip 18 rfl rfl rfl rfl ?_ | refine K.GL.skipU 18 rfl rfl rfl rfl ?_
      first | (refine K.GL.want 18 rfl rfl rfl ?_; first | refine K.GL.det (K.e_len Tryz.underlying29 rfl) rfl ?_) | refine K.GL.skip 18 rfl rfl rfl rfl ?_ | refine K.GL.skipU 18 rfl rfl rfl rfl ?_
      first | (refine K.GL.want 18 rfl rfl rfl ?_; first | refine K.GL.det ((K.e_ne rfl rfl).yes (by first | omega | assumption | decide +kernel)) rfl ?_ | refine K.GL.det ((K.e_ne rfl rfl).no (by first | omega | assumption | decide +kernel)) rfl ?_ | refine K.GL.det (K.e_ne rfl rfl) rfl ?_) | refine K.GL.skip 18 rfl rfl rfl rfl ?_ | refine K.GL.skipU 18 rfl rfl rfl rfl ?_
      first | refine K.GL.det (K.e_pick_t rfl rfl) rfl ?_ | refine K.GL.det (K.e_pick_f rfl rfl) rfl ?_
      refine K.GL.nil ?_
      refine K.GQ.go ?_
      refine K.GC.condB rfl (fun h3 => ?_) (fun h3 => ?_)
      · first
        | exact absurd h3 (by decide)
        | try replace h3 := of_decide_eq_true h3
          refine K.GC.seq ?_
          refine K.GC.region ?_
          refine K.GL.det (K.e_assign rfl) rfl ?_
          refine K.GL.nil ?_
          refine K.GQ.go ?_
          refine K.GC.ret ?_
          refine K.GQ.then_ret ?_
          refine K.GQ.ret1 Tryz.results18 rfl (fun w hT => ?_)
          by_cases hlm : t = u
          · rw [decide_eq_true hlm]
            first | exact ⟨rfl, hT.nil⟩ | (exfalso; subst hlm; simp_all; done)
          · rw [decide_eq_false hlm]
            first | exact ⟨rfl, hT.nil⟩ | (exfalso; have h := hI.2; rw [List.take_of_length_le (by omega), List.take_of_length_le (by omega)] at h; exact hlm (by obtain ⟨g1, o1, e1⟩ := t; obtain ⟨g2, o2, e2⟩ := u; simp_all))
      · first
        | exact absurd h3 (by decide)
        | try replace h3 := of_decide_eq_false h3
          refine K.GC.skip ?_
          refine K.GQ.go ?_
          refine K.GC.seq ?_
          refine K.GC.seq ?_
          refine K.GC.region ?_
          refine K.GL.det (K.e_assign rfl) rfl ?_
          refine K.GL.nil ?_
          refine K.GQ.go ?_
          refine K.GC.block ?_
          refine K.GC.loopk (α := Nat) [2, 3] rfl (fun x => [(5, .int .i64 (x : Int))]) (fun x => [cl b3 31 (tabC u a2 c2), cl b2 31 (tabC t a c)]) (fun x => x ≤ t.exts.length ∧ t.exts.take x = u.exts.take x) (fun x => (t.exts.length - x)) 0 ⟨Nat.zero_le _, rfl⟩ (by first | ((repeat refine ⟨rfl, ?_⟩); exact trivial) | (simp only [List.take_zero, List.map_nil, List.flatMap_nil, List.append_nil]; (repeat refine ⟨rfl, ?_⟩); exact trivial)) (by first | exact K.sb | (dsimp only; exact K.sb) | (simp only [List.take_zero, List.map_nil, List.flatMap_nil, List.append_nil]; exact K.sb) | exact K.Sub.refl _) (fun x hI => ?_)
          refine K.GC.seq ?_
          refine K.GC.seq ?_
          refine K.GC.region ?_
          refine K.GL.det (K.e_move rfl) rfl ?_
          first | refine K.GL.det (K.e_fa fo31_2 rfl) rfl ?_ | refine K.GL.det (K.e_fieldAddr fo31_2 rfl) rfl ?_
          first | refine K.GL.det (K.e_ldE Tryz.isAgg29 rfl rfl (by assumption) rfl) rfl ?_ | refine K.GL.det (K.e_ldF Tryz.isAgg29 rfl rfl (by assumption) rfl) rfl ?_ | refine K.GL.det (K.e_load Tryz.isAgg29 rfl rfl) rfl ?_ | refine K.GL.det (K.e_load0 Tryz.isAgg29 rfl (by assumption)) rfl ?_
          refine K.GL.det (K.e_len Tryz.underlying29 rfl) rfl ?_
          first | refine K.GL.det ((K.e_lt rfl rfl).yes (by first | omega | assumption | decide +kernel)) rfl ?_ | refine K.GL.det ((K.e_lt rfl rfl).no (by first | omega | assumption | decide +kernel)) rfl ?_ | refine K.GL.det (K.e_lt rfl rfl) rfl ?_
          refine K.GL.nil ?_
          refine K.GQ.go ?_
          refine K.GC.condB rfl (fun h4 => ?_) (fun h4 => ?_)
          · first
            | exact absurd h4 (by decide)
            | try replace h4 := of_decide_eq_true h4
              refine K.GC.skip ?_
              refine K.GQ.go ?_
              refine K.GC.seq ?_
              refine K.GC.block ?_
              refine K.GC.seq ?_
              obtain ⟨ql, hql⟩ : ∃ q, t.exts[x]? = some q := get_ex (by omega)
              obtain ⟨qm, hqm⟩ : ∃ q, u.exts[x]? = some q := get_ex (by omega)
              refine K.D.GC.drawn0 11 [[], [0], [], [0, 1, 2], [0, 1, 2, 3], [], [5], [], [5, 6, 7], [5, 6, 7, 8], [0, 1, 2, 3, 4, 5, 6, 7, 8, 9]] [[], [0], [], [1, 2], [3], [], [5], [], [6, 7], [8], [4, 9]] [[], [], [], [], [], [], [], [], [], [], []] [[], [], [], [], [], [], [], [], [], [], []] [] [2, 3, 4, 5, 27, 28, 29, 30, 31, 32, 33] (by kernel_rfl) (by kernel_rfl) (by kernel_rfl) rfl ?_
              first | refine K.D.DW.det (b := []) (u := []) rfl rfl rfl (fun vs hf => K.e_fa fo31_2 rfl) ?_ | refine K.D.DW.det (b := []) (u := []) rfl rfl rfl (fun vs hf => K.e_fieldAddr fo31_2 rfl) ?_
              first | refine K.D.DW.det (b := [0]) (u := []) rfl rfl rfl (fun vs hf => K.e_ldE Tryz.isAgg29 rfl rfl (by assumption) rfl) ?_ | refine K.D.DW.det (b := [0]) (u := []) rfl rfl rfl (fun vs hf => K.e_ldF Tryz.isAgg29 rfl rfl (by assumption) rfl) ?_ | refine K.D.DW.det (b := [0]) (u := []) rfl rfl rfl (fun vs hf => K.e_load Tryz.isAgg29 rfl rfl) ?_ | refine K.D.DW.det (b := [0]) (u := []) rfl rfl rfl (fun vs hf => K.e_load0 Tryz.isAgg29 rfl (by assumption)) ?_
              refine K.D.DW.det (b := []) (u := []) rfl rfl rfl (fun vs hf => K.e_move rfl) ?_
              first | refine K.D.DW.det (b := [1, 2]) (u := []) rfl rfl rfl (fun vs hf => K.e_ixN sl29 rfl rfl rfl rfl (by omega)) ?_ | refine K.D.DW.det (b := [1, 2]) (u := []) rfl rfl rfl (fun vs hf => K.e_ix sl29 rfl rfl rfl rfl (by omega) (by omega)) ?_ | refine K.D.DW.det (b := [1, 2]) (u := []) rfl rfl rfl (fun vs hf => K.e_indexAddrS sl29 rfl rfl (by assumption) (by omega) (by omega)) ?_ | refine K.D.DW.det (b := [1, 2]) (u := []) rfl rfl rfl (fun vs hf => K.e_indexAddr sl29 rfl rfl (by omega) (by omega)) ?_
              first | refine K.D.DW.det (b := [3]) (u := []) rfl rfl rfl (fun vs hf => K.e_ldA Tryz.isAgg82 Tryz.sizeOf82 rfl rfl (by assumption)) ?_ | refine K.D.DW.det (b := [3]) (u := []) rfl rfl rfl (fun vs hf => K.e_ldAF Tryz.isAgg82 Tryz.sizeOf82 rfl rfl (by assumption) rfl) ?_ | refine K.D.DW.det (b := [3]) (u := []) rfl rfl rfl (fun vs hf => K.e_loads Tryz.isAgg82 Tryz.sizeOf82 rfl rfl) ?_
              first | refine K.D.DW.det (b := []) (u := []) rfl rfl rfl (fun vs hf => K.e_fa fo31_2 rfl) ?_ | refine K.D.DW.det (b := []) (u := []) rfl rfl rfl (fun vs hf => K.e_fieldAddr fo31_2 rfl) ?_
              first | refine K.D.DW.det (b := [5]) (u := []) rfl rfl rfl (fun vs hf => K.e_ldE Tryz.isAgg29 rfl rfl (by assumption) rfl) ?_ | refine K.D.DW.det (b := [5]) (u := []) rfl rfl rfl (fun vs hf => K.e_ldF Tryz.isAgg29 rfl rfl (by assumption) rfl) ?_ | refine K.D.DW.det (b := [5]) (u := []) rfl rfl rfl (fun vs hf => K.e_load Tryz.isAgg29 rfl rfl) ?_ | refine K.D.DW.det (b := [5]) (u := []) rfl rfl rfl (fun vs hf => K.e_load0 Tryz.isAgg29 rfl (by assumption)) ?_
              refine K.D.DW.det (b := []) (u := []) rfl rfl rfl (fun vs hf => K.e_move rfl) ?_
              first | refine K.D.DW.det (b := [6, 7]) (u := []) rfl rfl rfl (fun vs hf => K.e_ixN sl29 rfl rfl rfl rfl (by omega)) ?_ | refine K.D.DW.det (b := [6, 7]) (u := []) rfl rfl rfl (fun vs hf => K.e_ix sl29 rfl rfl rfl rfl (by omega) (by omega)) ?_ | refine K.D.DW.det (b := [6, 7]) (u := []) rfl rfl rfl (fun vs hf => K.e_indexAddrS sl29 rfl rfl (by assumption) (by omega) (by omega)) ?_ | refine K.D.DW.det (b := [6, 7]) (u := []) rfl rfl rfl (fun vs hf => K.e_indexAddr sl29 rfl rfl (by omega) (by omega)) ?_
              first | refine K.D.DW.det (b := [8]) (u := []) rfl rfl rfl (fun vs hf => K.e_ldA Tryz.isAgg82 Tryz.sizeOf82 rfl rfl (by assumption)) ?_ | refine K.D.DW.det (b := [8]) (u := []) rfl rfl rfl (fun vs hf => K.e_ldAF Tryz.isAgg82 Tryz.sizeOf82 rfl rfl (by assumption) rfl) ?_ | refine K.D.DW.det (b := [8]) (u := []) rfl rfl rfl (fun vs hf => K.e_loads Tryz.isAgg82 Tryz.sizeOf82 rfl rfl) ?_
              refine K.D.DW.det (b := [4, 9]) (u := []) rfl rfl rfl (fun vs hf => K.e_neStruct (by kernel_rfl) rfl rfl (fun w => run_eqX w ql qm)) ?_
              refine K.D.DW.fin (fun vs hf => ?_)
              refine K.GL.keep [2, 3, 4, 5, 27, 28, 29, 30, 31, 32, 33, 34, 35, 36, 37, 38, 39, 40, 41, 42, 43, 44] rfl ?_
              refine K.D.GL.res0 rfl ?_
              clear hf
              try clear vs
              refine K.GL.nil ?_
              refine K.GQ.go ?_
              refine K.GC.condB rfl (fun h5 => ?_) (fun h5 => ?_)
              · first
                | exact absurd h5 (by decide)
                | try replace h5 := of_decide_eq_true h5
                  refine K.GC.seq ?_
                  refine K.GC.region ?_
                  refine K.GL.det (K.e_assign rfl) rfl ?_
                  refine K.GL.nil ?_
                  refine K.GQ.go ?_
                  refine K.GC.ret ?_
                  refine K.GQ.block_ret ?_
                  refine K.GQ.then_ret ?_
                  refine K.GQ.then_ret ?_
                  refine K.GQ.block_ret ?_
                  refine K.GQ.then_ret ?_
                  refine K.GQ.ret1 Tryz.results18 rfl (fun w hT => ?_)
                  by_cases hlm : t = u
                  · rw [decide_eq_true hlm]
                    first | exact ⟨rfl, hT.nil⟩ | (exfalso; subst hlm; simp_all; done)
                  · rw [decide_eq_false hlm]
                    first | exact ⟨rfl, hT.nil⟩ | (exfalso; have h := hI.2; rw [List.take_of_length_le (by omega), List.take_of_length_le (by omega)] at h; exact hlm (by obtain ⟨g1, o1, e1⟩ := t; obtain ⟨g2, o2, e2⟩ := u; simp_all))
              · first
                | exact absurd h5 (by decide)
                | try replace h5 := of_decide_eq_false h5
                  refine K.GC.skip ?_
                  refine K.GQ.block_normal ?_
                  refine K.GQ.go ?_
                  refine K.GC.region ?_
                  refine K.GL.det (K.e_move rfl) rfl ?_
                  first | refine K.GL.det (K.e_add rfl rfl ⟨by omega, by omega⟩) rfl ?_ | refine K.GL.det (K.e_addw rfl rfl) rfl ?_
                  refine K.GL.det (K.e_assign rfl) rfl ?_
                  refine K.GL.nil ?_
                  exact K.GQ.round (x + 1) ⟨by omega, by rw [take_one hql, take_one hqm, hI.2]; simp_all⟩ (by omega) (by (repeat refine ⟨rfl, ?_⟩); exact trivial) (by first | exact K.sb | (dsimp only; exact K.sb))
          · first
            | exact absurd h4 (by decide)
            | try replace h4 := of_decide_eq_false h4
              refine K.GC.exit ?_
              refine K.GQ.then_exit ?_
              refine K.GQ.then_exit ?_
              refine K.GQ.block_hit ?_
              refine K.GQ.go ?_
              refine K.GC.seq ?_
              refine K.GC.region ?_
              refine K.GL.det (K.e_assign rfl) rfl ?_
              refine K.GL.nil ?_
              refine K.GQ.go ?_
              refine K.GC.ret ?_
              refine K.GQ.ret1 Tryz.results18 rfl (fun w hT => ?_)
              by_cases hlm : t = u
              · rw [decide_eq_true hlm]
                first | exact ⟨rfl, hT.nil⟩ | (exfalso; subst hlm; simp_all; done)
              · rw [decide_eq_false hlm]
                first | exact ⟨rfl, hT.nil⟩ | (exfalso; have h := hI.2; rw [List.take_of_length_le (by omega), List.take_of_length_le (by omega)] at h; exact hlm (by obtain ⟨g1, o1, e1⟩ := t; obtain ⟨g2, o2, e2⟩ := u; simp_all))
section
variable {ops : Array Oper} {Q : Exit → Act → World → Prop} {N : Nat} {U : Env} {w0 : World} {L0 L F : List Res} {ty : TypeId} {rest : List Oper} {pos : String} {after : Array Edge} {xs : List Operand} {tys : Array TypeId} {dT : Tmp}
theorem ev_rsame_con {t u : Tab} {a a2 : Option Addr} {c c2 : Nat} (hf : ∀ args w, (callFunc 18 args).run Tryz.prog w = .ok (.enter 18 args) w) (hx : opvs U xs = some [.agg (tabC t a c).toArray, .agg (tabC u a2 c2).toArray]) (hl : t.exts.length ≤ 9223372036854775807) (hu : u.exts.length ≤ 9223372036854775807) [o0 : RdC w0 L0 [] L a (encX) (t.exts)] [o1 : RdC w0 L0 [] L a2 (encX) (u.exts)] : Ev Tryz.prog U w0 L0 L (.call ⟨.value (.func 18), xs.toArray, tys⟩) ty (Is (.bool (decide (t = u)))) No :=
  K.e_call1 hf hx (fun w hT => by have _o0 := o0.out w hT; have _o1 := o1.out w hT; exact rsame_con hl hu)
end
end Go.Proofs.YtdbedajaapamhaaGreat
