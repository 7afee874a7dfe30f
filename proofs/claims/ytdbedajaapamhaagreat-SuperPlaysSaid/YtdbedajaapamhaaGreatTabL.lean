/- The sector of a table, by the reference. -/
import Derived.Test.YtdbedajaapamhaaGreatTabK
namespace Go.Proofs.YtdbedajaapamhaaGreat
open Go Go.K
set_option linter.unusedVariables false
set_option linter.unusedSimpArgs false
attribute [local irreducible] Calls Ev GL GC GQ GR Code.wp

theorem leN_one {l : Bytes} {i : Nat} {q : UInt8} (h : l[i]? = some q) : leN ((l.drop i).take 1) = (q.toNat : Int) := by
  obtain ⟨h1, h2⟩ := List.getElem?_eq_some_iff.1 h
  rw [List.drop_eq_getElem_cons h1, h2]
  simp [leN]

theorem rget_gen (l : Bytes) : leN ((l.take 5).drop 1) = leN ((l.drop 1).take 4) := by rw [List.drop_take]

theorem rget_cnt {l : Bytes} {q : UInt8} (h : l[5]? = some q) : cntOf l = (q.toNat : Int) := by
  unfold cntOf
  rw [List.drop_drop]
  exact leN_one h

theorem rget_opn {l : Bytes} {q : UInt8} (h : l[6]? = some q) (k : Nat) : (parN l k).opn = (q.toNat : Int) - 1 := by
  rw [parN_opn, List.drop_drop, List.drop_drop, leN_one h]

theorem rget_ext (l : Bytes) (x : Nat) : extAt l x = ⟨leN ((l.take (7 + 6 * x + 4)).drop (7 + 6 * x)), leN ((l.take (7 + 6 * x + 6)).drop (7 + 6 * x + 4))⟩ := by
  unfold extAt
  rw [drp_eq, List.drop_drop, List.drop_take, List.drop_take]
  have e1 : 7 + 6 * x + 4 - (7 + 6 * x) = 4 := by omega
  have e2 : 7 + 6 * x + 6 - (7 + 6 * x + 4) = 2 := by omega
  rw [e1, e2]

/- turntable/turntableref09.Put -/
set_option maxHeartbeats 4000000 in
set_option maxRecDepth 100000 in
theorem rtput_con {t : Tab} {a : Option Addr} {c : Nat} {w : World} (hl : t.exts.length ≤ 9223372036854775807) [Old w [] a (encX) (t.exts)] :
    Calls Tryz.prog 34 #[.agg (tabC t a c).toArray] w fun e w' => ∃ a' : Option Addr, ∃ c' : Nat, e = .returned (.slice a' (putT t).length c') ∧ Tr w [] w' [trow a' c' 5 encB (putT t)] := by
  refine K.enter0 (args := [_]) Tryz.func34 rfl Tryz.ntmps34 rfl ?_
  refine K.GC.seq ?_
  refine K.GC.region ?_
  refine K.GL.box rfl rfl rfl (fun b1 => ?_)
  refine K.GL.det (K.e_assign rfl) rfl ?_
  refine K.GL.nil ?_
  refine K.GQ.go ?_
  refine K.GC.seq ?_
  refine K.GC.seq ?_
  refine K.GC.region ?_
  first | refine K.GL.det (K.e_ldA Tryz.isAgg31 Tryz.sizeOf31 rfl rfl (by assumption)) rfl ?_ | refine K.GL.det (K.e_ldAF Tryz.isAgg31 Tryz.sizeOf31 rfl rfl (by assumption) rfl) rfl ?_ | refine K.GL.det (K.e_loads Tryz.isAgg31 Tryz.sizeOf31 rfl rfl) rfl ?_
  refine K.GL.det (ev_rright_con Tryz.call32 rfl (by first | assumption | omega | rfl | decide)) rfl ?_
  first | refine K.GL.det (K.e_notp rfl) rfl ?_ | refine K.GL.det (K.e_not rfl) rfl ?_
  refine K.GL.nil ?_
  refine K.GQ.go ?_
  refine K.GC.condB rfl (fun h1 => ?_) (fun h1 => ?_)
  · first
    | exact absurd h1 (by decide)
    | try replace h1 := of_decide_eq_true h1
      refine K.GC.seq ?_
      refine K.GC.region ?_
      refine K.GL.det (K.e_assign rfl) rfl ?_
      refine K.GL.nil ?_
      refine K.GQ.go ?_
      refine K.GC.ret ?_
      refine K.GQ.then_ret ?_
      refine K.GQ.ret1 Tryz.results34 rfl (fun w hT => ?_)
      first
        | (have hp : putT t = [] := by unfold putT; rw [if_neg (by simp_all)]
           rw [hp]
           exact ⟨none, 0, rfl, hT.nil.trow_nil 5 encB⟩)
        | (have hp : putT t = cput t.gen 255 (tbody t) := by unfold putT; rw [if_pos (by simp_all)]
           rw [hp]
           exact ⟨a46, c46, rfl, hT.sub K.sb⟩)
  · first
    | exact absurd h1 (by decide)
    | try replace h1 := of_decide_eq_false h1
      refine K.GC.skip ?_
      refine K.GQ.go ?_
      refine K.GC.seq ?_
      have hR := (right_iff t).1 (by simpa using h1)
      have h01 := hR.o1
      have h02 := hR.o2
      have h03 := hR.n2
      have h04 := hR.g1
      have h05 := hR.g2
      have h06 := leB_len 4 t.gen
      refine K.GC.trow0 5 encB ?_
      refine K.D.GC.drawn1 13 [[], [0], [0, 1], [], [3], [3, 4], [3, 4, 5], [], [7], [7, 8], [7, 8, 9], [3, 4, 5, 6, 7, 8, 9, 10], [0, 1, 2, 3, 4, 5, 6, 7, 8, 9, 10, 11], [0, 1, 2, 3, 4, 5, 6, 7, 8, 9, 10, 11, 12]] [[], [0], [1], [], [3], [4], [5], [], [7], [8], [9], [6, 10], [2, 11]] [[], [], [13], [], [], [], [], [], [], [], [], [], [2, 11]] [[], [], [13], [], [], [], [], [], [], [], [], [], [2]] [12] [1, 2, 3, 4, 21, 22, 23, 24, 25, 26, 27, 28, 29, 30, 31, 32, 33, 34, 35, 36, 37, 38, 39, 40, 41, 42, 43, 44, 45, 46] (.const (.slice none 0 0)) rfl (by kernel_rfl) (by kernel_rfl) (by kernel_rfl) rfl ?_
      first | refine K.D.DW.det (b := []) (u := []) rfl rfl rfl (fun vs hf => K.e_fa fo31_0 rfl) ?_ | refine K.D.DW.det (b := []) (u := []) rfl rfl rfl (fun vs hf => K.e_fieldAddr fo31_0 rfl) ?_
      first | refine K.D.DW.det (b := [0]) (u := []) rfl rfl rfl (fun vs hf => K.e_ldE Tryz.isAgg2 rfl rfl (by assumption) rfl) ?_ | refine K.D.DW.det (b := [0]) (u := []) rfl rfl rfl (fun vs hf => K.e_ldF Tryz.isAgg2 rfl rfl (by assumption) rfl) ?_ | refine K.D.DW.det (b := [0]) (u := []) rfl rfl rfl (fun vs hf => K.e_load Tryz.isAgg2 rfl rfl) ?_ | refine K.D.DW.det (b := [0]) (u := []) rfl rfl rfl (fun vs hf => K.e_load0 Tryz.isAgg2 rfl (by assumption)) ?_
      refine K.D.DW.ev0 (b := [1]) (u := [13]) (a := [13]) rfl rfl rfl (fun vs hf => show K.D.EvM _ _ _ _ (_ :: _) [_] _ _ _ _ _ from em_rput_con (bl := []) (wd := 4) Tryz.call50 rfl (by first | omega | (simp only [List.length_append, List.length_cons, List.length_nil, List.flatMap_cons, List.flatMap_nil, leB_len]; omega)) (by first | assumption | omega | rfl | decide) (by first | assumption | omega | rfl | decide)) ?_
      first | refine K.D.DW.det (b := []) (u := []) rfl rfl rfl (fun vs hf => K.e_fa fo31_2 rfl) ?_ | refine K.D.DW.det (b := []) (u := []) rfl rfl rfl (fun vs hf => K.e_fieldAddr fo31_2 rfl) ?_
      first | refine K.D.DW.det (b := [3]) (u := []) rfl rfl rfl (fun vs hf => K.e_ldE Tryz.isAgg29 rfl rfl (by assumption) rfl) ?_ | refine K.D.DW.det (b := [3]) (u := []) rfl rfl rfl (fun vs hf => K.e_ldF Tryz.isAgg29 rfl rfl (by assumption) rfl) ?_ | refine K.D.DW.det (b := [3]) (u := []) rfl rfl rfl (fun vs hf => K.e_load Tryz.isAgg29 rfl rfl) ?_ | refine K.D.DW.det (b := [3]) (u := []) rfl rfl rfl (fun vs hf => K.e_load0 Tryz.isAgg29 rfl (by assumption)) ?_
      refine K.D.DW.det (b := [4]) (u := []) rfl rfl rfl (fun vs hf => K.e_len Tryz.underlying29 rfl) ?_
      refine K.D.DW.det (b := [5]) (u := []) rfl rfl rfl (fun vs hf => K.e_c8 Tryz.underlying3 Tryz.underlying5 rfl) ?_
      first | refine K.D.DW.det (b := []) (u := []) rfl rfl rfl (fun vs hf => K.e_fa fo31_1 rfl) ?_ | refine K.D.DW.det (b := []) (u := []) rfl rfl rfl (fun vs hf => K.e_fieldAddr fo31_1 rfl) ?_
      first | refine K.D.DW.det (b := [7]) (u := []) rfl rfl rfl (fun vs hf => K.e_ldE Tryz.isAgg3 rfl rfl (by assumption) rfl) ?_ | refine K.D.DW.det (b := [7]) (u := []) rfl rfl rfl (fun vs hf => K.e_ldF Tryz.isAgg3 rfl rfl (by assumption) rfl) ?_ | refine K.D.DW.det (b := [7]) (u := []) rfl rfl rfl (fun vs hf => K.e_load Tryz.isAgg3 rfl rfl) ?_ | refine K.D.DW.det (b := [7]) (u := []) rfl rfl rfl (fun vs hf => K.e_load0 Tryz.isAgg3 rfl (by assumption)) ?_
      first | refine K.D.DW.det (b := [8]) (u := []) rfl rfl rfl (fun vs hf => K.e_add rfl rfl ⟨by omega, by omega⟩) ?_ | refine K.D.DW.det (b := [8]) (u := []) rfl rfl rfl (fun vs hf => K.e_addw rfl rfl) ?_
      refine K.D.DW.det (b := [9]) (u := []) rfl rfl rfl (fun vs hf => K.e_c8 Tryz.underlying3 Tryz.underlying5 rfl) ?_
      refine K.D.DW.ev0 (b := [6, 10]) (u := []) (a := []) rfl rfl rfl (fun vs hf => show K.D.EvM _ _ _ _ (_) [] _ _ _ _ _ from K.D.em_build encB [_, _] mk32 rfl rfl rfl rfl) ?_
      refine K.D.DW.ev0 (b := [2, 11]) (u := [2, 11]) (a := [2]) rfl rfl rfl (fun vs ⟨hf10, hf19, _⟩ => show K.D.EvM _ _ _ _ (_ :: _ :: _) [_] _ _ _ _ _ from K.D.em_append mk32 rfl rfl rfl rfl rfl (by first | omega | (simp only [List.length_cons, List.length_nil, List.length_append]; omega)) (by first | omega | (simp only [List.length_cons, List.length_nil, List.length_append]; omega))) ?_
      refine K.D.DW.fin (fun vs hf => ?_)
      refine K.GL.keep [1, 2, 3, 4, 20, 21, 22, 23, 24, 25, 26, 27, 28, 29, 30, 31, 32, 33, 34, 35, 36, 37, 38, 39, 40, 41, 42, 43, 44, 45, 46] rfl ?_
      refine K.D.GL.resE (L' := _ :: _) rfl ?_
      try dsimp only
      clear hf
      generalize (vs 12 0).1 = a20, (vs 12 0).2 = c20
      try clear vs
      refine K.GL.det (K.e_assign rfl) rfl ?_
      refine K.GL.nil ?_
      refine K.GQ.go ?_
      refine K.GC.seq ?_
      refine K.GC.seq ?_
      refine K.GC.region ?_
      refine K.GL.det (K.e_assign rfl) rfl ?_
      refine K.GL.nil ?_
      refine K.GQ.go ?_
      refine K.GC.block ?_
      refine K.GC.loopk (α := Nat × Option Addr × Nat) [1, 2, 43, 44, 45, 46] rfl (fun x => [(3, .slice x.2.1 (tbs t x.1).length x.2.2), (4, .int .i64 (x.1 : Int))]) (fun x => [trow x.2.1 x.2.2 5 encB (tbs t x.1), cl b1 31 (tabC t a c)]) (fun x => x.1 ≤ t.exts.length) (fun x => (t.exts.length - x.1)) (0, a20, c20) (Nat.zero_le _) (by simp only [tbs_zero, tb0_eq]; (repeat refine ⟨rfl, ?_⟩); exact trivial) (by simp only [tbs_zero, tb0_eq]; exact K.Sub.refl _) (fun x hI => ?_)
      obtain ⟨x, a1, c1⟩ := x
      simp only at hI ⊢
      refine K.GC.seq ?_
      refine K.GC.seq ?_
      refine K.GC.region ?_
      refine K.GL.det (K.e_move rfl) rfl ?_
      first | refine K.GL.det (K.e_fa fo31_2 rfl) rfl ?_ | refine K.GL.det (K.e_fieldAddr fo31_2 rfl) rfl ?_
      first | refine K.GL.det (K.e_ldE Tryz.isAgg29 rfl rfl (by assumption) rfl) rfl ?_ | refine K.GL.det (K.e_ldF Tryz.isAgg29 rfl rfl (by assumption) rfl) rfl ?_ | refine K.GL.det (K.e_load Tryz.isAgg29 rfl rfl) rfl ?_ | refine K.GL.det (K.e_load0 Tryz.isAgg29 rfl (by assumption)) rfl ?_
      refine K.GL.det (K.e_len Tryz.underlying29 rfl) rfl ?_
      first | refine K.GL.det ((K.e_lt rfl rfl).yes (by first | omega | assumption | decide +kernel)) rfl ?_ | refine K.GL.det ((K.e_lt rfl rfl).no (by first | omega | assumption | decide +kernel)) rfl ?_ | refine K.GL.det (K.e_lt rfl rfl) rfl ?_
      refine K.GL.nil ?_
      refine K.GQ.go ?_
      refine K.GC.condB rfl (fun h2 => ?_) (fun h2 => ?_)
      · first
        | exact absurd h2 (by decide)
        | try replace h2 := of_decide_eq_true h2
          refine K.GC.skip ?_
          refine K.GQ.go ?_
          refine K.GC.seq ?_
          refine K.GC.block ?_
          obtain ⟨q, hq⟩ : ∃ q, t.exts[x]? = some q := get_ex (by omega)
          have hbl := tbs_len t x (by omega)
          have hok := q.ok_iff.1 (hR.ok _ (List.mem_of_getElem? hq))
          refine K.D.GC.drawn1 15 [[], [], [1], [], [1, 2, 3], [1, 2, 3, 4], [1, 2, 3, 4, 5], [0, 1, 2, 3, 4, 5, 6], [], [8], [], [8, 9, 10], [8, 9, 10, 11], [8, 9, 10, 11, 12], [0, 1, 2, 3, 4, 5, 6, 7, 8, 9, 10, 11, 12, 13], [0, 1, 2, 3, 4, 5, 6, 7, 8, 9, 10, 11, 12, 13, 14]] [[], [], [1], [], [2, 3], [4], [5], [0, 6], [], [8], [], [9, 10], [11], [12], [7, 13]] [[], [], [], [], [], [], [], [15], [], [], [], [], [], [], [7]] [[], [], [], [], [], [], [], [15], [], [], [], [], [], [], [7]] [14] [1, 2, 3, 4, 21, 22, 23, 24, 25, 26, 27, 43, 44, 45, 46] (.tmp 3) rfl (by kernel_rfl) (by kernel_rfl) (by kernel_rfl) rfl ?_
          refine K.D.DW.det (b := []) (u := []) rfl rfl rfl (fun vs hf => K.e_move rfl) ?_
          first | refine K.D.DW.det (b := []) (u := []) rfl rfl rfl (fun vs hf => K.e_fa fo31_2 rfl) ?_ | refine K.D.DW.det (b := []) (u := []) rfl rfl rfl (fun vs hf => K.e_fieldAddr fo31_2 rfl) ?_
          first | refine K.D.DW.det (b := [1]) (u := []) rfl rfl rfl (fun vs hf => K.e_ldE Tryz.isAgg29 rfl rfl (by assumption) rfl) ?_ | refine K.D.DW.det (b := [1]) (u := []) rfl rfl rfl (fun vs hf => K.e_ldF Tryz.isAgg29 rfl rfl (by assumption) rfl) ?_ | refine K.D.DW.det (b := [1]) (u := []) rfl rfl rfl (fun vs hf => K.e_load Tryz.isAgg29 rfl rfl) ?_ | refine K.D.DW.det (b := [1]) (u := []) rfl rfl rfl (fun vs hf => K.e_load0 Tryz.isAgg29 rfl (by assumption)) ?_
          refine K.D.DW.det (b := []) (u := []) rfl rfl rfl (fun vs hf => K.e_move rfl) ?_
          first | refine K.D.DW.det (b := [2, 3]) (u := []) rfl rfl rfl (fun vs hf => K.e_ixN sl29 rfl rfl rfl rfl (by omega)) ?_ | refine K.D.DW.det (b := [2, 3]) (u := []) rfl rfl rfl (fun vs hf => K.e_ix sl29 rfl rfl rfl rfl (by omega) (by omega)) ?_ | refine K.D.DW.det (b := [2, 3]) (u := []) rfl rfl rfl (fun vs hf => K.e_indexAddrS sl29 rfl rfl (by assumption) (by omega) (by omega)) ?_ | refine K.D.DW.det (b := [2, 3]) (u := []) rfl rfl rfl (fun vs hf => K.e_indexAddr sl29 rfl rfl (by omega) (by omega)) ?_
          first | refine K.D.DW.det (b := [4]) (u := []) rfl rfl rfl (fun vs hf => K.e_fa fo82_0 rfl) ?_ | refine K.D.DW.det (b := [4]) (u := []) rfl rfl rfl (fun vs hf => K.e_fieldAddr fo82_0 rfl) ?_
          first | refine K.D.DW.det (b := [5]) (u := []) rfl rfl rfl (fun vs hf => K.e_ldE Tryz.isAgg2 rfl rfl (by assumption) rfl) ?_ | refine K.D.DW.det (b := [5]) (u := []) rfl rfl rfl (fun vs hf => K.e_ldF Tryz.isAgg2 rfl rfl (by assumption) rfl) ?_ | refine K.D.DW.det (b := [5]) (u := []) rfl rfl rfl (fun vs hf => K.e_load Tryz.isAgg2 rfl rfl) ?_ | refine K.D.DW.det (b := [5]) (u := []) rfl rfl rfl (fun vs hf => K.e_load0 Tryz.isAgg2 rfl (by assumption)) ?_
          refine K.D.DW.ev0 (b := [0, 6]) (u := [15]) (a := [15]) rfl rfl rfl (fun vs hf => show K.D.EvM _ _ _ _ (_ :: _) [_] _ _ _ _ _ from em_rput_con (wd := 4) Tryz.call50 rfl (by first | omega | (simp only [List.length_append, List.length_cons, List.length_nil, List.flatMap_cons, List.flatMap_nil, leB_len]; omega)) (by first | assumption | omega | rfl | decide) (by first | assumption | omega | rfl | decide)) ?_
          first | refine K.D.DW.det (b := []) (u := []) rfl rfl rfl (fun vs hf => K.e_fa fo31_2 rfl) ?_ | refine K.D.DW.det (b := []) (u := []) rfl rfl rfl (fun vs hf => K.e_fieldAddr fo31_2 rfl) ?_
          first | refine K.D.DW.det (b := [8]) (u := []) rfl rfl rfl (fun vs hf => K.e_ldE Tryz.isAgg29 rfl rfl (by assumption) rfl) ?_ | refine K.D.DW.det (b := [8]) (u := []) rfl rfl rfl (fun vs hf => K.e_ldF Tryz.isAgg29 rfl rfl (by assumption) rfl) ?_ | refine K.D.DW.det (b := [8]) (u := []) rfl rfl rfl (fun vs hf => K.e_load Tryz.isAgg29 rfl rfl) ?_ | refine K.D.DW.det (b := [8]) (u := []) rfl rfl rfl (fun vs hf => K.e_load0 Tryz.isAgg29 rfl (by assumption)) ?_
          refine K.D.DW.det (b := []) (u := []) rfl rfl rfl (fun vs hf => K.e_move rfl) ?_
          first | refine K.D.DW.det (b := [9, 10]) (u := []) rfl rfl rfl (fun vs hf => K.e_ixN sl29 rfl rfl rfl rfl (by omega)) ?_ | refine K.D.DW.det (b := [9, 10]) (u := []) rfl rfl rfl (fun vs hf => K.e_ix sl29 rfl rfl rfl rfl (by omega) (by omega)) ?_ | refine K.D.DW.det (b := [9, 10]) (u := []) rfl rfl rfl (fun vs hf => K.e_indexAddrS sl29 rfl rfl (by assumption) (by omega) (by omega)) ?_ | refine K.D.DW.det (b := [9, 10]) (u := []) rfl rfl rfl (fun vs hf => K.e_indexAddr sl29 rfl rfl (by omega) (by omega)) ?_
          first | refine K.D.DW.det (b := [11]) (u := []) rfl rfl rfl (fun vs hf => K.e_fa fo82_1 rfl) ?_ | refine K.D.DW.det (b := [11]) (u := []) rfl rfl rfl (fun vs hf => K.e_fieldAddr fo82_1 rfl) ?_
          first | refine K.D.DW.det (b := [12]) (u := []) rfl rfl rfl (fun vs hf => K.e_ldE Tryz.isAgg3 rfl rfl (by assumption) rfl) ?_ | refine K.D.DW.det (b := [12]) (u := []) rfl rfl rfl (fun vs hf => K.e_ldF Tryz.isAgg3 rfl rfl (by assumption) rfl) ?_ | refine K.D.DW.det (b := [12]) (u := []) rfl rfl rfl (fun vs hf => K.e_load Tryz.isAgg3 rfl rfl) ?_ | refine K.D.DW.det (b := [12]) (u := []) rfl rfl rfl (fun vs hf => K.e_load0 Tryz.isAgg3 rfl (by assumption)) ?_
          refine K.D.DW.ev0 (b := [7, 13]) (u := [7]) (a := [7]) rfl rfl rfl (fun vs ⟨hf35, _⟩ => show K.D.EvM _ _ _ _ (_ :: _) [_] _ _ _ _ _ from em_rput_con (wd := 2) Tryz.call50 rfl (by first | omega | (simp only [List.length_append, List.length_cons, List.length_nil, List.flatMap_cons, List.flatMap_nil, leB_len]; omega)) (by first | assumption | omega | rfl | decide) (by first | assumption | omega | rfl | decide)) ?_
          refine K.D.DW.fin (fun vs hf => ?_)
          refine K.GL.keep [1, 2, 3, 4, 21, 22, 23, 24, 25, 26, 27, 28, 29, 30, 31, 32, 33, 34, 35, 36, 37, 38, 39, 40, 41, 42, 43, 44, 45, 46] rfl ?_
          refine K.D.GL.resE (L' := _ :: _) rfl ?_
          try dsimp only
          clear hf
          generalize (vs 14 0).1 = a42, (vs 14 0).2 = c42
          try clear vs
          refine K.GL.det (K.e_assign rfl) rfl ?_
          refine K.GL.nil ?_
          refine K.GQ.block_normal ?_
          refine K.GQ.go ?_
          refine K.GC.region ?_
          refine K.GL.det (K.e_move rfl) rfl ?_
          first | refine K.GL.det (K.e_add rfl rfl ⟨by omega, by omega⟩) rfl ?_ | refine K.GL.det (K.e_addw rfl rfl) rfl ?_
          refine K.GL.det (K.e_assign rfl) rfl ?_
          refine K.GL.nil ?_
          exact K.GQ.round (x + 1, a42, c42) (by simp only; omega) (by simp only; omega) (by simp only [tbs_next2 hq]; (repeat refine ⟨rfl, ?_⟩); exact trivial) (by simp only [tbs_next2 hq]; exact K.sb)
      · first
        | exact absurd h2 (by decide)
        | try replace h2 := of_decide_eq_false h2
          refine K.GC.exit ?_
          refine K.GQ.then_exit ?_
          refine K.GQ.then_exit ?_
          refine K.GQ.block_hit ?_
          refine K.GQ.go ?_
          refine K.GC.seq ?_
          rw [tbs_all (by omega)]
          refine K.GC.region ?_
          first | refine K.GL.det (K.e_fa fo31_0 rfl) rfl ?_ | refine K.GL.det (K.e_fieldAddr fo31_0 rfl) rfl ?_
          first | refine K.GL.det (K.e_ldE Tryz.isAgg2 rfl rfl (by assumption) rfl) rfl ?_ | refine K.GL.det (K.e_ldF Tryz.isAgg2 rfl rfl (by assumption) rfl) rfl ?_ | refine K.GL.det (K.e_load Tryz.isAgg2 rfl rfl) rfl ?_ | refine K.GL.det (K.e_load0 Tryz.isAgg2 rfl (by assumption)) rfl ?_
          refine K.GL.det (K.e_move rfl) rfl ?_
          refine gl_rcput_con Tryz.call51 rfl (by rw [tbody_len]; omega) rfl (fun a46 c46 => ?_)
          refine K.GL.det (K.e_assign rfl) rfl ?_
          refine K.GL.nil ?_
          refine K.GQ.go ?_
          refine K.GC.ret ?_
          refine K.GQ.ret1 Tryz.results34 rfl (fun w hT => ?_)
          first
            | (have hp : putT t = [] := by unfold putT; rw [if_neg (by simp_all)]
               rw [hp]
               exact ⟨none, 0, rfl, hT.nil.trow_nil 5 encB⟩)
            | (have hp : putT t = cput t.gen 255 (tbody t) := by unfold putT; rw [if_pos (by simp_all)]
               rw [hp]
               exact ⟨a46, c46, rfl, hT.sub K.sb⟩)
section
variable {ops : Array Oper} {Q : Exit → Act → World → Prop} {N : Nat} {U : Env} {w0 : World} {L0 L F : List Res} {ty : TypeId} {rest : List Oper} {pos : String} {after : Array Edge} {xs : List Operand} {tys : Array TypeId} {dT : Tmp}
end
section
variable {ops : Array Oper} {Q : Exit → Act → World → Prop} {N : Nat} {U : Env} {w0 : World} {L0 L F : List Res} {ty : TypeId} {rest : List Oper} {pos : String} {after : Array Edge} {xs : List Operand} {tys : Array TypeId} {dT : Tmp}
theorem em_rtput_con {t : Tab} {a : Option Addr} {c : Nat} (hf : ∀ args w, (callFunc 34 args).run Tryz.prog w = .ok (.enter 34 args) w) (hx : opvs U xs = some [.agg (tabC t a c).toArray]) (hl : t.exts.length ≤ 9223372036854775807) [o0 : RdC w0 L0 [] L a (encX) (t.exts)] : K.D.EvM Tryz.prog U w0 L0 L [] (.call ⟨.value (.func 34), xs.toArray, tys⟩) ty (fun g => .slice (g 0).1 (putT t).length (g 0).2) (fun g => True) (fun g => trow (g 0).1 (g 0).2 5 encB (putT t)) :=
  K.D.em_call hf hx fun w hT => by
    have hT1 := hT; have _o0 := o0.out w hT1; exact (rtput_con hl).mono fun e w' ⟨a', c', h1, h2⟩ => ⟨fun i => (a', c'), h1, trivial, h2⟩
end
/- turntable/turntableref09.Get -/
set_option maxHeartbeats 4000000 in
set_option maxRecDepth 100000 in
theorem rtget_con {l : Bytes} {a : Option Addr} {c : Nat} {w : World} (hc : l.length ≤ c) (hl : l.length < 4611686018427387904) [Old w [] a (encB) (l)] :
    Calls Tryz.prog 44 #[.slice a l.length c] w fun e w' => ∃ a' : Option Addr, ∃ c' : Nat, e = .returned (.tuple #[.agg (tabC (getT l) a' c').toArray, .bool (getB l)]) ∧ Tr w [] w' [trow a' c' 82 encX (getT l).exts] := by
  refine K.enter0 (args := [_]) Tryz.func44 rfl Tryz.ntmps44 rfl ?_
  refine K.GC.seq ?_
  refine K.GC.region ?_
  refine K.GL.alloc Tryz.zeroValue31 rfl rfl (fun b2 => ?_)
  refine K.GL.det (K.e_assign rfl) rfl ?_
  refine K.GL.nil ?_
  refine K.GQ.go ?_
  refine K.GC.seq ?_
  refine K.GC.seq ?_
  refine K.GC.region ?_
  refine K.GL.det (K.e_move rfl) rfl ?_
  refine K.GL.det (K.e_len Tryz.underlying32 rfl) rfl ?_
  first | refine K.GL.det ((K.e_ne rfl rfl).yes (by first | omega | assumption | decide +kernel)) rfl ?_ | refine K.GL.det ((K.e_ne rfl rfl).no (by first | omega | assumption | decide +kernel)) rfl ?_ | refine K.GL.det (K.e_ne rfl rfl) rfl ?_
  refine K.GL.nil ?_
  refine K.GQ.go ?_
  refine K.GC.condB rfl (fun h1 => ?_) (fun h1 => ?_)
  · first
    | exact absurd h1 (by decide)
    | try replace h1 := of_decide_eq_true h1
      refine K.GC.seq ?_
      refine K.GC.region ?_
      refine K.GL.det (K.e_build lay31 rfl) rfl ?_
      refine K.GL.storeP (vs := tabC ⟨0, 0, []⟩ none 0) (cs' := tabC ⟨0, 0, []⟩ none 0) rfl rfl rfl Tryz.sizeOf31 rfl rfl (by exact spliceO_all rfl) ?_
      refine K.GL.det (K.e_assign rfl) rfl ?_
      refine K.GL.nil ?_
      refine K.GQ.go ?_
      refine K.GC.ret ?_
      refine K.GQ.then_ret ?_
      refine K.GQ.ret_ct Tryz.results44 Tryz.isAgg31 Tryz.sizeOf31 rfl rfl rfl (fun w hT => ?_)
      first
        | (have hb := getB_len (l := l) (by omega)
           rw [getT_no hb, hb]
           exact ⟨none, 0, rfl, hT.nil.trow_nil 82 encX⟩)
        | (have hb := getB_bad (l := l) (by assumption)
           rw [getT_no hb, hb]
           exact ⟨none, 0, rfl, hT.nil.trow_nil 82 encX⟩)
        | (have hb := getB_ok h64 (by first | assumption | exact Classical.not_not.1 (by assumption))
           rw [getT_yes hb, hb]
           exact ⟨a4, c4, rfl, hT.sub (L' := [trow a4 c4 82 encX (parN l (min (cntOf l) 8).toNat).exts]) K.sb⟩)
  · first
    | exact absurd h1 (by decide)
    | try replace h1 := of_decide_eq_false h1
      refine K.GC.skip ?_
      refine K.GQ.go ?_
      refine K.GC.seq ?_
      have h64 : l.length = 64 := by omega
      obtain ⟨q5, hq5⟩ : ∃ q, l[5]? = some q := get_ex (by omega)
      obtain ⟨q6, hq6⟩ : ∃ q, l[6]? = some q := get_ex (by omega)
      have hcn := rget_cnt hq5
      have h5b := q5.toNat_lt
      have h6b := q6.toNat_lt
      refine K.D.GC.drawn0 10 [[], [0], [0, 1], [], [3], [3, 4], [3, 4, 5], [3, 4, 5, 6], [0, 1, 2, 3, 4, 5, 6, 7], [], [0, 1, 2, 3, 4, 5, 6, 7, 8, 9]] [[], [0], [1], [], [3], [4], [5], [6], [2, 7], []] [[], [], [], [], [], [], [], [], [], []] [[], [], [], [], [], [], [], [], [], []] [9] [0, 2, 3, 5, 6, 20, 21, 22, 23, 24, 25, 26, 27, 28, 29, 30, 31, 32, 33, 34, 35, 36, 37, 38, 39, 40, 41, 42, 43, 44, 45, 46, 47, 48, 49, 50, 51, 52, 53, 54, 55, 56, 57, 58, 59, 60, 61] (by kernel_rfl) (by kernel_rfl) (by kernel_rfl) rfl ?_
      refine K.D.DW.det (b := []) (u := []) rfl rfl rfl (fun vs hf => K.e_move rfl) ?_
      refine K.D.DW.ev0 (b := [0]) (u := []) (a := []) rfl rfl rfl (fun vs hf => show K.D.EvM _ _ _ _ (_) [] _ _ _ _ _ from K.D.em_partLH (i := 1) (j := 5) sl32 rfl rfl rfl rfl rfl (by omega) (by omega) (by omega)) ?_
      refine K.D.DW.det (b := [1]) (u := []) rfl rfl rfl (fun vs ⟨⟨hf12, hg12⟩, _⟩ => ev_rnum_con Tryz.call54 rfl (by simp only [List.length_drop, List.length_take]; omega)) ?_
      refine K.D.DW.det (b := []) (u := []) rfl rfl rfl (fun vs hf => K.e_move rfl) ?_
      first | refine K.D.DW.det (b := [3]) (u := []) rfl rfl rfl (fun vs hf => K.e_ixN sl32 rfl rfl rfl rfl (by omega)) ?_ | refine K.D.DW.det (b := [3]) (u := []) rfl rfl rfl (fun vs hf => K.e_ix sl32 rfl rfl rfl rfl (by omega) (by omega)) ?_ | refine K.D.DW.det (b := [3]) (u := []) rfl rfl rfl (fun vs hf => K.e_indexAddrS sl32 rfl rfl (by assumption) (by omega) (by omega)) ?_ | refine K.D.DW.det (b := [3]) (u := []) rfl rfl rfl (fun vs hf => K.e_indexAddr sl32 rfl rfl (by omega) (by omega)) ?_
      first | refine K.D.DW.det (b := [4]) (u := []) rfl rfl rfl (fun vs hf => K.e_ldE Tryz.isAgg5 rfl rfl (by assumption) rfl) ?_ | refine K.D.DW.det (b := [4]) (u := []) rfl rfl rfl (fun vs hf => K.e_ldF Tryz.isAgg5 rfl rfl (by assumption) rfl) ?_ | refine K.D.DW.det (b := [4]) (u := []) rfl rfl rfl (fun vs hf => K.e_load Tryz.isAgg5 rfl rfl) ?_ | refine K.D.DW.det (b := [4]) (u := []) rfl rfl rfl (fun vs hf => K.e_load0 Tryz.isAgg5 rfl (by assumption)) ?_
      refine K.D.DW.det (b := [5]) (u := []) rfl rfl rfl (fun vs hf => K.e_c64_8 Tryz.underlying5 Tryz.underlying3 rfl) ?_
      first | refine K.D.DW.det (b := [6]) (u := []) rfl rfl rfl (fun vs hf => K.e_sub rfl rfl ⟨by omega, by omega⟩) ?_ | refine K.D.DW.det (b := [6]) (u := []) rfl rfl rfl (fun vs hf => K.e_subw rfl rfl) ?_
      refine K.D.DW.det (b := [2, 7]) (u := []) rfl rfl rfl (fun vs hf => K.e_build lay31 rfl) ?_
      refine K.D.DW.ev0 (b := []) (u := []) (a := []) rfl rfl rfl (fun vs hf => show K.D.EvM _ _ _ _ (_) [] _ _ _ _ _ from K.D.em_alloc Tryz.zeroValue31 rfl) ?_
      refine K.D.DW.fin (fun vs hf => ?_)
      refine K.GL.keep [0, 2, 3, 4, 5, 6, 19, 20, 21, 22, 23, 24, 25, 26, 27, 28, 29, 30, 31, 32, 33, 34, 35, 36, 37, 38, 39, 40, 41, 42, 43, 44, 45, 46, 47, 48, 49, 50, 51, 52, 53, 54, 55, 56, 57, 58, 59, 60, 61] rfl ?_
      refine K.D.GL.resE (L' := _ :: _) rfl ?_
      try dsimp only
      clear hf
      generalize (vs 9 0).2 = b4
      try clear vs
      refine K.GL.storeP (vs := tabC (parN l 0) none 0) (cs' := tabC (parN l 0) none 0) rfl rfl (by unfold tabC; rw [rget_opn hq6, parN_gen, rget_gen]; rfl) Tryz.sizeOf31 rfl rfl (by exact spliceO_all rfl) ?_
      refine K.GL.nil ?_
      refine K.GQ.go ?_
      refine K.GC.seq ?_
      refine K.GC.seq ?_
      refine K.GC.region ?_
      refine K.GL.det (K.e_assign rfl) rfl ?_
      refine K.GL.nil ?_
      refine K.GQ.go ?_
      refine K.GC.block ?_
      refine K.GC.trow0 82 encX ?_
      refine K.GC.loopk (α := Nat × Option Addr × Nat) [0, 2, 3, 4, 54, 55, 56, 57, 58, 59, 60, 61] rfl (fun x => [(5, .int .i64 (x.1 : Int))]) (fun x => [trow x.2.1 x.2.2 82 encX (parN l x.1).exts, cl b4 31 (tabC (parN l x.1) x.2.1 x.2.2), cl b2 31 (tabC ⟨0, 0, []⟩ none 0)]) (fun x => x.1 ≤ q5.toNat ∧ x.1 ≤ 8) (fun x => (8 - x.1)) (0, none, 0) ⟨Nat.zero_le _, Nat.zero_le _⟩ (by first | ((repeat refine ⟨rfl, ?_⟩); exact trivial) | (simp only [List.take_zero, List.map_nil, List.flatMap_nil, List.append_nil]; (repeat refine ⟨rfl, ?_⟩); exact trivial)) (K.Sub.refl _) (fun x hI => ?_)
      obtain ⟨x, a4, c4⟩ := x
      simp only at hI ⊢
      refine K.GC.seq ?_
      refine K.GC.seq ?_
      refine K.GC.region ?_
      refine K.GL.det (K.e_move rfl) rfl ?_
      refine K.GL.det (K.e_move rfl) rfl ?_
      first | refine K.GL.ixK sl32 rfl rfl rfl rfl (by assumption) rfl ?_ | refine K.GL.ix sl32 rfl rfl rfl rfl (by omega) rfl (fun q22 hq22 => ?_) | refine K.GL.ixI sl32 rfl rfl rfl rfl (by omega) (by omega) rfl (fun q22 hq22 => ?_) | refine K.GL.det (K.e_indexAddrS sl32 rfl rfl (by assumption) (by omega) (by omega)) rfl ?_ | refine K.GL.det (K.e_indexAddr sl32 rfl rfl (by omega) (by omega)) rfl ?_
      first | refine K.GL.det (K.e_ldE Tryz.isAgg5 rfl rfl (by assumption) rfl) rfl ?_ | refine K.GL.det (K.e_ldF Tryz.isAgg5 rfl rfl (by assumption) rfl) rfl ?_ | refine K.GL.det (K.e_load Tryz.isAgg5 rfl rfl) rfl ?_ | refine K.GL.det (K.e_load0 Tryz.isAgg5 rfl (by assumption)) rfl ?_
      refine K.GL.det (K.e_c64_8 Tryz.underlying5 Tryz.underlying3 rfl) rfl ?_
      first | refine K.GL.det ((K.e_lt rfl rfl).yes (by first | omega | assumption | decide +kernel)) rfl ?_ | refine K.GL.det ((K.e_lt rfl rfl).no (by first | omega | assumption | decide +kernel)) rfl ?_ | refine K.GL.det (K.e_lt rfl rfl) rfl ?_
      refine K.GL.det (K.e_move rfl) rfl ?_
      first | refine K.GL.splitB 26 rfl (fun h2 => ?_) (fun h2 => ?_) | skip
      all_goals first | exact absurd h2 (by decide) | replace h2 := of_decide_eq_true h2 | replace h2 := of_decide_eq_false h2 | skip
      all_goals
        first | (refine K.GL.want 26 rfl rfl rfl ?_; first | refine K.GL.det (K.e_move rfl) rfl ?_) | refine K.GL.skip 26 rfl rfl rfl rfl ?_ | refine K.GL.skipU 26 rfl rfl rfl rfl ?_
        first | (refine K.GL.want 26 rfl rfl rfl ?_; first | refine K.GL.det ((K.e_lt rfl rfl).yes (by first | omega | assumption | decide +kernel)) rfl ?_ | refine K.GL.det ((K.e_lt rfl rfl).no (by first | omega | assumption | decide +kernel)) rfl ?_ | refine K.GL.det (K.e_lt rfl rfl) rfl ?_) | refine K.GL.skip 26 rfl rfl rfl rfl ?_ | refine K.GL.skipU 26 rfl rfl rfl rfl ?_
        first | refine K.GL.det (K.e_pick_t rfl rfl) rfl ?_ | refine K.GL.det (K.e_pick_f rfl rfl) rfl ?_
        refine K.GL.nil ?_
        refine K.GQ.go ?_
        refine K.GC.condB rfl (fun h3 => ?_) (fun h3 => ?_)
        · first
          | exact absurd h3 (by decide)
          | try replace h3 := of_decide_eq_true h3
            refine K.GC.skip ?_
            refine K.GQ.go ?_
            refine K.GC.seq ?_
            refine K.GC.block ?_
            refine K.GC.seq ?_
            refine K.GC.region ?_
            refine K.GL.det (K.e_move rfl) rfl ?_
            first | refine K.GL.det (K.e_mul rfl rfl ⟨by omega, by omega⟩) rfl ?_ | refine K.GL.det (K.e_mulw rfl rfl) rfl ?_
            first | refine K.GL.det (K.e_add rfl rfl ⟨by omega, by omega⟩) rfl ?_ | refine K.GL.det (K.e_addw rfl rfl) rfl ?_
            refine K.GL.det (K.e_assign rfl) rfl ?_
            refine K.GL.nil ?_
            refine K.GQ.go ?_
            have hpl := parN_len l x
            refine K.D.GC.drawn1a a4 19 [[], [0], [], [], [], [4], [2, 3, 4, 5], [2, 3, 4, 5, 6], [], [], [9], [], [11], [8, 9, 10, 11, 12], [2, 3, 4, 5, 6, 7, 8, 9, 10, 11, 12, 13], [2, 3, 4, 5, 6, 7, 8, 9, 10, 11, 12, 13, 14], [2, 3, 4, 5, 6, 7, 8, 9, 10, 11, 12, 13, 14, 15], [0, 1, 2, 3, 4, 5, 6, 7, 8, 9, 10, 11, 12, 13, 14, 15, 16], [0, 1, 2, 3, 4, 5, 6, 7, 8, 9, 10, 11, 12, 13, 14, 15, 16, 17], [0, 1, 2, 3, 4, 5, 6, 7, 8, 9, 10, 11, 12, 13, 14, 15, 16, 17, 18]] [[], [0], [], [], [], [4], [2, 3, 5], [6], [], [], [9], [], [11], [8, 10, 12], [13], [7, 14], [15], [1, 16], []] [[], [], [], [], [], [], [], [], [], [], [], [], [], [], [], [], [], [16, 19], []] [[], [], [], [], [], [], [], [], [], [], [], [], [], [], [], [], [], [19], []] [16, 17] [0, 2, 3, 4, 5, 6, 20, 21, 22, 23, 24, 25, 26, 27, 28, 29, 30, 31, 32, 33, 34, 54, 55, 56, 57, 58, 59, 60, 61] (by kernel_rfl) (by kernel_rfl) (by kernel_rfl) rfl ?_
            first | refine K.D.DW.det (b := []) (u := []) rfl rfl rfl (fun vs hf => K.e_fa fo31_2 rfl) ?_ | refine K.D.DW.det (b := []) (u := []) rfl rfl rfl (fun vs hf => K.e_fieldAddr fo31_2 rfl) ?_
            first | refine K.D.DW.det (b := [0]) (u := []) rfl rfl rfl (fun vs hf => K.e_ldE Tryz.isAgg29 rfl rfl (by assumption) rfl) ?_ | refine K.D.DW.det (b := [0]) (u := []) rfl rfl rfl (fun vs hf => K.e_ldF Tryz.isAgg29 rfl rfl (by assumption) rfl) ?_ | refine K.D.DW.det (b := [0]) (u := []) rfl rfl rfl (fun vs hf => K.e_load Tryz.isAgg29 rfl rfl) ?_ | refine K.D.DW.det (b := [0]) (u := []) rfl rfl rfl (fun vs hf => K.e_load0 Tryz.isAgg29 rfl (by assumption)) ?_
            refine K.D.DW.det (b := []) (u := []) rfl rfl rfl (fun vs hf => K.e_move rfl) ?_
            refine K.D.DW.det (b := []) (u := []) rfl rfl rfl (fun vs hf => K.e_move rfl) ?_
            refine K.D.DW.det (b := []) (u := []) rfl rfl rfl (fun vs hf => K.e_move rfl) ?_
            first | refine K.D.DW.det (b := [4]) (u := []) rfl rfl rfl (fun vs hf => K.e_add rfl rfl ⟨by omega, by omega⟩) ?_ | refine K.D.DW.det (b := [4]) (u := []) rfl rfl rfl (fun vs hf => K.e_addw rfl rfl) ?_
            refine K.D.DW.ev0 (b := [2, 3, 5]) (u := []) (a := []) rfl rfl rfl (fun vs hf => show K.D.EvM _ _ _ _ (_) [] _ _ _ _ _ from K.D.em_partLH (i := 7 + 6 * x) (j := 7 + 6 * x + 4) sl32 rfl rfl rfl rfl rfl (by omega) (by omega) (by omega)) ?_
            refine K.D.DW.det (b := [6]) (u := []) rfl rfl rfl (fun vs ⟨⟨hf41, hg41⟩, _⟩ => ev_rnum_con Tryz.call54 rfl (by simp only [List.length_drop, List.length_take]; omega)) ?_
            refine K.D.DW.det (b := []) (u := []) rfl rfl rfl (fun vs hf => K.e_move rfl) ?_
            refine K.D.DW.det (b := []) (u := []) rfl rfl rfl (fun vs hf => K.e_move rfl) ?_
            first | refine K.D.DW.det (b := [9]) (u := []) rfl rfl rfl (fun vs hf => K.e_add rfl rfl ⟨by omega, by omega⟩) ?_ | refine K.D.DW.det (b := [9]) (u := []) rfl rfl rfl (fun vs hf => K.e_addw rfl rfl) ?_
            refine K.D.DW.det (b := []) (u := []) rfl rfl rfl (fun vs hf => K.e_move rfl) ?_
            first | refine K.D.DW.det (b := [11]) (u := []) rfl rfl rfl (fun vs hf => K.e_add rfl rfl ⟨by omega, by omega⟩) ?_ | refine K.D.DW.det (b := [11]) (u := []) rfl rfl rfl (fun vs hf => K.e_addw rfl rfl) ?_
            refine K.D.DW.ev0 (b := [8, 10, 12]) (u := []) (a := []) rfl rfl rfl (fun vs hf => show K.D.EvM _ _ _ _ (_) [] _ _ _ _ _ from K.D.em_partLH (i := 7 + 6 * x + 4) (j := 7 + 6 * x + 6) sl32 rfl rfl rfl rfl rfl (by omega) (by omega) (by omega)) ?_
            refine K.D.DW.det (b := [13]) (u := []) rfl rfl rfl (fun vs ⟨⟨hf48, hg48⟩, _⟩ => ev_rnum_con Tryz.call54 rfl (by simp only [List.length_drop, List.length_take]; omega)) ?_
            refine K.D.DW.det (b := [7, 14]) (u := []) rfl rfl rfl (fun vs hf => K.e_build lay82 rfl) ?_
            refine K.D.DW.ev (b := [15]) (u := []) (a := []) rfl rfl rfl (fun _ g => .slice (g 0).1 ([⟨leN ((l.take (7 + 6 * x + 4)).drop (7 + 6 * x)), leN ((l.take (7 + 6 * x + 6)).drop (7 + 6 * x + 4))⟩] : List Ext).length (g 0).2) (fun _ _ => True) (fun _ g => trow (g 0).1 (g 0).2 82 encX [⟨leN ((l.take (7 + 6 * x + 4)).drop (7 + 6 * x)), leN ((l.take (7 + 6 * x + 6)).drop (7 + 6 * x + 4))⟩]) (fun vs hf => show K.D.EvM _ _ _ _ (_) [] _ _ _ _ _ from K.D.em_build encX [⟨leN ((l.take (7 + 6 * x + 4)).drop (7 + 6 * x)), leN ((l.take (7 + 6 * x + 6)).drop (7 + 6 * x + 4))⟩] mk29 rfl rfl rfl rfl) ?_
            refine K.D.DW.ev0 (b := [1, 16]) (u := [16, 19]) (a := [19]) rfl rfl rfl (fun vs ⟨hf51, _⟩ => show K.D.EvM _ _ _ _ (_ :: _ :: _) [_] _ _ _ _ _ from K.D.em_append mk29 rfl rfl rfl rfl rfl (by first | omega | (simp only [List.length_cons, List.length_nil, List.length_append]; omega)) (by first | omega | (simp only [List.length_cons, List.length_nil, List.length_append]; omega))) ?_
            first | refine K.D.DW.det (b := []) (u := []) rfl rfl rfl (fun vs hf => K.e_fa fo31_2 rfl) ?_ | refine K.D.DW.det (b := []) (u := []) rfl rfl rfl (fun vs hf => K.e_fieldAddr fo31_2 rfl) ?_
            refine K.D.DW.fin (fun vs hf => ?_)
            refine K.GL.keep [0, 2, 3, 4, 5, 6, 20, 21, 22, 23, 24, 25, 26, 27, 28, 29, 30, 31, 32, 33, 34, 35, 36, 37, 38, 39, 40, 41, 42, 43, 44, 45, 46, 47, 48, 49, 50, 51, 52, 53, 54, 55, 56, 57, 58, 59, 60, 61] rfl ?_
            refine K.D.GL.resE (L' := _ :: _ :: _) rfl ?_
            try dsimp only
            clear hf
            generalize (vs 16 0).1 = a51, (vs 16 0).2 = c51
            generalize (vs 17 0).1 = a52, (vs 17 0).2 = c52
            try clear vs
            refine K.GL.store rfl rfl rfl Tryz.sizeOf29 rfl rfl ?_
            refine K.GL.nil ?_
            refine K.GQ.block_normal ?_
            refine K.GQ.go ?_
            refine K.GC.region ?_
            refine K.GL.det (K.e_move rfl) rfl ?_
            first | refine K.GL.det (K.e_add rfl rfl ⟨by omega, by omega⟩) rfl ?_ | refine K.GL.det (K.e_addw rfl rfl) rfl ?_
            refine K.GL.det (K.e_assign rfl) rfl ?_
            refine K.GL.nil ?_
            exact K.GQ.round (x + 1, (a52, c52)) ⟨by simp only; omega, by simp only; omega⟩ (by simp only; omega) (by (repeat refine ⟨rfl, ?_⟩); exact trivial) (by simp only [tabC, parN_next, parN_gen, parN_opn, rget_ext]; exact K.sb)
        · first
          | exact absurd h3 (by decide)
          | try replace h3 := of_decide_eq_false h3
            refine K.GC.exit ?_
            refine K.GQ.then_exit ?_
            refine K.GQ.then_exit ?_
            refine K.GQ.block_hit ?_
            refine K.GQ.go ?_
            refine K.GC.seq ?_
            refine K.GC.seq ?_
            obtain rfl : x = (min (cntOf l) 8).toNat := by rw [hcn]; omega
            refine K.D.GC.drawn0 6 [[], [0], [0, 1], [], [3], [0, 1, 2, 3, 4]] [[], [0], [1], [], [3], [2, 4]] [[], [], [1], [], [], []] [[], [], [], [], [], []] [] [0, 2, 3, 4, 60, 61] (by kernel_rfl) (by kernel_rfl) (by kernel_rfl) rfl ?_
            first | refine K.D.DW.det (b := []) (u := []) rfl rfl rfl (fun vs hf => K.e_ldA Tryz.isAgg31 Tryz.sizeOf31 rfl rfl (by assumption)) ?_ | refine K.D.DW.det (b := []) (u := []) rfl rfl rfl (fun vs hf => K.e_ldAF Tryz.isAgg31 Tryz.sizeOf31 rfl rfl (by assumption) rfl) ?_ | refine K.D.DW.det (b := []) (u := []) rfl rfl rfl (fun vs hf => K.e_loads Tryz.isAgg31 Tryz.sizeOf31 rfl rfl) ?_
            refine K.D.DW.ev0 (b := [0]) (u := []) (a := []) rfl rfl rfl (fun vs hf => show K.D.EvM _ _ _ _ (_) [] _ _ _ _ _ from em_rtput_con Tryz.call34 rfl (by rw [parN_len]; omega)) ?_
            first | refine K.D.DW.det (b := [1]) (u := [1]) rfl rfl rfl (fun vs ⟨hf55, _⟩ => show K.Ev _ _ _ _ (_ :: _) _ _ _ _ from K.e_str Tryz.underlying32 Tryz.underlying5 Tryz.underlying9 rfl rfl) ?_ | refine K.D.DW.det (b := [1]) (u := [1]) rfl rfl rfl (fun vs ⟨hf55, _⟩ => show K.Ev _ _ _ _ (_ :: _) _ _ _ _ from K.e_b2s Tryz.underlying32 Tryz.underlying5 Tryz.underlying9 rfl (by first | assumption | omega | rfl | simp [*])) ?_
            refine K.D.DW.det (b := []) (u := []) rfl rfl rfl (fun vs hf => K.e_move rfl) ?_
            first | refine K.D.DW.det (b := [3]) (u := []) rfl rfl rfl (fun vs hf => K.e_str Tryz.underlying32 Tryz.underlying5 Tryz.underlying9 rfl rfl) ?_ | refine K.D.DW.det (b := [3]) (u := []) rfl rfl rfl (fun vs hf => K.e_b2s Tryz.underlying32 Tryz.underlying5 Tryz.underlying9 rfl (by first | assumption | omega | rfl | simp [*])) ?_
            first | refine K.D.DW.det (b := [2, 4]) (u := []) rfl rfl rfl (fun vs hf => (K.e_nes Tryz.underlying9 rfl rfl).yes (by first | omega | assumption | decide +kernel)) ?_ | refine K.D.DW.det (b := [2, 4]) (u := []) rfl rfl rfl (fun vs hf => (K.e_nes Tryz.underlying9 rfl rfl).no (by first | omega | assumption | decide +kernel)) ?_ | refine K.D.DW.det (b := [2, 4]) (u := []) rfl rfl rfl (fun vs hf => K.e_nes Tryz.underlying9 rfl rfl) ?_
            refine K.D.DW.fin (fun vs hf => ?_)
            refine K.GL.keep [2, 3, 4, 59, 60, 61] rfl ?_
            refine K.D.GL.resE (L' := _) rfl ?_
            clear hf
            try clear vs
            refine K.GL.nil ?_
            refine K.GQ.go ?_
            refine K.GC.condB rfl (fun h4 => ?_) (fun h4 => ?_)
            · first
              | exact absurd h4 (by decide)
              | try replace h4 := of_decide_eq_true h4
                refine K.GC.seq ?_
                refine K.GC.region ?_
                refine K.GL.det (K.e_build lay31 rfl) rfl ?_
                refine K.GL.storeP (vs := tabC ⟨0, 0, []⟩ none 0) (cs' := tabC ⟨0, 0, []⟩ none 0) rfl rfl rfl Tryz.sizeOf31 rfl rfl (by exact spliceO_all rfl) ?_
                refine K.GL.det (K.e_assign rfl) rfl ?_
                refine K.GL.nil ?_
                refine K.GQ.go ?_
                refine K.GC.ret ?_
                refine K.GQ.then_ret ?_
                refine K.GQ.ret_ct Tryz.results44 Tryz.isAgg31 Tryz.sizeOf31 rfl rfl rfl (fun w hT => ?_)
                first
                  | (have hb := getB_len (l := l) (by omega)
                     rw [getT_no hb, hb]
                     exact ⟨none, 0, rfl, hT.nil.trow_nil 82 encX⟩)
                  | (have hb := getB_bad (l := l) (by assumption)
                     rw [getT_no hb, hb]
                     exact ⟨none, 0, rfl, hT.nil.trow_nil 82 encX⟩)
                  | (have hb := getB_ok h64 (by first | assumption | exact Classical.not_not.1 (by assumption))
                     rw [getT_yes hb, hb]
                     exact ⟨a4, c4, rfl, hT.sub (L' := [trow a4 c4 82 encX (parN l (min (cntOf l) 8).toNat).exts]) K.sb⟩)
            · first
              | exact absurd h4 (by decide)
              | try replace h4 := of_decide_eq_false h4
                refine K.GC.skip ?_
                refine K.GQ.go ?_
                refine K.GC.seq ?_
                refine K.GC.region ?_
                first | refine K.GL.det (K.e_ldA Tryz.isAgg31 Tryz.sizeOf31 rfl rfl (by assumption)) rfl ?_ | refine K.GL.det (K.e_ldAF Tryz.isAgg31 Tryz.sizeOf31 rfl rfl (by assumption) rfl) rfl ?_ | refine K.GL.det (K.e_loads Tryz.isAgg31 Tryz.sizeOf31 rfl rfl) rfl ?_
                refine K.GL.storeP (vs := tabC (parT l) a4 c4) (cs' := tabC (parT l) a4 c4) rfl rfl rfl Tryz.sizeOf31 rfl rfl (by exact spliceO_all rfl) ?_
                refine K.GL.det (K.e_assign rfl) rfl ?_
                refine K.GL.nil ?_
                refine K.GQ.go ?_
                refine K.GC.ret ?_
                refine K.GQ.ret_ct Tryz.results44 Tryz.isAgg31 Tryz.sizeOf31 rfl rfl rfl (fun w hT => ?_)
                first
                  | (have hb := getB_len (l := l) (by omega)
                     rw [getT_no hb, hb]
                     exact ⟨none, 0, rfl, hT.nil.trow_nil 82 encX⟩)
                  | (have hb := getB_bad (l := l) (by assumption)
                     rw [getT_no hb, hb]
                     exact ⟨none, 0, rfl, hT.nil.trow_nil 82 encX⟩)
                  | (have hb := getB_ok h64 (by first | assumption | exact Classical.not_not.1 (by assumption))
                     rw [getT_yes hb, hb]
                     exact ⟨a4, c4, rfl, hT.sub (L' := [trow a4 c4 82 encX (parN l (min (cntOf l) 8).toNat).exts]) K.sb⟩)
section
variable {ops : Array Oper} {Q : Exit → Act → World → Prop} {N : Nat} {U : Env} {w0 : World} {L0 L F : List Res} {ty : TypeId} {rest : List Oper} {pos : String} {after : Array Edge} {xs : List Operand} {tys : Array TypeId} {dT : Tmp}
theorem gl_rtget_con {l : Bytes} {a : Option Addr} {c : Nat} (hf : ∀ args w, (callFunc 44 args).run Tryz.prog w = .ok (.enter 44 args) w) (hx : opvs U xs = some [.slice a l.length c]) (hc : l.length ≤ c) (hl : l.length < 4611686018427387904) [o0 : RdC w0 L0 [] L a (encB) (l)] (hd : Nat.ble (dT + 1) N = true)
    (hr : ∀ (a' : Option Addr) (c' : Nat), GL Tryz.prog ops Q rest N ((dT, .tuple #[.agg (tabC (getT l) a' c').toArray, .bool (getB l)]) :: U) w0 L0 (trow a' c' 82 encX (getT l).exts :: L)) : GL Tryz.prog ops Q (⟨some dT, .call ⟨.value (.func 44), xs.toArray, tys⟩, ty, pos, after, Option.none⟩ :: rest) N U w0 L0 L :=
  GL.callM (α := (Option Addr) × (Nat)) (l := []) (Pv := fun y v => v = .tuple #[.agg (tabC (getT l) y.1 y.2).toArray, .bool (getB l)]) (l' := fun y => [trow y.1 y.2 82 encX (getT l).exts]) hf hx (Sub.refl _)
    (fun w hT => by
      have _o0 := o0.out w hT; exact (rtget_con hc hl).mono fun e w' ⟨a', c', h1, h2⟩ => ⟨(a', c'), _, h1, rfl, h2⟩) hd fun y v hv => by subst hv; exact hr y.1 y.2 
end
section
variable {ops : Array Oper} {Q : Exit → Act → World → Prop} {N : Nat} {U : Env} {w0 : World} {L0 L F : List Res} {ty : TypeId} {rest : List Oper} {pos : String} {after : Array Edge} {xs : List Operand} {tys : Array TypeId} {dT : Tmp}
end
end Go.Proofs.YtdbedajaapamhaaGreat
