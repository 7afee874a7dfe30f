/- The sector of a table. -/
import Derived.Test.YtdbedajaapamhaaGreatTabE
namespace Go.Proofs.YtdbedajaapamhaaGreat
open Go Go.K
set_option linter.unusedVariables false
set_option linter.unusedSimpArgs false
attribute [local irreducible] Calls Ev GL GC GQ GR Code.wp

def tb0 (t : Tab) : Bytes := [] ++ [t.gen].flatMap (leB 4) ++ [(t.exts.length : Int), t.opn + 1].flatMap (leB 1)

def tbX (b : Bytes) (x : Ext) : Bytes := b ++ [x.seq].flatMap (leB 4) ++ [x.len].flatMap (leB 2)

def tbs (t : Tab) (i : Nat) : Bytes := (t.exts.take i).foldl tbX (tb0 t)

def tbody (t : Tab) : Bytes := t.exts.foldl tbX (tb0 t)

def putT (t : Tab) : Bytes := if rightB t = true then cput t.gen 255 (tbody t) else []

theorem tb0_len (t : Tab) : (tb0 t).length = 6 := by simp [tb0, leB]

theorem tbX_len (b : Bytes) (x : Ext) : (tbX b x).length = b.length + 6 := by simp [tbX, leB]

theorem fold_len : ∀ (l : List Ext) (b : Bytes), (l.foldl tbX b).length = b.length + 6 * l.length
  | [], b => by simp
  | x :: l, b => by rw [List.foldl_cons, fold_len l, tbX_len, List.length_cons]; omega

theorem tbs_len (t : Tab) (i : Nat) (h : i ≤ t.exts.length) : (tbs t i).length = 6 + 6 * i := by
  unfold tbs
  rw [fold_len, tb0_len, List.length_take, Nat.min_eq_left h]

theorem tbs_next {t : Tab} {i : Nat} {x : Ext} (h : t.exts[i]? = some x) : tbs t (i + 1) = tbs t i ++ [x.seq].flatMap (leB 4) ++ [x.len].flatMap (leB 2) := by
  unfold tbs
  rw [take_one h, List.foldl_append]; rfl

theorem tbs_zero (t : Tab) : tbs t 0 = tb0 t := rfl

theorem tbs_all {t : Tab} {i : Nat} (h : t.exts.length ≤ i) : tbs t i = tbody t := by
  unfold tbs tbody
  rw [List.take_of_length_le h]

theorem tbody_len (t : Tab) : (tbody t).length = 6 + 6 * t.exts.length := by unfold tbody; rw [fold_len, tb0_len]

structure RightP (t : Tab) : Prop where
  g1 : 1 ≤ t.gen
  g2 : t.gen ≤ 2147483648
  n1 : 4 ≤ t.exts.length
  n2 : t.exts.length ≤ 8
  o1 : -1 ≤ t.opn
  o2 : t.opn < t.exts.length
  ok : ∀ x ∈ t.exts, x.ok = true
  nd : (seqs t.exts).Nodup
  op : opnOk t = true

theorem right_iff (t : Tab) : rightB t = true ↔ RightP t := by
  unfold rightB
  simp only [Bool.and_eq_true, decide_eq_true_eq, Bool.not_eq_true', List.any_eq_false]
  constructor
  · rintro ⟨⟨⟨⟨⟨h1, h2⟩, h3⟩, h4⟩, h5⟩, h6⟩
    exact ⟨h1.1, h1.2, by omega, by omega, h3.1, by omega, fun x hx => by simpa using h4 x hx, h5, h6⟩
  · intro h
    exact ⟨⟨⟨⟨⟨⟨h.g1, h.g2⟩, by have := h.n1; have := h.n2; omega⟩, by have := h.o1; have := h.o2; omega⟩, fun x hx => by simpa using h.ok x hx⟩, h.nd⟩, h.op⟩

theorem Ext.ok_iff (x : Ext) : x.ok = true ↔ 0 ≤ x.seq ∧ x.seq ≤ 2147483648 ∧ 0 ≤ x.len ∧ x.len ≤ 3776 ∧ (x.seq ≠ 0 ∨ x.len = 0) := by
  unfold Ext.ok
  simp only [Bool.and_eq_true, Bool.or_eq_true, decide_eq_true_eq]
  constructor
  · rintro ⟨⟨h1, h2⟩, h3⟩; exact ⟨h1.1, h1.2, h2.1, h2.2, h3⟩
  · rintro ⟨h1, h2, h3, h4, h5⟩; exact ⟨⟨⟨h1, h2⟩, h3, h4⟩, h5⟩

theorem putT_len {t : Tab} (h : rightB t = true) : (putT t).length = 64 := by
  have hr := (right_iff t).1 h
  unfold putT
  rw [if_pos h]
  exact cput_len ⟨by unfold rightC; exact decide_eq_true ⟨hr.g1, hr.g2, by decide, by decide⟩, by rw [tbody_len]; have := hr.n2; omega⟩

/- turntable/table.Put -/
set_option maxHeartbeats 4000000 in
set_option maxRecDepth 100000 in
theorem tput_con {t : Tab} {a : Option Addr} {c : Nat} {w : World} (hl : t.exts.length ≤ 9223372036854775807) [Old w [] a (encX) (t.exts)] :
    Calls Tryz.prog 28 #[.agg (tabC t a c).toArray] w fun e w' => ∃ a' : Option Addr, ∃ c' : Nat, e = .returned (.slice a' (putT t).length c') ∧ (putT t).length ≤ c' ∧ Tr w [] w' [trow a' c' 104 encB (putT t)] := by
  refine K.enter0 (args := [_]) Tryz.func28 rfl Tryz.ntmps28 rfl ?_
  refine K.GC.seq ?_
  refine K.GC.region ?_
  refine K.GL.box rfl rfl rfl (fun b1 => ?_)
  refine K.GL.det (K.e_assign rfl) rfl ?_
  refine K.GL.nil ?_
  refine K.GQ.go ?_
  refine K.GC.seq ?_
  refine K.GC.seq ?_
  refine K.GC.region ?_
  first | refine K.GL.det (K.e_ldA Tryz.isAgg31 Tryz.sizeOf31 rfl rfl (by assumption)) rfl ?_ | refine K.GL.det (K.e_ldAF Tryz.isAgg31 Tryz.sizeOf31 rfl rfl (by assumption) rfl) rfl ?_ | refine K.GL.det (K.e_loads Tryz.isAgg31 Tryz.sizeOf31 rfl rfl) rfl ?_
  refine K.GL.det (ev_right_con Tryz.call47 rfl (by first | assumption | omega | rfl | decide)) rfl ?_
  first | refine K.GL.det (K.e_notp rfl) rfl ?_ | refine K.GL.det (K.e_not rfl) rfl ?_
  refine K.GL.nil ?_
  refine K.GQ.go ?_
  refine K.GC.condB rfl (fun h1 => ?_) (fun h1 => ?_)
  · first
    | exact absurd h1 (by decide)
    | try replace h1 := of_decide_eq_true h1
      refine K.GC.seq ?_
      refine K.GC.region ?_
      refine K.GL.det (K.e_assign rfl) rfl ?_
      refine K.GL.nil ?_
      refine K.GQ.go ?_
      refine K.GC.ret ?_
      refine K.GQ.then_ret ?_
      refine K.GQ.ret1 Tryz.results28 rfl (fun w hT => ?_)
      first
        | (have hp : putT t = [] := by unfold putT; rw [if_neg (by simp_all)]
           rw [hp]
           exact ⟨none, 0, rfl, by simp, hT.nil.trow_nil 104 encB⟩)
        | (have hp : putT t = cput t.gen 255 (tbody t) := by unfold putT; rw [if_pos (by simp_all)]
           rw [hp]
           exact ⟨a41, c41, rfl, hc41, hT.sub K.sb⟩)
  · first
    | exact absurd h1 (by decide)
    | try replace h1 := of_decide_eq_false h1
      refine K.GC.skip ?_
      refine K.GQ.go ?_
      refine K.GC.seq ?_
      have hR := (right_iff t).1 (by simpa using h1)
      have h01 := hR.o1
      have h02 := hR.o2
      have h03 := hR.n2
      refine K.GC.trow0 5 encB ?_
      refine K.D.GC.drawn1 12 [[], [0], [0, 1], [0, 1, 2], [], [4], [4, 5], [], [7], [7, 8], [4, 5, 6, 7, 8, 9], [0, 1, 2, 3, 4, 5, 6, 7, 8, 9, 10], [0, 1, 2, 3, 4, 5, 6, 7, 8, 9, 10, 11]] [[], [0], [1], [2], [], [4], [5], [], [7], [8], [6, 9], [3, 10]] [[], [], [], [2, 12], [], [], [], [], [], [], [], [3, 10]] [[], [], [], [12], [], [], [], [], [], [], [], [3]] [11] [1, 2, 3, 5, 21, 22, 23, 24, 25, 26, 27, 28, 29, 30, 31, 32, 33, 34, 35, 36, 37, 38, 39, 40, 41] (.const (.slice none 0 0)) rfl (by kernel_rfl) (by kernel_rfl) (by kernel_rfl) rfl ?_
      first | refine K.D.DW.det (b := []) (u := []) rfl rfl rfl (fun vs hf => K.e_fa fo31_0 rfl) ?_ | refine K.D.DW.det (b := []) (u := []) rfl rfl rfl (fun vs hf => K.e_fieldAddr fo31_0 rfl) ?_
      first | refine K.D.DW.det (b := [0]) (u := []) rfl rfl rfl (fun vs hf => K.e_ldE Tryz.isAgg2 rfl rfl (by assumption) rfl) ?_ | refine K.D.DW.det (b := [0]) (u := []) rfl rfl rfl (fun vs hf => K.e_ldF Tryz.isAgg2 rfl rfl (by assumption) rfl) ?_ | refine K.D.DW.det (b := [0]) (u := []) rfl rfl rfl (fun vs hf => K.e_load Tryz.isAgg2 rfl rfl) ?_ | refine K.D.DW.det (b := [0]) (u := []) rfl rfl rfl (fun vs hf => K.e_load0 Tryz.isAgg2 rfl (by assumption)) ?_
      refine K.D.DW.ev0 (b := [1]) (u := []) (a := []) rfl rfl rfl (fun vs hf => show K.D.EvM _ _ _ _ (_) [] _ _ _ _ _ from K.D.em_build (K.encI .i64) [_] mk102 rfl rfl rfl rfl) ?_
      refine K.D.DW.ev0 (b := [2]) (u := [2, 12]) (a := [12]) rfl rfl rfl (fun vs ⟨hf11, _⟩ => show K.D.EvM _ _ _ _ (_ :: _ :: _) [_] _ _ _ _ _ from em_nums_con (bl := []) (wd := 4) Tryz.call48 rfl (by omega) (by first | omega | (simp only [List.length_append, List.length_cons, List.length_nil, List.flatMap_cons, List.flatMap_nil, leB_len]; omega)) (by first | omega | (simp only [List.length_append, List.length_cons, List.length_nil, List.flatMap_cons, List.flatMap_nil, leB_len]; omega))) ?_
      first | refine K.D.DW.det (b := []) (u := []) rfl rfl rfl (fun vs hf => K.e_fa fo31_2 rfl) ?_ | refine K.D.DW.det (b := []) (u := []) rfl rfl rfl (fun vs hf => K.e_fieldAddr fo31_2 rfl) ?_
      first | refine K.D.DW.det (b := [4]) (u := []) rfl rfl rfl (fun vs hf => K.e_ldE Tryz.isAgg29 rfl rfl (by assumption) rfl) ?_ | refine K.D.DW.det (b := [4]) (u := []) rfl rfl rfl (fun vs hf => K.e_ldF Tryz.isAgg29 rfl rfl (by assumption) rfl) ?_ | refine K.D.DW.det (b := [4]) (u := []) rfl rfl rfl (fun vs hf => K.e_load Tryz.isAgg29 rfl rfl) ?_ | refine K.D.DW.det (b := [4]) (u := []) rfl rfl rfl (fun vs hf => K.e_load0 Tryz.isAgg29 rfl (by assumption)) ?_
      refine K.D.DW.det (b := [5]) (u := []) rfl rfl rfl (fun vs hf => K.e_len Tryz.underlying29 rfl) ?_
      first | refine K.D.DW.det (b := []) (u := []) rfl rfl rfl (fun vs hf => K.e_fa fo31_1 rfl) ?_ | refine K.D.DW.det (b := []) (u := []) rfl rfl rfl (fun vs hf => K.e_fieldAddr fo31_1 rfl) ?_
      first | refine K.D.DW.det (b := [7]) (u := []) rfl rfl rfl (fun vs hf => K.e_ldE Tryz.isAgg3 rfl rfl (by assumption) rfl) ?_ | refine K.D.DW.det (b := [7]) (u := []) rfl rfl rfl (fun vs hf => K.e_ldF Tryz.isAgg3 rfl rfl (by assumption) rfl) ?_ | refine K.D.DW.det (b := [7]) (u := []) rfl rfl rfl (fun vs hf => K.e_load Tryz.isAgg3 rfl rfl) ?_ | refine K.D.DW.det (b := [7]) (u := []) rfl rfl rfl (fun vs hf => K.e_load0 Tryz.isAgg3 rfl (by assumption)) ?_
      refine K.D.DW.det (b := [8]) (u := []) rfl rfl rfl (fun vs hf => (K.e_add rfl rfl ⟨by omega, by omega⟩)) ?_
      refine K.D.DW.ev0 (b := [6, 9]) (u := []) (a := []) rfl rfl rfl (fun vs hf => show K.D.EvM _ _ _ _ (_) [] _ _ _ _ _ from K.D.em_build (K.encI .i64) [_, _] mk102 rfl rfl rfl rfl) ?_
      refine K.D.DW.ev0 (b := [3, 10]) (u := [3, 10]) (a := [3]) rfl rfl rfl (fun vs ⟨hf12, hf19, _⟩ => show K.D.EvM _ _ _ _ (_ :: _ :: _) [_] _ _ _ _ _ from em_nums_con (wd := 1) Tryz.call48 rfl (by omega) (by first | omega | (simp only [List.length_append, List.length_cons, List.length_nil, List.flatMap_cons, List.flatMap_nil, leB_len]; omega)) (by first | omega | (simp only [List.length_append, List.length_cons, List.length_nil, List.flatMap_cons, List.flatMap_nil, leB_len]; omega))) ?_
      refine K.D.DW.fin (fun vs hf => ?_)
      refine K.GL.keep [1, 2, 3, 5, 20, 21, 22, 23, 24, 25, 26, 27, 28, 29, 30, 31, 32, 33, 34, 35, 36, 37, 38, 39, 40, 41] rfl ?_
      refine K.D.GL.resE (L' := _ :: _) rfl ?_
      try dsimp only
      clear hf
      generalize (vs 11 0).1 = a20, (vs 11 0).2 = c20
      try clear vs
      refine K.GL.det (K.e_assign rfl) rfl ?_
      refine K.GL.nil ?_
      refine K.GQ.go ?_
      refine K.GC.seq ?_
      refine K.GC.seq ?_
      refine K.GC.region ?_
      first | refine K.GL.det (K.e_fa fo31_2 rfl) rfl ?_ | refine K.GL.det (K.e_fieldAddr fo31_2 rfl) rfl ?_
      first | refine K.GL.det (K.e_ldE Tryz.isAgg29 rfl rfl (by assumption) rfl) rfl ?_ | refine K.GL.det (K.e_ldF Tryz.isAgg29 rfl rfl (by assumption) rfl) rfl ?_ | refine K.GL.det (K.e_load Tryz.isAgg29 rfl rfl) rfl ?_ | refine K.GL.det (K.e_load0 Tryz.isAgg29 rfl (by assumption)) rfl ?_
      refine K.GL.det (K.e_len Tryz.underlying29 rfl) rfl ?_
      refine K.GL.det (K.e_move rfl) rfl ?_
      refine K.GL.nil ?_
      refine K.GQ.go ?_
      refine K.GC.block ?_
      refine K.GC.loopk (α := Nat × Option Addr × Nat) [1, 2, 22, 23, 38, 39, 40, 41] rfl (fun x => [(3, .slice x.2.1 (tbs t x.1).length x.2.2), (24, .int .i64 (x.1 : Int))]) (fun x => [trow x.2.1 x.2.2 5 encB (tbs t x.1), cl b1 31 (tabC t a c)]) (fun x => x.1 ≤ t.exts.length) (fun x => (t.exts.length - x.1)) (0, a20, c20) (Nat.zero_le _) (by (repeat refine ⟨rfl, ?_⟩); exact trivial) (K.Sub.refl _) (fun x hI => ?_)
      obtain ⟨x, a1, c1⟩ := x
      simp only at hI ⊢
      refine K.GC.seq ?_
      refine K.GC.region ?_
      first | refine K.GL.det ((K.e_lt rfl rfl).yes (by first | omega | assumption | decide +kernel)) rfl ?_ | refine K.GL.det ((K.e_lt rfl rfl).no (by first | omega | assumption | decide +kernel)) rfl ?_ | refine K.GL.det (K.e_lt rfl rfl) rfl ?_
      refine K.GL.nil ?_
      refine K.GQ.go ?_
      refine K.GC.seq ?_
      refine K.GC.condB rfl (fun h2 => ?_) (fun h2 => ?_)
      · first
        | exact absurd h2 (by decide)
        | try replace h2 := of_decide_eq_true h2
          refine K.GC.skip ?_
          refine K.GQ.go ?_
          refine K.GC.seq ?_
          refine K.GC.block ?_
          refine K.GC.seq ?_
          refine K.GC.region ?_
          first | refine K.GL.ixK sl29 rfl rfl rfl rfl (by assumption) rfl ?_ | refine K.GL.ix sl29 rfl rfl rfl rfl (by omega) rfl (fun q26 hq26 => ?_) | refine K.GL.ixI sl29 rfl rfl rfl rfl (by omega) (by omega) rfl (fun q26 hq26 => ?_) | refine K.GL.det (K.e_indexAddrS sl29 rfl rfl (by assumption) (by omega) (by omega)) rfl ?_ | refine K.GL.det (K.e_indexAddr sl29 rfl rfl (by omega) (by omega)) rfl ?_
          first | refine K.GL.det (K.e_ldA Tryz.isAgg82 Tryz.sizeOf82 rfl rfl (by assumption)) rfl ?_ | refine K.GL.det (K.e_ldAF Tryz.isAgg82 Tryz.sizeOf82 rfl rfl (by assumption) rfl) rfl ?_ | refine K.GL.det (K.e_loads Tryz.isAgg82 Tryz.sizeOf82 rfl rfl) rfl ?_
          refine K.GL.alloc Tryz.zeroValue82 rfl rfl (fun b5 => ?_)
          refine K.GL.store rfl rfl rfl Tryz.sizeOf82 rfl rfl ?_
          refine K.GL.nil ?_
          refine K.GQ.go ?_
          have hxl := len_of hq26
          have hbl := tbs_len t x (by omega)
          refine K.D.GC.drawn1 9 [[], [], [1], [1, 2], [0, 1, 2, 3], [], [5], [5, 6], [0, 1, 2, 3, 4, 5, 6, 7], [0, 1, 2, 3, 4, 5, 6, 7, 8]] [[], [], [1], [2], [0, 3], [], [5], [6], [4, 7]] [[], [], [], [], [3, 9], [], [], [], [4, 7]] [[], [], [], [], [9], [], [], [], [4]] [8] [1, 2, 3, 5, 22, 23, 24, 25, 26, 27, 37, 38, 39, 40, 41] (.tmp 3) rfl (by kernel_rfl) (by kernel_rfl) (by kernel_rfl) rfl ?_
          refine K.D.DW.det (b := []) (u := []) rfl rfl rfl (fun vs hf => K.e_move rfl) ?_
          first | refine K.D.DW.det (b := []) (u := []) rfl rfl rfl (fun vs hf => K.e_fa fo82_0 rfl) ?_ | refine K.D.DW.det (b := []) (u := []) rfl rfl rfl (fun vs hf => K.e_fieldAddr fo82_0 rfl) ?_
          first | refine K.D.DW.det (b := [1]) (u := []) rfl rfl rfl (fun vs hf => K.e_ldE Tryz.isAgg2 rfl rfl (by assumption) rfl) ?_ | refine K.D.DW.det (b := [1]) (u := []) rfl rfl rfl (fun vs hf => K.e_ldF Tryz.isAgg2 rfl rfl (by assumption) rfl) ?_ | refine K.D.DW.det (b := [1]) (u := []) rfl rfl rfl (fun vs hf => K.e_load Tryz.isAgg2 rfl rfl) ?_ | refine K.D.DW.det (b := [1]) (u := []) rfl rfl rfl (fun vs hf => K.e_load0 Tryz.isAgg2 rfl (by assumption)) ?_
          refine K.D.DW.ev0 (b := [2]) (u := []) (a := []) rfl rfl rfl (fun vs hf => show K.D.EvM _ _ _ _ (_) [] _ _ _ _ _ from K.D.em_build (K.encI .i64) [_] mk102 rfl rfl rfl rfl) ?_
          refine K.D.DW.ev0 (b := [0, 3]) (u := [3, 9]) (a := [9]) rfl rfl rfl (fun vs ⟨hf31, _⟩ => show K.D.EvM _ _ _ _ (_ :: _ :: _) [_] _ _ _ _ _ from em_nums_con (wd := 4) Tryz.call48 rfl (by omega) (by first | omega | (simp only [List.length_append, List.length_cons, List.length_nil, List.flatMap_cons, List.flatMap_nil, leB_len]; omega)) (by first | omega | (simp only [List.length_append, List.length_cons, List.length_nil, List.flatMap_cons, List.flatMap_nil, leB_len]; omega))) ?_
          first | refine K.D.DW.det (b := []) (u := []) rfl rfl rfl (fun vs hf => K.e_fa fo82_1 rfl) ?_ | refine K.D.DW.det (b := []) (u := []) rfl rfl rfl (fun vs hf => K.e_fieldAddr fo82_1 rfl) ?_
          first | refine K.D.DW.det (b := [5]) (u := []) rfl rfl rfl (fun vs hf => K.e_ldE Tryz.isAgg3 rfl rfl (by assumption) rfl) ?_ | refine K.D.DW.det (b := [5]) (u := []) rfl rfl rfl (fun vs hf => K.e_ldF Tryz.isAgg3 rfl rfl (by assumption) rfl) ?_ | refine K.D.DW.det (b := [5]) (u := []) rfl rfl rfl (fun vs hf => K.e_load Tryz.isAgg3 rfl rfl) ?_ | refine K.D.DW.det (b := [5]) (u := []) rfl rfl rfl (fun vs hf => K.e_load0 Tryz.isAgg3 rfl (by assumption)) ?_
          refine K.D.DW.ev0 (b := [6]) (u := []) (a := []) rfl rfl rfl (fun vs hf => show K.D.EvM _ _ _ _ (_) [] _ _ _ _ _ from K.D.em_build (K.encI .i64) [_] mk102 rfl rfl rfl rfl) ?_
          refine K.D.DW.ev0 (b := [4, 7]) (u := [4, 7]) (a := [4]) rfl rfl rfl (fun vs ⟨hf32, hf35, _⟩ => show K.D.EvM _ _ _ _ (_ :: _ :: _) [_] _ _ _ _ _ from em_nums_con (wd := 2) Tryz.call48 rfl (by omega) (by first | omega | (simp only [List.length_append, List.length_cons, List.length_nil, List.flatMap_cons, List.flatMap_nil, leB_len]; omega)) (by first | omega | (simp only [List.length_append, List.length_cons, List.length_nil, List.flatMap_cons, List.flatMap_nil, leB_len]; omega))) ?_
          refine K.D.DW.fin (fun vs hf => ?_)
          refine K.GL.keep [1, 2, 3, 5, 22, 23, 24, 25, 26, 27, 28, 29, 30, 31, 32, 33, 34, 35, 36, 37, 38, 39, 40, 41] rfl ?_
          refine K.D.GL.resE (L' := _ :: _) rfl ?_
          try dsimp only
          clear hf
          generalize (vs 8 0).1 = a36, (vs 8 0).2 = c36
          try clear vs
          refine K.GL.det (K.e_assign rfl) rfl ?_
          refine K.GL.nil ?_
          refine K.GQ.block_normal ?_
          refine K.GQ.go ?_
          refine K.GC.region ?_
          first | refine K.GL.det (K.e_add rfl rfl ⟨by omega, by omega⟩) rfl ?_ | refine K.GL.det (K.e_addw rfl rfl) rfl ?_
          refine K.GL.det (K.e_move rfl) rfl ?_
          refine K.GL.nil ?_
          exact K.GQ.round (x + 1, a36, c36) (by have := len_of hq26; simp only; omega) (by have := len_of hq26; simp only; omega) (by simp only [tbs_next hq26]; (repeat refine ⟨rfl, ?_⟩); exact trivial) (by simp only [tbs_next hq26]; exact K.sb)
      · first
        | exact absurd h2 (by decide)
        | try replace h2 := of_decide_eq_false h2
          refine K.GC.exit ?_
          refine K.GQ.then_exit ?_
          refine K.GQ.then_exit ?_
          refine K.GQ.block_hit ?_
          refine K.GQ.go ?_
          refine K.GC.seq ?_
          rw [tbs_all (by omega)]
          refine K.GC.region ?_
          first | refine K.GL.det (K.e_fa fo31_0 rfl) rfl ?_ | refine K.GL.det (K.e_fieldAddr fo31_0 rfl) rfl ?_
          first | refine K.GL.det (K.e_ldE Tryz.isAgg2 rfl rfl (by assumption) rfl) rfl ?_ | refine K.GL.det (K.e_ldF Tryz.isAgg2 rfl rfl (by assumption) rfl) rfl ?_ | refine K.GL.det (K.e_load Tryz.isAgg2 rfl rfl) rfl ?_ | refine K.GL.det (K.e_load0 Tryz.isAgg2 rfl (by assumption)) rfl ?_
          refine K.GL.det (K.e_move rfl) rfl ?_
          refine gl_cput_con Tryz.call49 rfl (by rw [tbody_len]; omega) rfl (fun a41 c41 hc41 => ?_)
          refine K.GL.det (K.e_assign rfl) rfl ?_
          refine K.GL.nil ?_
          refine K.GQ.go ?_
          refine K.GC.ret ?_
          refine K.GQ.ret1 Tryz.results28 rfl (fun w hT => ?_)
          first
            | (have hp : putT t = [] := by unfold putT; rw [if_neg (by simp_all)]
               rw [hp]
               exact ⟨none, 0, rfl, by simp, hT.nil.trow_nil 104 encB⟩)
            | (have hp : putT t = cput t.gen 255 (tbody t) := by unfold putT; rw [if_pos (by simp_all)]
               rw [hp]
               exact ⟨a41, c41, rfl, hc41, hT.sub K.sb⟩)
section
variable {ops : Array Oper} {Q : Exit → Act → World → Prop} {N : Nat} {U : Env} {w0 : World} {L0 L F : List Res} {ty : TypeId} {rest : List Oper} {pos : String} {after : Array Edge} {xs : List Operand} {tys : Array TypeId} {dT : Tmp}
theorem gl_tput_con {t : Tab} {a : Option Addr} {c : Nat} (hf : ∀ args w, (callFunc 28 args).run Tryz.prog w = .ok (.enter 28 args) w) (hx : opvs U xs = some [.agg (tabC t a c).toArray]) (hl : t.exts.length ≤ 9223372036854775807) [o0 : RdC w0 L0 [] L a (encX) (t.exts)] (hd : Nat.ble (dT + 1) N = true)
    (hr : ∀ (a' : Option Addr) (c' : Nat), (putT t).length ≤ c' → GL Tryz.prog ops Q rest N ((dT, .slice a' (putT t).length c') :: U) w0 L0 (trow a' c' 104 encB (putT t) :: L)) : GL Tryz.prog ops Q (⟨some dT, .call ⟨.value (.func 28), xs.toArray, tys⟩, ty, pos, after, Option.none⟩ :: rest) N U w0 L0 L :=
  GL.callM (α := (Option Addr) × (Nat)) (l := []) (Pv := fun y v => v = .slice y.1 (putT t).length y.2 ∧ (putT t).length ≤ y.2) (l' := fun y => [trow y.1 y.2 104 encB (putT t)]) hf hx (Sub.refl _)
    (fun w hT => by
      have _o0 := o0.out w hT; exact (tput_con hl).mono fun e w' ⟨a', c', h1, g0, h2⟩ => ⟨(a', c'), _, h1, ⟨rfl, g0⟩, h2⟩) hd fun y v hv => by obtain ⟨rfl, g0⟩ := hv; exact hr y.1 y.2 g0
end
section
variable {ops : Array Oper} {Q : Exit → Act → World → Prop} {N : Nat} {U : Env} {w0 : World} {L0 L F : List Res} {ty : TypeId} {rest : List Oper} {pos : String} {after : Array Edge} {xs : List Operand} {tys : Array TypeId} {dT : Tmp}
end
end Go.Proofs.YtdbedajaapamhaaGreat
