/- The order of what a table names. -/
import Derived.Test.YtdbedajaapamhaaTabG
namespace Go.Proofs.Ytdbedajaapamhaa
open Go Go.K
set_option linter.unusedVariables false
set_option linter.unusedSimpArgs false
attribute [local irreducible] Calls Ev GL GC GQ GR Code.wp
structure TC where
  t : Tab
  a : Option Addr
  c : Nat
instance : Inhabited TC := ⟨⟨⟨0, 0, []⟩, none, 0⟩⟩
def encTC : Enc TC := ⟨fun x => tabC x.t x.a x.c, 3, by decide, fun _ => rfl, fun _ => rfl⟩
def ordA (t : Tab) : List Int := (plc Ext.used t.exts).mergeSort fun i j => decide (sqAt t.exts i ≤ sqAt t.exts j)
def ordT (t : Tab) : List Int := if rightB t = true then ordA t else []
abbrev Pl (t : Tab) : Type := {i : Int // i ∈ plc Ext.used t.exts}
def cfT (t : Tab) (x y : Pl t) : Int := sqAt t.exts x.1 - sqAt t.exts y.1
theorem ordA_len (t : Tab) : (ordA t).length = (plc Ext.used t.exts).length := List.length_mergeSort ..
theorem ordA_perm (t : Tab) : (ordA t).Perm (plc Ext.used t.exts) := List.mergeSort_perm _ _
theorem ordA_sorted (t : Tab) : (ordA t).Pairwise fun i j => sqAt t.exts i ≤ sqAt t.exts j := by
  have h := List.pairwise_mergeSort (le := fun i j : Int => decide (sqAt t.exts i ≤ sqAt t.exts j)) (fun a b c h1 h2 => by simp only [decide_eq_true_eq] at *; omega) (fun a b => by simp only [Bool.or_eq_true, decide_eq_true_eq]; omega) (plc Ext.used t.exts)
  exact h.imp fun h => by simpa using h
theorem swoT (t : Tab) : Sort.SWO (ltOf (cfT t)) := by
  refine ⟨fun x => ?_, fun x y z h1 h2 => ?_, fun x y z h1 h2 => ?_⟩
  · unfold ltOf cfT; rw [decide_eq_false_iff_not]; omega
  · unfold ltOf cfT at *; rw [decide_eq_true_eq] at *; omega
  · unfold ltOf cfT at *; rw [decide_eq_false_iff_not] at *; omega
theorem seqs_inj {t : Tab} (h : RightP t) {x y : Int} (hx : x ∈ plc Ext.used t.exts) (hy : y ∈ plc Ext.used t.exts) (e : sqAt t.exts x = sqAt t.exts y) : x = y := by
  have h1 := h.nd
  rw [← plc_seqs, List.nodup_iff_pairwise_ne, List.pairwise_map] at h1
  rcases List.getElem?_of_mem hx with ⟨i, hi⟩
  rcases List.getElem?_of_mem hy with ⟨j, hj⟩
  have hil := len_of hi
  have hjl := len_of hj
  rw [List.pairwise_iff_getElem] at h1
  have hi2 := (List.getElem?_eq_some_iff.1 hi).2
  have hj2 := (List.getElem?_eq_some_iff.1 hj).2
  rcases Nat.lt_trichotomy i j with h2 | h2 | h2
  · exact absurd (by rw [hi2, hj2]; exact e) (h1 i j hil hjl h2)
  · subst h2; rw [hi] at hj; exact Option.some.inj hj
  · exact absurd (by rw [hi2, hj2]; exact e.symm) (h1 j i hjl hil h2)
theorem totT {t : Tab} (h : RightP t) (x y : Pl t) (h1 : ltOf (cfT t) x y = false) (h2 : ltOf (cfT t) y x = false) : x = y := by
  unfold ltOf cfT at h1 h2
  rw [decide_eq_false_iff_not] at h1 h2
  exact Subtype.ext (seqs_inj h x.2 y.2 (by omega))
theorem ordA_map (t : Tab) : ((plc Ext.used t.exts).attach.mergeSort fun x y => !(ltOf (cfT t) y x)).map Subtype.val = ordA t := by
  rw [List.map_mergeSort (s := fun i j => decide (sqAt t.exts i ≤ sqAt t.exts j)) (fun a _ b _ => by
    unfold ltOf cfT
    rw [← decide_not, decide_eq_decide]; omega), List.attach_map_subtype_val]
  rfl
theorem att_len (t : Tab) : (plc Ext.used t.exts).attach.length = (plc Ext.used t.exts).length := List.length_attach
theorem fl_att (t : Tab) : I6.fl (plc Ext.used t.exts) = (plc Ext.used t.exts).attach.map fun x => Value.int .i64 x.1 := by
  rw [fl_ints]
  conv => lhs; rw [← List.attach_map_subtype_val (plc Ext.used t.exts)]
  rw [List.map_map]
  rfl
theorem fl_ord (t : Tab) : I6.fl (ordA t) = ((plc Ext.used t.exts).attach.mergeSort fun x y => !(ltOf (cfT t) y x)).map fun x => Value.int .i64 x.1 := by
  rw [fl_ints, ← ordA_map, List.map_map]
  rfl
/-- What lies as it did when the call began: readable, and stays so. -/
theorem Old.ro {α : Type} {e : Enc α} {a : Option Addr} {l : List α} {w : World} {L0 : List Res} (h : Old w L0 a e l) (hl : l ≠ []) : (tro a e l).ok w.heap ∧ ∀ r ∈ L0, ∀ b, r.fp b → ¬ (tro a e l).fp b := by
  have hk := e.pos
  have h0 : 0 < l.length := List.length_pos_iff.2 hl
  have hb := h.sl.base h0
  cases a with
  | none => simp [bk] at hb
  | some p =>
    have hp : p = ⟨p.block, p.off, none⟩ := Option.some.inj hb
    refine ⟨⟨fun h2 => by simp at h2, fun q hq => ?_⟩, fun r hr b hf ⟨q, hq, h2⟩ => ?_⟩
    · cases hq
      refine ⟨fun _ => hp, ?_⟩
      obtain ⟨v, hv⟩ : ∃ v, (e.fl l)[0]? = some v := get_ex (by rw [e.fl_length]; exact Nat.mul_pos h0 hk)
      have h1 := h.sl.cell 0 v hv
      simp only [World.cell?, bk, of_] at h1
      cases ho : w.heap[p.block]? with
      | none => simp [ho] at h1
      | some o =>
        cases o with
        | cells cs T fr =>
          refine ⟨cs, T, fr, rfl, fun j v hj => ?_⟩
          have h5 := h.sl.cell j v hj
          simp only [World.cell?, bk, of_, ho] at h5
          simpa using h5
        | _ => simp [ho] at h1
    · cases hq
      subst h2
      exact h.ap hl r hr hf
theorem old_tro {α : Type} {e : Enc α} {a : Option Addr} {l : List α} {w : World} (h : (tro a e l).ok w.heap) : Old w [] a e l := ⟨tro_sl h, fun _ r hr => by cases hr⟩
theorem used_at {t : Tab} {i : Int} (h : i ∈ plc Ext.used t.exts) : ∃ (j : Nat) (x : Ext), i = j ∧ t.exts[j]? = some x ∧ x.used = true ∧ sqAt t.exts i = x.seq := by
  obtain ⟨j, rfl, x, hx, hu⟩ := plc_mem.1 h
  exact ⟨j, x, rfl, hx, hu, by unfold sqAt; rw [Int.toNat_natCast, hx]; rfl⟩
/-- Two things that are only read. -/
def both (r s : Res) : Res where
  fp b := r.fp b ∨ s.fp b
  ok h := r.ok h ∧ s.ok h
  loc h h' e k := ⟨r.loc h h' (fun b hb => e b (.inl hb)) k.1, s.loc h h' (fun b hb => e b (.inr hb)) k.2⟩
  ins h k b hb := hb.elim (r.ins h k.1 b) (s.ins h k.2 b)
def freeT (t : Tab) : List Int := if rightB t = true then plc Ext.free t.exts else []
def lastT (t : Tab) : Int := ((ordT t).getLast?.map (sqAt t.exts)).getD 0
theorem ordT_le (t : Tab) : (ordT t).length ≤ t.exts.length := by
  have h := plc_len Ext.used t.exts
  unfold ordT
  split
  · rw [ordA_len]; exact h
  · simp
theorem last_at {t : Tab} (h : (ordT t).length ≠ 0) : ∃ (i : Int) (j : Nat) (x : Ext), (ordT t)[(ordT t).length - 1]? = some i ∧ i = j ∧ t.exts[j]? = some x ∧ lastT t = x.seq := by
  obtain ⟨i, hi⟩ : ∃ i, (ordT t)[(ordT t).length - 1]? = some i := get_ex (by omega)
  have hm : i ∈ plc Ext.used t.exts := by
    have := List.mem_of_getElem? hi
    unfold ordT at this
    split at this
    · exact (ordA_perm t).mem_iff.1 this
    · cases this
  obtain ⟨j, x, h1, h2, h3, h4⟩ := used_at hm
  refine ⟨i, j, x, hi, h1, h2, ?_⟩
  unfold lastT
  rw [List.getLast?_eq_getElem?, hi, ← h4]; rfl
theorem last_none {t : Tab} (h : (ordT t).length = 0) : lastT t = 0 := by
  unfold lastT
  rw [List.length_eq_zero_iff.1 h]; rfl

/- turntable/table.Order$1 -/
set_option maxHeartbeats 1000000 in
set_option maxRecDepth 100000 in
theorem ordc_con {t : Tab} {b : Nat} {a : Option Addr} {c i j : Nat} {x y : Ext} {w : World} (hi : t.exts[i]? = some x) (hj : t.exts[j]? = some y) (hx1 : 0 ≤ x.seq ∧ x.seq ≤ 2147483648) (hy1 : 0 ≤ y.seq ∧ y.seq ≤ 2147483648) [Old w [] (some ⟨b, 0, none⟩) (encTC) ([⟨t, a, c⟩])] [Old w [] a (encX) (t.exts)] :
    Calls Try.prog 64 #[.int .i64 (i : Int), .int .i64 (j : Int), .pointer (some ⟨b, 0, none⟩)] w fun e w' => e = .returned (.int .i64 (x.seq - y.seq)) ∧ Tr w [] w' [] := by
  have hil := len_of hi
  have hjl := len_of hj
  refine K.enter0 (args := [_, _, _]) Try.func64 rfl Try.ntmps64 rfl ?_
  refine K.GC.seq ?_
  refine K.GC.region ?_
  refine K.GL.det (K.e_assign rfl) rfl ?_
  refine K.GL.nil ?_
  refine K.GQ.go ?_
  refine K.GC.seq ?_
  refine K.D.GC.drawn0 13 [[], [0], [], [0, 1, 2], [0, 1, 2, 3], [0, 1, 2, 3, 4], [], [6], [], [6, 7, 8], [6, 7, 8, 9], [6, 7, 8, 9, 10], [0, 1, 2, 3, 4, 5, 6, 7, 8, 9, 10, 11], [0, 1, 2, 3, 4, 5, 6, 7, 8, 9, 10, 11, 12]] [[], [0], [], [1, 2], [3], [4], [], [6], [], [7, 8], [9], [10], [5, 11]] [[], [], [], [], [], [], [], [], [], [], [], [], []] [[], [], [], [], [], [], [], [], [], [], [], [], []] [] [0, 1, 2, 5] (by kernel_rfl) (by kernel_rfl) (by kernel_rfl) rfl ?_
  first | refine K.D.DW.det (b := []) (u := []) rfl rfl rfl (fun vs hf => K.e_fa fo29_2 rfl) ?_ | refine K.D.DW.det (b := []) (u := []) rfl rfl rfl (fun vs hf => K.e_fieldAddr fo29_2 rfl) ?_
  refine K.D.DW.det (b := [0]) (u := []) rfl rfl rfl (fun vs hf => K.e_ldF (a := some ⟨b, 0, none⟩) (j := 0) (o := 2) (l := [⟨t, a, c⟩]) (e := encTC) Try.isAgg27 rfl rfl rfl rfl) ?_
  refine K.D.DW.det (b := []) (u := []) rfl rfl rfl (fun vs hf => K.e_move rfl) ?_
  first | refine K.D.DW.det (b := [1, 2]) (u := []) rfl rfl rfl (fun vs hf => K.e_ixN sl27 rfl rfl rfl rfl (by omega)) ?_ | refine K.D.DW.det (b := [1, 2]) (u := []) rfl rfl rfl (fun vs hf => K.e_ix sl27 rfl rfl rfl rfl (by omega) (by omega)) ?_ | refine K.D.DW.det (b := [1, 2]) (u := []) rfl rfl rfl (fun vs hf => K.e_indexAddrS sl27 rfl rfl (by assumption) (by omega) (by omega)) ?_ | refine K.D.DW.det (b := [1, 2]) (u := []) rfl rfl rfl (fun vs hf => K.e_indexAddr sl27 rfl rfl (by omega) (by omega)) ?_
  first | refine K.D.DW.det (b := [3]) (u := []) rfl rfl rfl (fun vs hf => K.e_fa fo62_0 rfl) ?_ | refine K.D.DW.det (b := [3]) (u := []) rfl rfl rfl (fun vs hf => K.e_fieldAddr fo62_0 rfl) ?_
  first | refine K.D.DW.det (b := [4]) (u := []) rfl rfl rfl (fun vs hf => K.e_ldE Try.isAgg2 rfl rfl (by assumption) rfl) ?_ | refine K.D.DW.det (b := [4]) (u := []) rfl rfl rfl (fun vs hf => K.e_ldF Try.isAgg2 rfl rfl (by assumption) rfl) ?_ | refine K.D.DW.det (b := [4]) (u := []) rfl rfl rfl (fun vs hf => K.e_load Try.isAgg2 rfl rfl) ?_ | refine K.D.DW.det (b := [4]) (u := []) rfl rfl rfl (fun vs hf => K.e_load0 Try.isAgg2 rfl (by assumption)) ?_
  first | refine K.D.DW.det (b := []) (u := []) rfl rfl rfl (fun vs hf => K.e_fa fo29_2 rfl) ?_ | refine K.D.DW.det (b := []) (u := []) rfl rfl rfl (fun vs hf => K.e_fieldAddr fo29_2 rfl) ?_
  refine K.D.DW.det (b := [6]) (u := []) rfl rfl rfl (fun vs hf => K.e_ldF (a := some ⟨b, 0, none⟩) (j := 0) (o := 2) (l := [⟨t, a, c⟩]) (e := encTC) Try.isAgg27 rfl rfl rfl rfl) ?_
  refine K.D.DW.det (b := []) (u := []) rfl rfl rfl (fun vs hf => K.e_move rfl) ?_
  first | refine K.D.DW.det (b := [7, 8]) (u := []) rfl rfl rfl (fun vs hf => K.e_ixN sl27 rfl rfl rfl rfl (by omega)) ?_ | refine K.D.DW.det (b := [7, 8]) (u := []) rfl rfl rfl (fun vs hf => K.e_ix sl27 rfl rfl rfl rfl (by omega) (by omega)) ?_ | refine K.D.DW.det (b := [7, 8]) (u := []) rfl rfl rfl (fun vs hf => K.e_indexAddrS sl27 rfl rfl (by assumption) (by omega) (by omega)) ?_ | refine K.D.DW.det (b := [7, 8]) (u := []) rfl rfl rfl (fun vs hf => K.e_indexAddr sl27 rfl rfl (by omega) (by omega)) ?_
  first | refine K.D.DW.det (b := [9]) (u := []) rfl rfl rfl (fun vs hf => K.e_fa fo62_0 rfl) ?_ | refine K.D.DW.det (b := [9]) (u := []) rfl rfl rfl (fun vs hf => K.e_fieldAddr fo62_0 rfl) ?_
  first | refine K.D.DW.det (b := [10]) (u := []) rfl rfl rfl (fun vs hf => K.e_ldE Try.isAgg2 rfl rfl (by assumption) rfl) ?_ | refine K.D.DW.det (b := [10]) (u := []) rfl rfl rfl (fun vs hf => K.e_ldF Try.isAgg2 rfl rfl (by assumption) rfl) ?_ | refine K.D.DW.det (b := [10]) (u := []) rfl rfl rfl (fun vs hf => K.e_load Try.isAgg2 rfl rfl) ?_ | refine K.D.DW.det (b := [10]) (u := []) rfl rfl rfl (fun vs hf => K.e_load0 Try.isAgg2 rfl (by assumption)) ?_
  first | refine K.D.DW.det (b := [5, 11]) (u := []) rfl rfl rfl (fun vs hf => K.e_sub rfl rfl ⟨by omega, by omega⟩) ?_ | refine K.D.DW.det (b := [5, 11]) (u := []) rfl rfl rfl (fun vs hf => K.e_subw rfl rfl) ?_
  refine K.D.DW.fin (fun vs hf => ?_)
  refine K.GL.keep [5, 18] rfl ?_
  refine K.D.GL.resE (L' := _) rfl ?_
  clear hf
  try clear vs
  refine K.GL.det (K.e_assign rfl) rfl ?_
  refine K.GL.nil ?_
  refine K.GQ.go ?_
  refine K.GC.ret ?_
  refine K.GQ.ret1 Try.results64 rfl (fun w hT => ?_)
  exact ⟨rfl, hT.nil⟩
section
variable {ops : Array Oper} {Q : Exit → Act → World → Prop} {N : Nat} {U : Env} {w0 : World} {L0 L F : List Res} {ty : TypeId} {rest : List Oper} {pos : String} {after : Array Edge} {xs : List Operand} {tys : Array TypeId} {dT : Tmp}
theorem ev_ordc_con {t : Tab} {b : Nat} {a : Option Addr} {c i j : Nat} {x y : Ext} (hf : ∀ args w, (callFunc 64 args).run Try.prog w = .ok (.enter 64 args) w) (hx : opvs U xs = some [.int .i64 (i : Int), .int .i64 (j : Int), .pointer (some ⟨b, 0, none⟩)]) (hi : t.exts[i]? = some x) (hj : t.exts[j]? = some y) (hx1 : 0 ≤ x.seq ∧ x.seq ≤ 2147483648) (hy1 : 0 ≤ y.seq ∧ y.seq ≤ 2147483648) [o0 : RdC w0 L0 [] L (some ⟨b, 0, none⟩) (encTC) ([⟨t, a, c⟩])] [o1 : RdC w0 L0 [] L a (encX) (t.exts)] : Ev Try.prog U w0 L0 L (.call ⟨.value (.func 64), xs.toArray, tys⟩) ty (Is (.int .i64 (x.seq - y.seq))) No :=
  K.e_call1 hf hx (fun w hT => by have _o0 := o0.out w hT; have _o1 := o1.out w hT; exact ordc_con hi hj hx1 hy1)
end
/- slices.SortFunc[[]int,int] -/
theorem sortx_con {t : Tab} {b : Nat} {a a2 : Option Addr} {c c2 : Nat} {w : World} (hR : RightP t) [Old w [trow a2 c2 3 I6 (plc Ext.used t.exts)] (some ⟨b, 0, none⟩) (encTC) ([⟨t, a, c⟩])] [Old w [trow a2 c2 3 I6 (plc Ext.used t.exts)] a (encX) (t.exts)] (hd : Disj [trow a2 c2 3 I6 (plc Ext.used t.exts)]) (ho : ∀ r ∈ ([trow a2 c2 3 I6 (plc Ext.used t.exts)] : List Res), r.ok w.heap) :
    Calls Try.prog 63 #[.slice a2 (plc Ext.used t.exts).length c2, .func (.func 64) #[] #[.pointer (some ⟨b, 0, none⟩)]] w fun e w' => e = .returned (.tuple #[]) ∧ Tr w [trow a2 c2 3 I6 (plc Ext.used t.exts)] w' [trow a2 c2 3 I6 (ordA t)] := by
  have hr := ho _ List.mem_cons_self
  have hl8 := hR.n2
  have hpl := plc_len Ext.used t.exts
  have hx0 : t.exts ≠ [] := by intro h; have := hR.n1; rw [h] at this; simp at this
  obtain ⟨k1, k2⟩ := Old.ro (w := w) (L0 := [trow a2 c2 3 I6 (plc Ext.used t.exts)]) (a := a) (e := encX) (l := t.exts) inferInstance hx0
  obtain ⟨k3, k4⟩ := Old.ro (w := w) (L0 := [trow a2 c2 3 I6 (plc Ext.used t.exts)]) (a := some ⟨b, 0, none⟩) (e := encTC) (l := [⟨t, a, c⟩]) inferInstance (by simp)
  unfold trow at hr k2 k4 ⊢
  rw [fl_att] at hr k2 k4
  rw [fl_ord, fl_att, ← att_len]
  refine calls_sortF Try.sortF Try.sortF0 rfl (r := both (tro a encX t.exts) (tro (some ⟨b, 0, none⟩) encTC [⟨t, a, c⟩])) (enc := fun x : Pl t => Value.int .i64 x.1) (fun _ => rfl) (swoT t) (totT hR) Try.call64 hr ⟨k1, k3⟩ (fun b hb h2 => h2.elim (k2 _ List.mem_cons_self b hb) (k4 _ List.mem_cons_self b hb)) (fun v hv x y => ?_) (by rw [att_len]; omega)
  obtain ⟨i, ex, hi, hi2, hi3, hi4⟩ := used_at x.2
  obtain ⟨j, ey, hj, hj2, hj3, hj4⟩ := used_at y.2
  have o1 := old_tro hv.1
  have o2 := old_tro hv.2
  have q1 := (Ext.ok_iff ex).1 (hR.ok _ (List.mem_of_getElem? hi2))
  have q2 := (Ext.ok_iff ey).1 (hR.ok _ (List.mem_of_getElem? hj2))
  have h := ordc_con (w := v) (c := c) (b := b) (a := a) (t := t) hi2 hj2 ⟨q1.1, q1.2.1⟩ ⟨q2.1, q2.2.1⟩
  unfold cfT
  rw [hi4, hj4, hi, hj]
  exact h
section
variable {ops : Array Oper} {Q : Exit → Act → World → Prop} {N : Nat} {U : Env} {w0 : World} {L0 L F : List Res} {ty : TypeId} {rest : List Oper} {pos : String} {after : Array Edge} {xs : List Operand} {tys : Array TypeId} {dT : Tmp}
theorem gl_sortx_con {t : Tab} {b : Nat} {a a2 : Option Addr} {c c2 : Nat}  {F1 : List Res}(hf : ∀ args w, (callFunc 63 args).run Try.prog w = .ok (.enter 63 args) w) (hx : opvs U xs = some [.slice a2 (plc Ext.used t.exts).length c2, .func (.func 64) #[] #[.pointer (some ⟨b, 0, none⟩)]]) [p1 : PkT L a2 c2 3 I6 (plc Ext.used t.exts) F1] (hR : RightP t) [o0 : RdC w0 L0 [trow a2 c2 3 I6 (plc Ext.used t.exts)] F1 (some ⟨b, 0, none⟩) (encTC) ([⟨t, a, c⟩])] [o1 : RdC w0 L0 [trow a2 c2 3 I6 (plc Ext.used t.exts)] F1 a (encX) (t.exts)] (hd : Nat.ble (dT + 1) N = true)
    (hr : GL Try.prog ops Q rest N ((dT, .tuple #[]) :: U) w0 L0 (trow a2 c2 3 I6 (ordA t) :: F1)) : GL Try.prog ops Q (⟨some dT, .call ⟨.value (.func 63), xs.toArray, tys⟩, ty, pos, after, Option.none⟩ :: rest) N U w0 L0 L :=
  GL.callM (α := Unit) (l := [trow a2 c2 3 I6 (plc Ext.used t.exts)]) (Pv := fun _y v => v = .tuple #[]) (l' := fun _y => [trow a2 c2 3 I6 (ordA t)]) hf hx (p1.out)
    (fun w hT => by
      have hT1 : Tr w0 L0 w ([trow a2 c2 3 I6 (plc Ext.used t.exts)] ++ F1) := hT.sub (p1.out); have _o0 := o0.out w hT1; have _o1 := o1.out w hT1; have hd0 := Disj.left hT1.disj; have ho0 := fun r hr => hT1.ok r (List.mem_append_left _ hr); exact (sortx_con hR hd0 ho0).mono fun e w' ⟨h1, h2⟩ => ⟨(), _, h1, rfl, h2⟩) hd fun _y v hv => by subst hv; exact hr  
end
section
variable {ops : Array Oper} {Q : Exit → Act → World → Prop} {N : Nat} {U : Env} {w0 : World} {L0 L F : List Res} {ty : TypeId} {rest : List Oper} {pos : String} {after : Array Edge} {xs : List Operand} {tys : Array TypeId} {dT : Tmp}
theorem em_sortx_con {t : Tab} {b : Nat} {a a2 : Option Addr} {c c2 : Nat}  {F1 : List Res}(hf : ∀ args w, (callFunc 63 args).run Try.prog w = .ok (.enter 63 args) w) (hx : opvs U xs = some [.slice a2 (plc Ext.used t.exts).length c2, .func (.func 64) #[] #[.pointer (some ⟨b, 0, none⟩)]]) [p1 : PkT L a2 c2 3 I6 (plc Ext.used t.exts) F1] (hR : RightP t) [o0 : RdC w0 L0 [trow a2 c2 3 I6 (plc Ext.used t.exts)] F1 (some ⟨b, 0, none⟩) (encTC) ([⟨t, a, c⟩])] [o1 : RdC w0 L0 [trow a2 c2 3 I6 (plc Ext.used t.exts)] F1 a (encX) (t.exts)] : K.D.EvM Try.prog U w0 L0 L [trow a2 c2 3 I6 (plc Ext.used t.exts)] (.call ⟨.value (.func 63), xs.toArray, tys⟩) ty (fun g => .tuple #[]) (fun g => True) (fun g => trow a2 c2 3 I6 (ordA t)) :=
  K.D.em_call hf hx fun w hT => by
    have hT1 : Tr w0 L0 w ([trow a2 c2 3 I6 (plc Ext.used t.exts)] ++ F1) := hT.sub (p1.out); have _o0 := o0.out w hT1; have _o1 := o1.out w hT1; have hd0 := Disj.left hT1.disj; have ho0 := fun r hr => hT1.ok r (List.mem_append_left _ hr); exact (sortx_con hR hd0 ho0).mono fun e w' ⟨h1, h2⟩ => ⟨fun i => (none, 0), h1, trivial, h2⟩
end
/- turntable/table.Order -/
set_option maxHeartbeats 4000000 in
set_option maxRecDepth 100000 in
theorem tord_con {t : Tab} {a : Option Addr} {c : Nat} {w : World} (hl : t.exts.length ≤ 9223372036854775807) [Old w [] a (encX) (t.exts)] :
    Calls Try.prog 33 #[.agg (tabC t a c).toArray] w fun e w' => ∃ a' : Option Addr, ∃ c' : Nat, e = .returned (.slice a' (ordT t).length c') ∧ Tr w [] w' [trow a' c' 3 I6 (ordT t)] := by
  refine K.enter0 (args := [_]) Try.func33 rfl Try.ntmps33 rfl ?_
  refine K.GC.seq ?_
  refine K.GC.region ?_
  refine K.GL.box rfl rfl rfl (fun b1 => ?_)
  refine K.GL.det (K.e_assign rfl) rfl ?_
  refine K.GL.nil ?_
  refine K.GQ.go ?_
  refine K.GC.seq ?_
  refine K.GC.seq ?_
  refine K.GC.region ?_
  first | refine K.GL.det (K.e_ldA Try.isAgg29 Try.sizeOf29 rfl rfl (by assumption)) rfl ?_ | refine K.GL.det (K.e_ldAF Try.isAgg29 Try.sizeOf29 rfl rfl (by assumption) rfl) rfl ?_ | refine K.GL.det (K.e_loads Try.isAgg29 Try.sizeOf29 rfl rfl) rfl ?_
  refine K.GL.det (ev_right_con Try.call29 rfl (by first | assumption | omega | rfl | decide)) rfl ?_
  first | refine K.GL.det (K.e_notp rfl) rfl ?_ | refine K.GL.det (K.e_not rfl) rfl ?_
  refine K.GL.nil ?_
  refine K.GQ.go ?_
  refine K.GC.condB rfl (fun h1 => ?_) (fun h1 => ?_)
  · first
    | exact absurd h1 (by decide)
    | try replace h1 := of_decide_eq_true h1
      refine K.GC.seq ?_
      refine K.GC.region ?_
      refine K.GL.det (K.e_assign rfl) rfl ?_
      refine K.GL.nil ?_
      refine K.GQ.go ?_
      refine K.GC.ret ?_
      refine K.GQ.then_ret ?_
      refine K.GQ.ret1 Try.results33 rfl (fun w hT => ?_)
      first
        | (have hp : ordT t = [] := by unfold ordT; rw [if_neg (by simp_all)]
           rw [hp]
           exact ⟨none, 0, rfl, hT.nil.trow_nil 3 I6⟩)
        | (have hp : ordT t = ordA t := by unfold ordT; rw [if_pos (by simp_all)]
           rw [hp]
           exact ⟨a8, c8, by rw [ordA_len], hT.sub K.sb⟩)
  · first
    | exact absurd h1 (by decide)
    | try replace h1 := of_decide_eq_false h1
      refine K.GC.skip ?_
      refine K.GQ.go ?_
      refine K.GC.seq ?_
      have hR := (right_iff t).1 (by simpa using h1)
      have hpl := plc_len Ext.used t.exts
      refine K.GC.region ?_
      first | refine K.GL.det (K.e_ldA Try.isAgg29 Try.sizeOf29 rfl rfl (by assumption)) rfl ?_ | refine K.GL.det (K.e_ldAF Try.isAgg29 Try.sizeOf29 rfl rfl (by assumption) rfl) rfl ?_ | refine K.GL.det (K.e_loads Try.isAgg29 Try.sizeOf29 rfl rfl) rfl ?_
      refine gl_places_con Try.call62 rfl ⟨Try.call59, fun w x => used_con⟩ (by have := hR.n2; omega) rfl (fun a8 c8 => ?_)
      refine K.GL.det (K.e_assign rfl) rfl ?_
      refine K.GL.nil ?_
      refine K.GQ.go ?_
      refine K.GC.seq ?_
      refine K.GC.res (L' := [trow a8 c8 3 I6 (plc Ext.used t.exts), cl b1 29 (encTC.fl [⟨t, a, c⟩])]) ?_ (K.Sub.refl _)
      refine K.GC.region ?_
      refine K.GL.det (K.e_move rfl) rfl ?_
      refine K.GL.det (K.e_makeFunc (vs := [.pointer (some ⟨b1, 0, none⟩)]) rfl) rfl ?_
      refine gl_sortx_con Try.call63 rfl (by first | assumption | omega | rfl | decide) rfl (?_)
      refine K.GL.nil ?_
      refine K.GQ.go ?_
      refine K.GC.seq ?_
      refine K.GC.region ?_
      refine K.GL.det (K.e_move rfl) rfl ?_
      refine K.GL.det (K.e_assign rfl) rfl ?_
      refine K.GL.nil ?_
      refine K.GQ.go ?_
      refine K.GC.ret ?_
      refine K.GQ.ret1 Try.results33 rfl (fun w hT => ?_)
      first
        | (have hp : ordT t = [] := by unfold ordT; rw [if_neg (by simp_all)]
           rw [hp]
           exact ⟨none, 0, rfl, hT.nil.trow_nil 3 I6⟩)
        | (have hp : ordT t = ordA t := by unfold ordT; rw [if_pos (by simp_all)]
           rw [hp]
           exact ⟨a8, c8, by rw [ordA_len], hT.sub K.sb⟩)
section
variable {ops : Array Oper} {Q : Exit → Act → World → Prop} {N : Nat} {U : Env} {w0 : World} {L0 L F : List Res} {ty : TypeId} {rest : List Oper} {pos : String} {after : Array Edge} {xs : List Operand} {tys : Array TypeId} {dT : Tmp}
theorem gl_tord_con {t : Tab} {a : Option Addr} {c : Nat} (hf : ∀ args w, (callFunc 33 args).run Try.prog w = .ok (.enter 33 args) w) (hx : opvs U xs = some [.agg (tabC t a c).toArray]) (hl : t.exts.length ≤ 9223372036854775807) [o0 : RdC w0 L0 [] L a (encX) (t.exts)] (hd : Nat.ble (dT + 1) N = true)
    (hr : ∀ (a' : Option Addr) (c' : Nat), GL Try.prog ops Q rest N ((dT, .slice a' (ordT t).length c') :: U) w0 L0 (trow a' c' 3 I6 (ordT t) :: L)) : GL Try.prog ops Q (⟨some dT, .call ⟨.value (.func 33), xs.toArray, tys⟩, ty, pos, after, Option.none⟩ :: rest) N U w0 L0 L :=
  GL.callM (α := (Option Addr) × (Nat)) (l := []) (Pv := fun y v => v = .slice y.1 (ordT t).length y.2) (l' := fun y => [trow y.1 y.2 3 I6 (ordT t)]) hf hx (Sub.refl _)
    (fun w hT => by
      have _o0 := o0.out w hT; exact (tord_con hl).mono fun e w' ⟨a', c', h1, h2⟩ => ⟨(a', c'), _, h1, rfl, h2⟩) hd fun y v hv => by subst hv; exact hr y.1 y.2 
end
section
variable {ops : Array Oper} {Q : Exit → Act → World → Prop} {N : Nat} {U : Env} {w0 : World} {L0 L F : List Res} {ty : TypeId} {rest : List Oper} {pos : String} {after : Array Edge} {xs : List Operand} {tys : Array TypeId} {dT : Tmp}
theorem em_tord_con {t : Tab} {a : Option Addr} {c : Nat} (hf : ∀ args w, (callFunc 33 args).run Try.prog w = .ok (.enter 33 args) w) (hx : opvs U xs = some [.agg (tabC t a c).toArray]) (hl : t.exts.length ≤ 9223372036854775807) [o0 : RdC w0 L0 [] L a (encX) (t.exts)] : K.D.EvM Try.prog U w0 L0 L [] (.call ⟨.value (.func 33), xs.toArray, tys⟩) ty (fun g => .slice (g 0).1 (ordT t).length (g 0).2) (fun g => True) (fun g => trow (g 0).1 (g 0).2 3 I6 (ordT t)) :=
  K.D.em_call hf hx fun w hT => by
    have hT1 := hT; have _o0 := o0.out w hT1; exact (tord_con hl).mono fun e w' ⟨a', c', h1, h2⟩ => ⟨fun i => (a', c'), h1, trivial, h2⟩
end
/- turntable/table.Free -/
set_option maxHeartbeats 4000000 in
set_option maxRecDepth 100000 in
theorem tfree_con {t : Tab} {a : Option Addr} {c : Nat} {w : World} (hl : t.exts.length ≤ 9223372036854775807) [Old w [] a (encX) (t.exts)] :
    Calls Try.prog 35 #[.agg (tabC t a c).toArray] w fun e w' => ∃ a' : Option Addr, ∃ c' : Nat, e = .returned (.slice a' (freeT t).length c') ∧ Tr w [] w' [trow a' c' 3 I6 (freeT t)] := by
  refine K.enter0 (args := [_]) Try.func35 rfl Try.ntmps35 rfl ?_
  refine K.GC.seq ?_
  refine K.GC.region ?_
  refine K.GL.box rfl rfl rfl (fun b1 => ?_)
  refine K.GL.det (K.e_assign rfl) rfl ?_
  refine K.GL.nil ?_
  refine K.GQ.go ?_
  refine K.GC.seq ?_
  refine K.GC.seq ?_
  refine K.GC.region ?_
  first | refine K.GL.det (K.e_ldA Try.isAgg29 Try.sizeOf29 rfl rfl (by assumption)) rfl ?_ | refine K.GL.det (K.e_ldAF Try.isAgg29 Try.sizeOf29 rfl rfl (by assumption) rfl) rfl ?_ | refine K.GL.det (K.e_loads Try.isAgg29 Try.sizeOf29 rfl rfl) rfl ?_
  refine K.GL.det (ev_right_con Try.call29 rfl (by first | assumption | omega | rfl | decide)) rfl ?_
  first | refine K.GL.det (K.e_notp rfl) rfl ?_ | refine K.GL.det (K.e_not rfl) rfl ?_
  refine K.GL.nil ?_
  refine K.GQ.go ?_
  refine K.GC.condB rfl (fun h1 => ?_) (fun h1 => ?_)
  · first
    | exact absurd h1 (by decide)
    | try replace h1 := of_decide_eq_true h1
      refine K.GC.seq ?_
      refine K.GC.region ?_
      refine K.GL.det (K.e_assign rfl) rfl ?_
      refine K.GL.nil ?_
      refine K.GQ.go ?_
      refine K.GC.ret ?_
      refine K.GQ.then_ret ?_
      refine K.GQ.ret1 Try.results35 rfl (fun w hT => ?_)
      first
        | (have hp : freeT t = [] := by unfold freeT; rw [if_neg (by simp_all)]
           rw [hp]
           exact ⟨none, 0, rfl, hT.nil.trow_nil 3 I6⟩)
        | (have hp : freeT t = plc Ext.free t.exts := by unfold freeT; rw [if_pos (by simp_all)]
           rw [hp]
           exact ⟨a7, c7, rfl, hT.sub K.sb⟩)
  · first
    | exact absurd h1 (by decide)
    | try replace h1 := of_decide_eq_false h1
      refine K.GC.skip ?_
      refine K.GQ.go ?_
      refine K.GC.seq ?_
      have hR := (right_iff t).1 (by simpa using h1)
      refine K.GC.region ?_
      first | refine K.GL.det (K.e_ldA Try.isAgg29 Try.sizeOf29 rfl rfl (by assumption)) rfl ?_ | refine K.GL.det (K.e_ldAF Try.isAgg29 Try.sizeOf29 rfl rfl (by assumption) rfl) rfl ?_ | refine K.GL.det (K.e_loads Try.isAgg29 Try.sizeOf29 rfl rfl) rfl ?_
      refine gl_places_con Try.call62 rfl ⟨Try.call65, fun w x => free_con⟩ (by have := hR.n2; omega) rfl (fun a7 c7 => ?_)
      refine K.GL.det (K.e_assign rfl) rfl ?_
      refine K.GL.nil ?_
      refine K.GQ.go ?_
      refine K.GC.ret ?_
      refine K.GQ.ret1 Try.results35 rfl (fun w hT => ?_)
      first
        | (have hp : freeT t = [] := by unfold freeT; rw [if_neg (by simp_all)]
           rw [hp]
           exact ⟨none, 0, rfl, hT.nil.trow_nil 3 I6⟩)
        | (have hp : freeT t = plc Ext.free t.exts := by unfold freeT; rw [if_pos (by simp_all)]
           rw [hp]
           exact ⟨a7, c7, rfl, hT.sub K.sb⟩)
section
variable {ops : Array Oper} {Q : Exit → Act → World → Prop} {N : Nat} {U : Env} {w0 : World} {L0 L F : List Res} {ty : TypeId} {rest : List Oper} {pos : String} {after : Array Edge} {xs : List Operand} {tys : Array TypeId} {dT : Tmp}
theorem gl_tfree_con {t : Tab} {a : Option Addr} {c : Nat} (hf : ∀ args w, (callFunc 35 args).run Try.prog w = .ok (.enter 35 args) w) (hx : opvs U xs = some [.agg (tabC t a c).toArray]) (hl : t.exts.length ≤ 9223372036854775807) [o0 : RdC w0 L0 [] L a (encX) (t.exts)] (hd : Nat.ble (dT + 1) N = true)
    (hr : ∀ (a' : Option Addr) (c' : Nat), GL Try.prog ops Q rest N ((dT, .slice a' (freeT t).length c') :: U) w0 L0 (trow a' c' 3 I6 (freeT t) :: L)) : GL Try.prog ops Q (⟨some dT, .call ⟨.value (.func 35), xs.toArray, tys⟩, ty, pos, after, Option.none⟩ :: rest) N U w0 L0 L :=
  GL.callM (α := (Option Addr) × (Nat)) (l := []) (Pv := fun y v => v = .slice y.1 (freeT t).length y.2) (l' := fun y => [trow y.1 y.2 3 I6 (freeT t)]) hf hx (Sub.refl _)
    (fun w hT => by
      have _o0 := o0.out w hT; exact (tfree_con hl).mono fun e w' ⟨a', c', h1, h2⟩ => ⟨(a', c'), _, h1, rfl, h2⟩) hd fun y v hv => by subst hv; exact hr y.1 y.2 
end
section
variable {ops : Array Oper} {Q : Exit → Act → World → Prop} {N : Nat} {U : Env} {w0 : World} {L0 L F : List Res} {ty : TypeId} {rest : List Oper} {pos : String} {after : Array Edge} {xs : List Operand} {tys : Array TypeId} {dT : Tmp}
theorem em_tfree_con {t : Tab} {a : Option Addr} {c : Nat} (hf : ∀ args w, (callFunc 35 args).run Try.prog w = .ok (.enter 35 args) w) (hx : opvs U xs = some [.agg (tabC t a c).toArray]) (hl : t.exts.length ≤ 9223372036854775807) [o0 : RdC w0 L0 [] L a (encX) (t.exts)] : K.D.EvM Try.prog U w0 L0 L [] (.call ⟨.value (.func 35), xs.toArray, tys⟩) ty (fun g => .slice (g 0).1 (freeT t).length (g 0).2) (fun g => True) (fun g => trow (g 0).1 (g 0).2 3 I6 (freeT t)) :=
  K.D.em_call hf hx fun w hT => by
    have hT1 := hT; have _o0 := o0.out w hT1; exact (tfree_con hl).mono fun e w' ⟨a', c', h1, h2⟩ => ⟨fun i => (a', c'), h1, trivial, h2⟩
end
/- turntable/table.Last -/
set_option maxHeartbeats 4000000 in
set_option maxRecDepth 100000 in
theorem tlast_con {t : Tab} {a : Option Addr} {c : Nat} {w : World} (hl : t.exts.length ≤ 9223372036854775807) [Old w [] a (encX) (t.exts)] :
    Calls Try.prog 37 #[.agg (tabC t a c).toArray] w fun e w' => e = .returned (.int .i64 (lastT t)) ∧ Tr w [] w' [] := by
  refine K.enter0 (args := [_]) Try.func37 rfl Try.ntmps37 rfl ?_
  refine K.GC.seq ?_
  refine K.GC.region ?_
  refine K.GL.box rfl rfl rfl (fun b1 => ?_)
  refine K.GL.det (K.e_assign rfl) rfl ?_
  refine K.GL.nil ?_
  refine K.GQ.go ?_
  refine K.GC.seq ?_
  refine K.GC.region ?_
  first | refine K.GL.det (K.e_ldA Try.isAgg29 Try.sizeOf29 rfl rfl (by assumption)) rfl ?_ | refine K.GL.det (K.e_ldAF Try.isAgg29 Try.sizeOf29 rfl rfl (by assumption) rfl) rfl ?_ | refine K.GL.det (K.e_loads Try.isAgg29 Try.sizeOf29 rfl rfl) rfl ?_
  refine gl_tord_con Try.call33 rfl (by first | assumption | omega | rfl | decide) rfl (fun a5 c5 => ?_)
  refine K.GL.det (K.e_assign rfl) rfl ?_
  refine K.GL.nil ?_
  refine K.GQ.go ?_
  refine K.GC.seq ?_
  refine K.GC.seq ?_
  refine K.GC.region ?_
  refine K.GL.det (K.e_move rfl) rfl ?_
  refine K.GL.det (K.e_len Try.underlying56 rfl) rfl ?_
  first | refine K.GL.det ((K.e_eq rfl rfl).yes (by first | omega | assumption | decide +kernel)) rfl ?_ | refine K.GL.det ((K.e_eq rfl rfl).no (by first | omega | assumption | decide +kernel)) rfl ?_ | refine K.GL.det (K.e_eq rfl rfl) rfl ?_
  refine K.GL.nil ?_
  refine K.GQ.go ?_
  refine K.GC.condB rfl (fun h1 => ?_) (fun h1 => ?_)
  · first
    | exact absurd h1 (by decide)
    | try replace h1 := of_decide_eq_true h1
      refine K.GC.seq ?_
      refine K.GC.region ?_
      refine K.GL.det (K.e_assign rfl) rfl ?_
      refine K.GL.nil ?_
      refine K.GQ.go ?_
      refine K.GC.ret ?_
      refine K.GQ.then_ret ?_
      refine K.GQ.ret1 Try.results37 rfl (fun w hT => ?_)
      first
        | exact ⟨by rw [last_none (by omega)], hT.nil⟩
        | exact ⟨by rw [hls], hT.nil⟩
  · first
    | exact absurd h1 (by decide)
    | try replace h1 := of_decide_eq_false h1
      refine K.GC.skip ?_
      refine K.GQ.go ?_
      refine K.GC.seq ?_
      have hol := ordT_le t
      obtain ⟨i, j, x, hi, hi2, hxj, hls⟩ := last_at (t := t) (by omega)
      subst hi2
      have hxl := len_of hxj
      refine K.D.GC.drawn0 11 [[], [0], [], [], [3], [3, 4], [2, 3, 4, 5], [2, 3, 4, 5, 6], [0, 1, 2, 3, 4, 5, 6, 7], [0, 1, 2, 3, 4, 5, 6, 7, 8], [0, 1, 2, 3, 4, 5, 6, 7, 8, 9], [0, 1, 2, 3, 4, 5, 6, 7, 8, 9, 10]] [[], [0], [], [], [3], [4], [2, 5], [6], [1, 7], [8], [9]] [[], [], [], [], [], [], [], [], [], [], []] [[], [], [], [], [], [], [], [], [], [], []] [] [1, 2, 3] (by kernel_rfl) (by kernel_rfl) (by kernel_rfl) rfl ?_
      first | refine K.D.DW.det (b := []) (u := []) rfl rfl rfl (fun vs hf => K.e_fa fo29_2 rfl) ?_ | refine K.D.DW.det (b := []) (u := []) rfl rfl rfl (fun vs hf => K.e_fieldAddr fo29_2 rfl) ?_
      first | refine K.D.DW.det (b := [0]) (u := []) rfl rfl rfl (fun vs hf => K.e_ldE Try.isAgg27 rfl rfl (by assumption) rfl) ?_ | refine K.D.DW.det (b := [0]) (u := []) rfl rfl rfl (fun vs hf => K.e_ldF Try.isAgg27 rfl rfl (by assumption) rfl) ?_ | refine K.D.DW.det (b := [0]) (u := []) rfl rfl rfl (fun vs hf => K.e_load Try.isAgg27 rfl rfl) ?_ | refine K.D.DW.det (b := [0]) (u := []) rfl rfl rfl (fun vs hf => K.e_load0 Try.isAgg27 rfl (by assumption)) ?_
      refine K.D.DW.det (b := []) (u := []) rfl rfl rfl (fun vs hf => K.e_move rfl) ?_
      refine K.D.DW.det (b := []) (u := []) rfl rfl rfl (fun vs hf => K.e_move rfl) ?_
      refine K.D.DW.det (b := [3]) (u := []) rfl rfl rfl (fun vs hf => K.e_len Try.underlying56 rfl) ?_
      refine K.D.DW.det (b := [4]) (u := []) rfl rfl rfl (fun vs hf => (K.e_sub rfl rfl ⟨by omega, by omega⟩).cast_int (b := (((ordT t).length - 1 : Nat) : Int)) (by omega)) ?_
      first | refine K.D.DW.det (b := [2, 5]) (u := []) rfl rfl rfl (fun vs hf => K.e_ixN sl56 rfl rfl rfl rfl (by omega)) ?_ | refine K.D.DW.det (b := [2, 5]) (u := []) rfl rfl rfl (fun vs hf => K.e_ix sl56 rfl rfl rfl rfl (by omega) (by omega)) ?_ | refine K.D.DW.det (b := [2, 5]) (u := []) rfl rfl rfl (fun vs hf => K.e_indexAddrS sl56 rfl rfl (by assumption) (by omega) (by omega)) ?_ | refine K.D.DW.det (b := [2, 5]) (u := []) rfl rfl rfl (fun vs hf => K.e_indexAddr sl56 rfl rfl (by omega) (by omega)) ?_
      first | refine K.D.DW.det (b := [6]) (u := []) rfl rfl rfl (fun vs hf => K.e_ldE Try.isAgg3 rfl rfl (by assumption) rfl) ?_ | refine K.D.DW.det (b := [6]) (u := []) rfl rfl rfl (fun vs hf => K.e_ldF Try.isAgg3 rfl rfl (by assumption) rfl) ?_ | refine K.D.DW.det (b := [6]) (u := []) rfl rfl rfl (fun vs hf => K.e_load Try.isAgg3 rfl rfl) ?_ | refine K.D.DW.det (b := [6]) (u := []) rfl rfl rfl (fun vs hf => K.e_load0 Try.isAgg3 rfl (by assumption)) ?_
      first | refine K.D.DW.det (b := [1, 7]) (u := []) rfl rfl rfl (fun vs hf => K.e_ixN sl27 rfl rfl rfl rfl (by omega)) ?_ | refine K.D.DW.det (b := [1, 7]) (u := []) rfl rfl rfl (fun vs hf => K.e_ix sl27 rfl rfl rfl rfl (by omega) (by omega)) ?_ | refine K.D.DW.det (b := [1, 7]) (u := []) rfl rfl rfl (fun vs hf => K.e_indexAddrS sl27 rfl rfl (by assumption) (by omega) (by omega)) ?_ | refine K.D.DW.det (b := [1, 7]) (u := []) rfl rfl rfl (fun vs hf => K.e_indexAddr sl27 rfl rfl (by omega) (by omega)) ?_
      first | refine K.D.DW.det (b := [8]) (u := []) rfl rfl rfl (fun vs hf => K.e_fa fo62_0 rfl) ?_ | refine K.D.DW.det (b := [8]) (u := []) rfl rfl rfl (fun vs hf => K.e_fieldAddr fo62_0 rfl) ?_
      first | refine K.D.DW.det (b := [9]) (u := []) rfl rfl rfl (fun vs hf => K.e_ldE Try.isAgg2 rfl rfl (by assumption) rfl) ?_ | refine K.D.DW.det (b := [9]) (u := []) rfl rfl rfl (fun vs hf => K.e_ldF Try.isAgg2 rfl rfl (by assumption) rfl) ?_ | refine K.D.DW.det (b := [9]) (u := []) rfl rfl rfl (fun vs hf => K.e_load Try.isAgg2 rfl rfl) ?_ | refine K.D.DW.det (b := [9]) (u := []) rfl rfl rfl (fun vs hf => K.e_load0 Try.isAgg2 rfl (by assumption)) ?_
      refine K.D.DW.fin (fun vs hf => ?_)
      refine K.GL.keep [2, 19] rfl ?_
      refine K.D.GL.resE (L' := _) rfl ?_
      clear hf
      try clear vs
      refine K.GL.det (K.e_assign rfl) rfl ?_
      refine K.GL.nil ?_
      refine K.GQ.go ?_
      refine K.GC.ret ?_
      refine K.GQ.ret1 Try.results37 rfl (fun w hT => ?_)
      first
        | exact ⟨by rw [last_none (by omega)], hT.nil⟩
        | exact ⟨by rw [hls], hT.nil⟩
section
variable {ops : Array Oper} {Q : Exit → Act → World → Prop} {N : Nat} {U : Env} {w0 : World} {L0 L F : List Res} {ty : TypeId} {rest : List Oper} {pos : String} {after : Array Edge} {xs : List Operand} {tys : Array TypeId} {dT : Tmp}
theorem ev_tlast_con {t : Tab} {a : Option Addr} {c : Nat} (hf : ∀ args w, (callFunc 37 args).run Try.prog w = .ok (.enter 37 args) w) (hx : opvs U xs = some [.agg (tabC t a c).toArray]) (hl : t.exts.length ≤ 9223372036854775807) [o0 : RdC w0 L0 [] L a (encX) (t.exts)] : Ev Try.prog U w0 L0 L (.call ⟨.value (.func 37), xs.toArray, tys⟩) ty (Is (.int .i64 (lastT t))) No :=
  K.e_call1 hf hx (fun w hT => by have _o0 := o0.out w hT; exact tlast_con hl)
end
end Go.Proofs.Ytdbedajaapamhaa
