/- Is a table right? -/
import Derived.Test.YtdbedajaapamhaaGreatTabD
import Derived.Test.YtdbedajaapamhaaGreatKn
import Derived.Test.YtdbedajaapamhaaGreatShelf
namespace Go.Proofs.YtdbedajaapamhaaGreat
open Go Go.K
set_option linter.unusedVariables false
set_option linter.unusedSimpArgs false
attribute [local irreducible] Calls Ev GL GC GQ GR Code.wp

def seqs (l : List Ext) : List Int := (l.map Ext.seq).filter fun s => decide (s ≠ 0)

def sqAt (l : List Ext) (i : Int) : Int := ((l[i.toNat]?).map Ext.seq).getD 0

def isort (l : List Int) : List Int := l.mergeSort fun x y => decide (x ≤ y)

theorem isort_len (l : List Int) : (isort l).length = l.length := List.length_mergeSort ..

theorem isort_perm' (l : List Int) : (isort l).Perm l := List.mergeSort_perm l _

theorem isort_sorted (l : List Int) : (isort l).Pairwise (· ≤ ·) := by
  have h := List.pairwise_mergeSort (le := fun x y : Int => decide (x ≤ y)) (fun a b c h1 h2 => by simp only [decide_eq_true_eq] at *; omega) (fun a b => by simp only [Bool.or_eq_true, decide_eq_true_eq]; omega) l
  exact h.imp fun h => by simpa using h

theorem nadj_cons {a : Int} : ∀ {l : List Int}, nadj (a :: l) ↔ (∀ b, l[0]? = some b → a ≠ b) ∧ nadj l
  | l => by
    constructor
    · intro h
      refine ⟨fun b hb e => ?_, fun i v h1 h2 => ?_⟩
      · subst e; exact h 0 a rfl (by simpa using hb)
      · exact h (i + 1) v (by simpa using h1) (by simpa using h2)
    · rintro ⟨h1, h2⟩ i v h3 h4
      cases i with
      | zero =>
        simp at h3 h4
        subst h3
        exact h1 a (by simpa using h4) rfl
      | succ i => exact h2 i v (by simpa using h3) (by simpa using h4)

theorem nadj_sorted : ∀ {l : List Int}, l.Pairwise (· ≤ ·) → (nadj l ↔ l.Nodup)
  | [], _ => ⟨fun _ => List.nodup_nil, fun _ i v h => by simp at h⟩
  | a :: l, h => by
    rw [List.pairwise_cons] at h
    rw [nadj_cons, nadj_sorted h.2, List.nodup_cons]
    refine ⟨fun ⟨h1, h2⟩ => ⟨fun hm => ?_, h2⟩, fun ⟨h1, h2⟩ => ⟨fun b hb e => h1 (by subst e; exact List.mem_of_getElem? hb), h2⟩⟩
    cases l with
    | nil => cases hm
    | cons b l =>
      have h3 := h.1 b List.mem_cons_self
      have h4 := h1 b rfl
      rcases List.mem_cons.1 hm with h5 | h5
      · exact h4 h5
      · have := (List.pairwise_cons.1 h.2).1 a h5
        omega

theorem nadj_isort (l : List Int) : nadj (isort l) ↔ l.Nodup := (nadj_sorted (isort_sorted l)).trans (isort_perm' l).nodup_iff

theorem sqAt_left {l : List Ext} {x : Ext} {j : Nat} (h : j < l.length) : sqAt (l ++ [x]) (j : Int) = sqAt l (j : Int) := by
  unfold sqAt
  rw [Int.toNat_natCast, List.getElem?_append_left h]

theorem seqs_snoc (l : List Ext) (x : Ext) : seqs (l ++ [x]) = seqs l ++ (if x.used then [x.seq] else []) := by
  unfold seqs
  rw [List.map_append, List.filter_append]
  congr 1
  simp only [List.map_cons, List.map_nil, List.filter_cons, Ext.used, List.filter_nil]
  rfl

theorem plc_lt {α : Type} {p : α → Bool} {l : List α} {i : Int} (h : i ∈ plc p l) : ∃ j : Nat, i = j ∧ j < l.length := by
  obtain ⟨j, rfl, x, hx, _⟩ := plc_mem.1 h
  exact ⟨j, rfl, len_of hx⟩

theorem snocRec {α : Type} {p : List α → Prop} (h0 : p []) (h1 : ∀ l x, p l → p (l ++ [x])) (l : List α) : p l := by
  rw [← List.reverse_reverse l]
  induction l.reverse with
  | nil => exact h0
  | cons x l ih => rw [List.reverse_cons]; exact h1 _ _ ih

theorem plc_seqs (l : List Ext) : (plc Ext.used l).map (sqAt l) = seqs l := by
  refine snocRec (p := fun l => (plc Ext.used l).map (sqAt l) = seqs l) rfl (fun l x ih => ?_) l
  rw [plc_snoc, seqs_snoc, List.map_append, ← ih]
  congr 1
  · apply List.map_congr_left
    intro i hi
    obtain ⟨j, rfl, hj⟩ := plc_lt hi
    exact sqAt_left hj
  · split
    · simp [sqAt]
    · rfl

def opnOk (t : Tab) : Bool := decide (t.opn < 0) || (match t.exts[t.opn.toNat]? with
  | some x => x.used && decide (x.len = 0)
  | none => false)

def rightB (t : Tab) : Bool := decide (1 ≤ t.gen ∧ t.gen ≤ 2147483648) && decide (4 ≤ (t.exts.length : Int) ∧ (t.exts.length : Int) ≤ 8) && decide (-1 ≤ t.opn ∧ t.opn ≤ (t.exts.length : Int) - 1) && !(t.exts.any fun x => !x.ok) && decide (seqs t.exts).Nodup && opnOk t

theorem seqs_len (l : List Ext) : (seqs l).length ≤ l.length := by
  have := List.length_filter_le (fun s => decide (s ≠ 0)) (l.map Ext.seq)
  rwa [List.length_map] at this


theorem fl_ints (l : List Int) : I6.fl l = l.map (Value.int .i64) := map_one I6 (Value.int .i64) (fun _ => rfl) l

/- slices.Sort[[]int64,int64] -/
theorem sort64_con {l : List Int} {a : Option Addr} {c : Nat} {w : World} (hl : l.length < 1000000) (hd : Disj [trow a c 2 I6 l]) (ho : ∀ r ∈ ([trow a c 2 I6 l] : List Res), r.ok w.heap) :
    Calls Tryz.prog 75 #[.slice a l.length c] w fun e w' => e = .returned (.tuple #[]) ∧ Tr w [trow a c 2 I6 l] w' [trow a c 2 I6 (isort l)] := by
  have hr := ho _ List.mem_cons_self
  unfold trow at hr ⊢
  rw [fl_ints] at hr ⊢
  rw [fl_ints]
  exact calls_sort Tryz.sort64 hr (by omega)
section
variable {ops : Array Oper} {Q : Exit → Act → World → Prop} {N : Nat} {U : Env} {w0 : World} {L0 L F : List Res} {ty : TypeId} {rest : List Oper} {pos : String} {after : Array Edge} {xs : List Operand} {tys : Array TypeId} {dT : Tmp}
theorem gl_sort64_con {l : List Int} {a : Option Addr} {c : Nat}  {F1 : List Res}(hf : ∀ args w, (callFunc 75 args).run Tryz.prog w = .ok (.enter 75 args) w) (hx : opvs U xs = some [.slice a l.length c]) [p1 : PkT L a c 2 I6 l F1] (hl : l.length < 1000000) (hd : Nat.ble (dT + 1) N = true)
    (hr : GL Tryz.prog ops Q rest N ((dT, .tuple #[]) :: U) w0 L0 (trow a c 2 I6 (isort l) :: F1)) : GL Tryz.prog ops Q (⟨some dT, .call ⟨.value (.func 75), xs.toArray, tys⟩, ty, pos, after, Option.none⟩ :: rest) N U w0 L0 L :=
  GL.callM (α := Unit) (l := [trow a c 2 I6 l]) (Pv := fun _y v => v = .tuple #[]) (l' := fun _y => [trow a c 2 I6 (isort l)]) hf hx (p1.out)
    (fun w hT => by
      have hT1 : Tr w0 L0 w ([trow a c 2 I6 l] ++ F1) := hT.sub (p1.out); have hd0 := Disj.left hT1.disj; have ho0 := fun r hr => hT1.ok r (List.mem_append_left _ hr); exact (sort64_con hl hd0 ho0).mono fun e w' ⟨h1, h2⟩ => ⟨(), _, h1, rfl, h2⟩) hd fun _y v hv => by subst hv; exact hr  
end
section
variable {ops : Array Oper} {Q : Exit → Act → World → Prop} {N : Nat} {U : Env} {w0 : World} {L0 L F : List Res} {ty : TypeId} {rest : List Oper} {pos : String} {after : Array Edge} {xs : List Operand} {tys : Array TypeId} {dT : Tmp}
end
theorem sl51 : K.slOf Tryz.prog 51 = some (3, 1) := by kernel_rfl
/- turntable/table.unlike -/
set_option maxHeartbeats 1000000 in
set_option maxRecDepth 100000 in
theorem unl_con {t : Tab} {a : Option Addr} {c : Nat} {w : World} (hl : t.exts.length < 100000) [Old w [] a (encX) (t.exts)] :
    Calls Tryz.prog 63 #[.agg (tabC t a c).toArray] w fun e w' => e = .returned (.bool (decide (seqs t.exts).Nodup)) ∧ Tr w [] w' [] := by
  refine K.enter0 (args := [_]) Tryz.func63 rfl Tryz.ntmps63 rfl ?_
  refine K.GC.seq ?_
  refine K.GC.region ?_
  refine K.GL.box rfl rfl rfl (fun b1 => ?_)
  refine K.GL.det (K.e_assign rfl) rfl ?_
  refine K.GL.nil ?_
  refine K.GQ.go ?_
  refine K.GC.seq ?_
  refine K.GC.region ?_
  refine K.GL.det (K.e_assign rfl) rfl ?_
  refine K.GL.nil ?_
  refine K.GQ.go ?_
  refine K.GC.seq ?_
  refine K.GC.seq ?_
  refine K.GC.region ?_
  first | refine K.GL.det (K.e_ldA Tryz.isAgg31 Tryz.sizeOf31 rfl rfl (by assumption)) rfl ?_ | refine K.GL.det (K.e_ldAF Tryz.isAgg31 Tryz.sizeOf31 rfl rfl (by assumption) rfl) rfl ?_ | refine K.GL.det (K.e_loads Tryz.isAgg31 Tryz.sizeOf31 rfl rfl) rfl ?_
  refine gl_places_con Tryz.call74 rfl ⟨Tryz.call64, fun w x => used_con⟩ (by first | assumption | omega | rfl | decide) rfl (fun a8 c8 => ?_)
  have hpl := plc_len Ext.used t.exts
  refine K.GL.det (K.e_len Tryz.underlying51 rfl) rfl ?_
  refine K.GL.det (K.e_move rfl) rfl ?_
  refine K.GL.nil ?_
  refine K.GQ.go ?_
  refine K.GC.block ?_
  refine K.GC.trow0 2 I6 ?_
  refine K.GC.loopk (α := Nat × Option Addr × Nat) [1, 2, 6, 8, 9, 24, 25, 26, 28, 29, 30, 31, 32] rfl (fun x => [(3, .slice x.2.1 (((plc Ext.used t.exts).take x.1).map (sqAt t.exts)).length x.2.2), (10, .int .i64 (x.1 : Int))]) (fun x => [trow x.2.1 x.2.2 2 I6 (((plc Ext.used t.exts).take x.1).map (sqAt t.exts)), trow a8 c8 3 (K.encI .i64) (plc Ext.used t.exts), cl b1 31 (tabC t a c)]) (fun x => x.1 ≤ (plc Ext.used t.exts).length) (fun x => ((plc Ext.used t.exts).length - x.1)) (0, none, 0) (Nat.zero_le _) (by first | ((repeat refine ⟨rfl, ?_⟩); exact trivial) | (simp only [List.take_zero, List.map_nil, List.flatMap_nil, List.append_nil]; (repeat refine ⟨rfl, ?_⟩); exact trivial)) (by first | exact K.sb | (dsimp only; exact K.sb) | (simp only [List.take_zero, List.map_nil, List.flatMap_nil, List.append_nil]; exact K.sb) | exact K.Sub.refl _) (fun x hI => ?_)
  obtain ⟨x, a3, c3⟩ := x
  simp only at hI ⊢
  refine K.GC.seq ?_
  refine K.GC.region ?_
  first | refine K.GL.det ((K.e_lt rfl rfl).yes (by first | omega | assumption | decide +kernel)) rfl ?_ | refine K.GL.det ((K.e_lt rfl rfl).no (by first | omega | assumption | decide +kernel)) rfl ?_ | refine K.GL.det (K.e_lt rfl rfl) rfl ?_
  refine K.GL.nil ?_
  refine K.GQ.go ?_
  refine K.GC.seq ?_
  refine K.GC.condB rfl (fun h1 => ?_) (fun h1 => ?_)
  · first
    | exact absurd h1 (by decide)
    | try replace h1 := of_decide_eq_true h1
      refine K.GC.skip ?_
      refine K.GQ.go ?_
      refine K.GC.seq ?_
      refine K.GC.block ?_
      refine K.GC.seq ?_
      refine K.GC.region ?_
      first | refine K.GL.ixK sl51 rfl rfl rfl rfl (by assumption) rfl ?_ | refine K.GL.ix sl51 rfl rfl rfl rfl (by omega) rfl (fun q12 hq12 => ?_) | refine K.GL.ixI sl51 rfl rfl rfl rfl (by omega) (by omega) rfl (fun q12 hq12 => ?_) | refine K.GL.det (K.e_indexAddrS sl51 rfl rfl (by assumption) (by omega) (by omega)) rfl ?_ | refine K.GL.det (K.e_indexAddr sl51 rfl rfl (by omega) (by omega)) rfl ?_
      first | refine K.GL.det (K.e_ldE Tryz.isAgg3 rfl rfl (by assumption) rfl) rfl ?_ | refine K.GL.det (K.e_ldF Tryz.isAgg3 rfl rfl (by assumption) rfl) rfl ?_ | refine K.GL.det (K.e_load Tryz.isAgg3 rfl rfl) rfl ?_ | refine K.GL.det (K.e_load0 Tryz.isAgg3 rfl (by assumption)) rfl ?_
      refine K.GL.det (K.e_assign rfl) rfl ?_
      refine K.GL.nil ?_
      refine K.GQ.go ?_
      obtain ⟨j, rfl, xq, hxq, _⟩ := plc_mem.1 (List.mem_of_getElem? hq12)
      have hsq : List.map (sqAt t.exts) [(j : Int)] = [xq.seq] := by simp [sqAt, hxq]
      have hln : (((plc Ext.used t.exts).take x).map (sqAt t.exts)).length ≤ 100000 := by rw [List.length_map, List.length_take]; omega
      refine K.GC.region ?_
      refine K.GL.det (K.e_move rfl) rfl ?_
      first | refine K.GL.det (K.e_fa fo31_2 rfl) rfl ?_ | refine K.GL.det (K.e_fieldAddr fo31_2 rfl) rfl ?_
      first | refine K.GL.det (K.e_ldE Tryz.isAgg29 rfl rfl (by assumption) rfl) rfl ?_ | refine K.GL.det (K.e_ldF Tryz.isAgg29 rfl rfl (by assumption) rfl) rfl ?_ | refine K.GL.det (K.e_load Tryz.isAgg29 rfl rfl) rfl ?_ | refine K.GL.det (K.e_load0 Tryz.isAgg29 rfl (by assumption)) rfl ?_
      refine K.GL.det (K.e_move rfl) rfl ?_
      first | refine K.GL.ixK sl29 rfl rfl rfl rfl (by assumption) rfl ?_ | refine K.GL.ix sl29 rfl rfl rfl rfl (by omega) rfl (fun q18 hq18 => ?_) | refine K.GL.ixI sl29 rfl rfl rfl rfl (by omega) (by omega) rfl (fun q18 hq18 => ?_) | refine K.GL.det (K.e_indexAddrS sl29 rfl rfl (by assumption) (by omega) (by omega)) rfl ?_ | refine K.GL.det (K.e_indexAddr sl29 rfl rfl (by omega) (by omega)) rfl ?_
      first | refine K.GL.det (K.e_fa fo82_0 rfl) rfl ?_ | refine K.GL.det (K.e_fieldAddr fo82_0 rfl) rfl ?_
      first | refine K.GL.det (K.e_ldE Tryz.isAgg2 rfl rfl (by assumption) rfl) rfl ?_ | refine K.GL.det (K.e_ldF Tryz.isAgg2 rfl rfl (by assumption) rfl) rfl ?_ | refine K.GL.det (K.e_load Tryz.isAgg2 rfl rfl) rfl ?_ | refine K.GL.det (K.e_load0 Tryz.isAgg2 rfl (by assumption)) rfl ?_
      refine K.GL.buildT (K.encI .i64) [_] mk102 rfl rfl rfl rfl rfl (fun b21 => ?_)
      first | refine K.GL.appendT mk102 rfl rfl rfl rfl rfl (by first | omega | (simp only [List.length_cons, List.length_nil, List.length_append]; omega)) (by first | omega | (simp only [List.length_cons, List.length_nil, List.length_append]; omega)) rfl (fun a22 c22 => ?_) | (refine K.GL.trow0 2 (K.encI .i64) ?_; refine K.GL.appendT mk102 rfl rfl rfl rfl rfl (by first | omega | (simp only [List.length_cons, List.length_nil, List.length_append]; omega)) (by first | omega | (simp only [List.length_cons, List.length_nil, List.length_append]; omega)) rfl (fun a22 c22 => ?_))
      refine K.GL.det (K.e_assign rfl) rfl ?_
      refine K.GL.nil ?_
      refine K.GQ.block_normal ?_
      refine K.GQ.go ?_
      refine K.GC.region ?_
      first | refine K.GL.det (K.e_add rfl rfl ⟨by omega, by omega⟩) rfl ?_ | refine K.GL.det (K.e_addw rfl rfl) rfl ?_
      refine K.GL.det (K.e_move rfl) rfl ?_
      refine K.GL.nil ?_
      exact K.GQ.round (x + 1, a22, c22) (by have := len_of hq12; simp only; omega) (by have := len_of hq12; simp only; omega) (by simp only [take_one hq12, List.map_append, hsq]; (repeat refine ⟨rfl, ?_⟩); exact trivial) (by simp only [take_one hq12, List.map_append, hsq]; exact K.sb)
  · first
    | exact absurd h1 (by decide)
    | try replace h1 := of_decide_eq_false h1
      refine K.GC.exit ?_
      refine K.GQ.then_exit ?_
      refine K.GQ.then_exit ?_
      refine K.GQ.block_hit ?_
      refine K.GQ.go ?_
      refine K.GC.seq ?_
      have hsl := seqs_len t.exts
      rw [List.take_of_length_le (by omega), plc_seqs]
      refine K.GC.region ?_
      refine K.GL.det (K.e_move rfl) rfl ?_
      refine K.GL.det (K.e_len Tryz.underlying102 rfl) rfl ?_
      refine K.GL.det (K.e_assign rfl) rfl ?_
      refine K.GL.nil ?_
      refine K.GQ.go ?_
      refine K.GC.seq ?_
      refine K.GC.region ?_
      refine K.GL.det (K.e_move rfl) rfl ?_
      refine gl_sort64_con Tryz.call75 rfl (by first | assumption | omega | rfl | decide) rfl (?_)
      refine K.GL.nil ?_
      refine K.GQ.go ?_
      refine K.GC.seq ?_
      rw [← isort_len (seqs t.exts)]
      refine K.GC.region ?_
      refine K.GL.det (K.e_move rfl) rfl ?_
      refine gl_comp_con Tryz.call76 rfl (by rw [isort_len]; omega) rfl (fun a29 m29 c29 hm29 => ?_)
      refine K.GL.det (K.e_len Tryz.underlying102 rfl) rfl ?_
      refine K.GL.det (K.e_move rfl) rfl ?_
      first | refine K.GL.det ((K.e_eq rfl rfl).yes (by first | omega | assumption | decide +kernel)) rfl ?_ | refine K.GL.det ((K.e_eq rfl rfl).no (by first | omega | assumption | decide +kernel)) rfl ?_ | refine K.GL.det (K.e_eq rfl rfl) rfl ?_
      refine K.GL.det (K.e_assign rfl) rfl ?_
      refine K.GL.nil ?_
      refine K.GQ.go ?_
      refine K.GC.ret ?_
      refine K.GQ.ret1 Tryz.results63 rfl (fun w hT => ?_)
      exact ⟨by simp only [Ending.returned.injEq, Value.bool.injEq]; rw [decide_eq_decide, ← nadj_isort, ← hm29]; omega, hT.nil⟩
section
variable {ops : Array Oper} {Q : Exit → Act → World → Prop} {N : Nat} {U : Env} {w0 : World} {L0 L F : List Res} {ty : TypeId} {rest : List Oper} {pos : String} {after : Array Edge} {xs : List Operand} {tys : Array TypeId} {dT : Tmp}
theorem ev_unl_con {t : Tab} {a : Option Addr} {c : Nat} (hf : ∀ args w, (callFunc 63 args).run Tryz.prog w = .ok (.enter 63 args) w) (hx : opvs U xs = some [.agg (tabC t a c).toArray]) (hl : t.exts.length < 100000) [o0 : RdC w0 L0 [] L a (encX) (t.exts)] : Ev Tryz.prog U w0 L0 L (.call ⟨.value (.func 63), xs.toArray, tys⟩) ty (Is (.bool (decide (seqs t.exts).Nodup))) No :=
  K.e_call1 hf hx (fun w hT => by have _o0 := o0.out w hT; exact unl_con hl)
end
theorem fo31_0 : K.fieldOff Tryz.prog 31 0 = some (2, 0, 1) := by kernel_rfl
theorem fo31_1 : K.fieldOff Tryz.prog 31 1 = some (3, 1, 1) := by kernel_rfl
/- turntable/table.Right -/
set_option maxHeartbeats 4000000 in
set_option maxRecDepth 100000 in
theorem right_con {t : Tab} {a : Option Addr} {c : Nat} {w : World} (hl : t.exts.length ≤ 9223372036854775807) [Old w [] a (encX) (t.exts)] :
    Calls Tryz.prog 47 #[.agg (tabC t a c).toArray] w fun e w' => e = .returned (.bool (rightB t)) ∧ Tr w [] w' [] := by
  refine K.enter0 (args := [_]) Tryz.func47 rfl Tryz.ntmps47 rfl ?_
  refine K.GC.seq ?_
  refine K.GC.region ?_
  refine K.GL.box rfl rfl rfl (fun b1 => ?_)
  refine K.GL.det (K.e_assign rfl) rfl ?_
  refine K.GL.nil ?_
  refine K.GQ.go ?_
  refine K.GC.seq ?_
  refine K.GC.region ?_
  first | refine K.GL.det (K.e_fa fo31_2 rfl) rfl ?_ | refine K.GL.det (K.e_fieldAddr fo31_2 rfl) rfl ?_
  first | refine K.GL.det (K.e_ldE Tryz.isAgg29 rfl rfl (by assumption) rfl) rfl ?_ | refine K.GL.det (K.e_ldF Tryz.isAgg29 rfl rfl (by assumption) rfl) rfl ?_ | refine K.GL.det (K.e_load Tryz.isAgg29 rfl rfl) rfl ?_ | refine K.GL.det (K.e_load0 Tryz.isAgg29 rfl (by assumption)) rfl ?_
  refine K.GL.det (K.e_len Tryz.underlying29 rfl) rfl ?_
  refine K.GL.det (K.e_assign rfl) rfl ?_
  refine K.GL.nil ?_
  refine K.GQ.go ?_
  refine K.GC.seq ?_
  refine K.GC.region ?_
  refine K.GL.det (K.e_assign rfl) rfl ?_
  refine K.GL.nil ?_
  refine K.GQ.go ?_
  refine K.GC.seq ?_
  refine K.GC.seq ?_
  refine K.GC.region ?_
  first | refine K.GL.det (K.e_fa fo31_0 rfl) rfl ?_ | refine K.GL.det (K.e_fieldAddr fo31_0 rfl) rfl ?_
  first | refine K.GL.det (K.e_ldE Tryz.isAgg2 rfl rfl (by assumption) rfl) rfl ?_ | refine K.GL.det (K.e_ldF Tryz.isAgg2 rfl rfl (by assumption) rfl) rfl ?_ | refine K.GL.det (K.e_load Tryz.isAgg2 rfl rfl) rfl ?_ | refine K.GL.det (K.e_load0 Tryz.isAgg2 rfl (by assumption)) rfl ?_
  refine K.GL.det (ev_wl_con Tryz.call60 rfl ) rfl ?_
  first | refine K.GL.det (K.e_notp rfl) rfl ?_ | refine K.GL.det (K.e_not rfl) rfl ?_
  refine K.GL.det (K.e_move rfl) rfl ?_
  first | refine K.GL.splitB 12 rfl (fun h1 => ?_) (fun h1 => ?_) | skip
  all_goals first | exact absurd h1 (by decide) | replace h1 := of_decide_eq_true h1 | replace h1 := of_decide_eq_false h1 | skip
  all_goals
    first | (refine K.GL.want 12 rfl rfl rfl ?_; first | refine K.GL.det (K.e_move rfl) rfl ?_) | refine K.GL.skip 12 rfl rfl rfl rfl ?_ | refine K.GL.skipU 12 rfl rfl rfl rfl ?_
    first | (refine K.GL.want 12 rfl rfl rfl ?_; first | refine K.GL.det (ev_wi_con Tryz.call61 rfl ) rfl ?_) | refine K.GL.skip 12 rfl rfl rfl rfl ?_ | refine K.GL.skipU 12 rfl rfl rfl rfl ?_
    first | (refine K.GL.want 12 rfl rfl rfl ?_; first | refine K.GL.det (K.e_notp rfl) rfl ?_ | refine K.GL.det (K.e_not rfl) rfl ?_) | refine K.GL.skip 12 rfl rfl rfl rfl ?_ | refine K.GL.skipU 12 rfl rfl rfl rfl ?_
    first | refine K.GL.det (K.e_pick_t rfl rfl) rfl ?_ | refine K.GL.det (K.e_pick_f rfl rfl) rfl ?_
    refine K.GL.det (K.e_move rfl) rfl ?_
    first | refine K.GL.splitB 17 rfl (fun h2 => ?_) (fun h2 => ?_) | skip
    all_goals first | exact absurd h2 (by decide) | replace h2 := of_decide_eq_true h2 | replace h2 := of_decide_eq_false h2 | skip
    all_goals
      first | (refine K.GL.want 17 rfl rfl rfl ?_; first | refine K.GL.det (K.e_fa fo31_1 rfl) rfl ?_ | refine K.GL.det (K.e_fieldAddr fo31_1 rfl) rfl ?_) | refine K.GL.skip 17 rfl rfl rfl rfl ?_ | refine K.GL.skipU 17 rfl rfl rfl rfl ?_
      first | (refine K.GL.want 17 rfl rfl rfl ?_; first | refine K.GL.det (K.e_ldE Tryz.isAgg3 rfl rfl (by assumption) rfl) rfl ?_ | refine K.GL.det (K.e_ldF Tryz.isAgg3 rfl rfl (by assumption) rfl) rfl ?_ | refine K.GL.det (K.e_load Tryz.isAgg3 rfl rfl) rfl ?_ | refine K.GL.det (K.e_load0 Tryz.isAgg3 rfl (by assumption)) rfl ?_) | refine K.GL.skip 17 rfl rfl rfl rfl ?_ | refine K.GL.skipU 17 rfl rfl rfl rfl ?_
      first | (refine K.GL.want 17 rfl rfl rfl ?_; first | refine K.GL.det (K.e_move rfl) rfl ?_) | refine K.GL.skip 17 rfl rfl rfl rfl ?_ | refine K.GL.skipU 17 rfl rfl rfl rfl ?_
      first | (refine K.GL.want 17 rfl rfl rfl ?_; first | refine K.GL.det (K.e_sub rfl rfl ⟨by omega, by omega⟩) rfl ?_ | refine K.GL.det (K.e_subw rfl rfl) rfl ?_) | refine K.GL.skip 17 rfl rfl rfl rfl ?_ | refine K.GL.skipU 17 rfl rfl rfl rfl ?_
      first | (refine K.GL.want 17 rfl rfl rfl ?_; first | refine K.GL.det (ev_wi_con Tryz.call61 rfl ) rfl ?_) | refine K.GL.skip 17 rfl rfl rfl rfl ?_ | refine K.GL.skipU 17 rfl rfl rfl rfl ?_
      first | (refine K.GL.want 17 rfl rfl rfl ?_; first | refine K.GL.det (K.e_notp rfl) rfl ?_ | refine K.GL.det (K.e_not rfl) rfl ?_) | refine K.GL.skip 17 rfl rfl rfl rfl ?_ | refine K.GL.skipU 17 rfl rfl rfl rfl ?_
      first | refine K.GL.det (K.e_pick_t rfl rfl) rfl ?_ | refine K.GL.det (K.e_pick_f rfl rfl) rfl ?_
      refine K.GL.det (K.e_move rfl) rfl ?_
      first | refine K.GL.splitB 25 rfl (fun h3 => ?_) (fun h3 => ?_) | skip
      all_goals first | exact absurd h3 (by decide) | replace h3 := of_decide_eq_true h3 | replace h3 := of_decide_eq_false h3 | skip
      all_goals
        first | (refine K.GL.want 25 rfl rfl rfl ?_; first | refine K.GL.det (K.e_fa fo31_2 rfl) rfl ?_ | refine K.GL.det (K.e_fieldAddr fo31_2 rfl) rfl ?_) | refine K.GL.skip 25 rfl rfl rfl rfl ?_ | refine K.GL.skipU 25 rfl rfl rfl rfl ?_
        first | (refine K.GL.want 25 rfl rfl rfl ?_; first | refine K.GL.det (K.e_ldE Tryz.isAgg29 rfl rfl (by assumption) rfl) rfl ?_ | refine K.GL.det (K.e_ldF Tryz.isAgg29 rfl rfl (by assumption) rfl) rfl ?_ | refine K.GL.det (K.e_load Tryz.isAgg29 rfl rfl) rfl ?_ | refine K.GL.det (K.e_load0 Tryz.isAgg29 rfl (by assumption)) rfl ?_) | refine K.GL.skip 25 rfl rfl rfl rfl ?_ | refine K.GL.skipU 25 rfl rfl rfl rfl ?_
        first | (refine K.GL.want 25 rfl rfl rfl ?_; first | refine K.GL.det (K.e_move rfl) rfl ?_) | refine K.GL.skip 25 rfl rfl rfl rfl ?_ | refine K.GL.skipU 25 rfl rfl rfl rfl ?_
        first | (refine K.GL.want 25 rfl rfl rfl ?_; first | refine K.GL.det (ev_cont_con Tryz.call62 rfl ⟨Tryz.call58, fun w x => wrong_con⟩ (by first | assumption | omega | rfl | decide)) rfl ?_) | refine K.GL.skip 25 rfl rfl rfl rfl ?_ | refine K.GL.skipU 25 rfl rfl rfl rfl ?_
        first | refine K.GL.det (K.e_pick_t rfl rfl) rfl ?_ | refine K.GL.det (K.e_pick_f rfl rfl) rfl ?_
        refine K.GL.det (K.e_move rfl) rfl ?_
        first | refine K.GL.splitB 31 rfl (fun h4 => ?_) (fun h4 => ?_) | skip
        all_goals first | exact absurd h4 (by decide) | replace h4 := of_decide_eq_true h4 | replace h4 := of_decide_eq_false h4 | skip
        all_goals
          first | (refine K.GL.want 31 rfl rfl rfl ?_; first | refine K.GL.det (K.e_ldA Tryz.isAgg31 Tryz.sizeOf31 rfl rfl (by assumption)) rfl ?_ | refine K.GL.det (K.e_ldAF Tryz.isAgg31 Tryz.sizeOf31 rfl rfl (by assumption) rfl) rfl ?_ | refine K.GL.det (K.e_loads Tryz.isAgg31 Tryz.sizeOf31 rfl rfl) rfl ?_) | refine K.GL.skip 31 rfl rfl rfl rfl ?_ | refine K.GL.skipU 31 rfl rfl rfl rfl ?_
          first | (refine K.GL.want 31 rfl rfl rfl ?_; first | refine K.GL.det (ev_unl_con Tryz.call63 rfl (by first | assumption | omega | rfl | decide)) rfl ?_) | refine K.GL.skip 31 rfl rfl rfl rfl ?_ | refine K.GL.skipU 31 rfl rfl rfl rfl ?_
          first | (refine K.GL.want 31 rfl rfl rfl ?_; first | refine K.GL.det (K.e_notp rfl) rfl ?_ | refine K.GL.det (K.e_not rfl) rfl ?_) | refine K.GL.skip 31 rfl rfl rfl rfl ?_ | refine K.GL.skipU 31 rfl rfl rfl rfl ?_
          first | refine K.GL.det (K.e_pick_t rfl rfl) rfl ?_ | refine K.GL.det (K.e_pick_f rfl rfl) rfl ?_
          refine K.GL.nil ?_
          refine K.GQ.go ?_
          refine K.GC.condB rfl (fun h5 => ?_) (fun h5 => ?_)
          · first
            | exact absurd h5 (by decide)
            | try replace h5 := of_decide_eq_true h5
              refine K.GC.seq ?_
              refine K.GC.region ?_
              refine K.GL.det (K.e_assign rfl) rfl ?_
              refine K.GL.nil ?_
              refine K.GQ.go ?_
              refine K.GC.ret ?_
              refine K.GQ.then_ret ?_
              refine K.GQ.ret1 Tryz.results47 rfl (fun w hT => ?_)
              exact ⟨by simp only [Ending.returned.injEq, Value.bool.injEq, rightB, opnOk, Ext.used]; first | (simp_all; done) | grind, hT.nil⟩
          · first
            | exact absurd h5 (by decide)
            | try replace h5 := of_decide_eq_false h5
              refine K.GC.skip ?_
              refine K.GQ.go ?_
              refine K.GC.seq ?_
              obtain ⟨q, hq⟩ : ∃ q, 0 ≤ t.opn → t.exts[t.opn.toNat]? = some q := by
                by_cases h : 0 ≤ t.opn
                · obtain ⟨q, hq⟩ := get_ex (l := t.exts) (i := t.opn.toNat) (by omega)
                  exact ⟨q, fun _ => hq⟩
                · exact ⟨default, fun h2 => absurd h2 h⟩
              refine K.GC.region ?_
              first | refine K.GL.det (K.e_fa fo31_1 rfl) rfl ?_ | refine K.GL.det (K.e_fieldAddr fo31_1 rfl) rfl ?_
              first | refine K.GL.det (K.e_ldE Tryz.isAgg3 rfl rfl (by assumption) rfl) rfl ?_ | refine K.GL.det (K.e_ldF Tryz.isAgg3 rfl rfl (by assumption) rfl) rfl ?_ | refine K.GL.det (K.e_load Tryz.isAgg3 rfl rfl) rfl ?_ | refine K.GL.det (K.e_load0 Tryz.isAgg3 rfl (by assumption)) rfl ?_
              first | refine K.GL.det ((K.e_lt rfl rfl).yes (by first | omega | assumption | decide +kernel)) rfl ?_ | refine K.GL.det ((K.e_lt rfl rfl).no (by first | omega | assumption | decide +kernel)) rfl ?_ | refine K.GL.det (K.e_lt rfl rfl) rfl ?_
              refine K.GL.det (K.e_move rfl) rfl ?_
              first | refine K.GL.splitB 39 rfl (fun h6 => ?_) (fun h6 => ?_) | skip
              all_goals first | exact absurd h6 (by decide) | replace h6 := of_decide_eq_true h6 | replace h6 := of_decide_eq_false h6 | skip
              all_goals
                first | (refine K.GL.want 39 rfl rfl rfl ?_; first | refine K.GL.det (K.e_fa fo31_2 rfl) rfl ?_ | refine K.GL.det (K.e_fieldAddr fo31_2 rfl) rfl ?_) | refine K.GL.skip 39 rfl rfl rfl rfl ?_ | refine K.GL.skipU 39 rfl rfl rfl rfl ?_
                first | (refine K.GL.want 39 rfl rfl rfl ?_; first | refine K.GL.det (K.e_ldE Tryz.isAgg29 rfl rfl (by assumption) rfl) rfl ?_ | refine K.GL.det (K.e_ldF Tryz.isAgg29 rfl rfl (by assumption) rfl) rfl ?_ | refine K.GL.det (K.e_load Tryz.isAgg29 rfl rfl) rfl ?_ | refine K.GL.det (K.e_load0 Tryz.isAgg29 rfl (by assumption)) rfl ?_) | refine K.GL.skip 39 rfl rfl rfl rfl ?_ | refine K.GL.skipU 39 rfl rfl rfl rfl ?_
                first | (refine K.GL.want 39 rfl rfl rfl ?_; first | refine K.GL.det (K.e_fa fo31_1 rfl) rfl ?_ | refine K.GL.det (K.e_fieldAddr fo31_1 rfl) rfl ?_) | refine K.GL.skip 39 rfl rfl rfl rfl ?_ | refine K.GL.skipU 39 rfl rfl rfl rfl ?_
                first | (refine K.GL.want 39 rfl rfl rfl ?_; first | refine K.GL.det (K.e_ldE Tryz.isAgg3 rfl rfl (by assumption) rfl) rfl ?_ | refine K.GL.det (K.e_ldF Tryz.isAgg3 rfl rfl (by assumption) rfl) rfl ?_ | refine K.GL.det (K.e_load Tryz.isAgg3 rfl rfl) rfl ?_ | refine K.GL.det (K.e_load0 Tryz.isAgg3 rfl (by assumption)) rfl ?_) | refine K.GL.skip 39 rfl rfl rfl rfl ?_ | refine K.GL.skipU 39 rfl rfl rfl rfl ?_
                first | (refine K.GL.want 39 rfl rfl rfl ?_; first | refine K.GL.det (K.e_ix sl29 rfl rfl rfl rfl (by omega) (by omega)) rfl ?_) | refine K.GL.skip 39 rfl rfl rfl rfl ?_ | refine K.GL.skipU 39 rfl rfl rfl rfl ?_
                first | (refine K.GL.want 39 rfl rfl rfl ?_; first | refine K.GL.det (K.e_ldA Tryz.isAgg82 Tryz.sizeOf82 rfl rfl (hq (by omega))) rfl ?_) | refine K.GL.skip 39 rfl rfl rfl rfl ?_ | refine K.GL.skipU 39 rfl rfl rfl rfl ?_
                first | (refine K.GL.want 39 rfl rfl rfl ?_; first | refine K.GL.det (ev_used_con Tryz.call64 rfl ) rfl ?_) | refine K.GL.skip 39 rfl rfl rfl rfl ?_ | refine K.GL.skipU 39 rfl rfl rfl rfl ?_
                first | (refine K.GL.want 39 rfl rfl rfl ?_; first | refine K.GL.det (K.e_move rfl) rfl ?_) | refine K.GL.skip 39 rfl rfl rfl rfl ?_ | refine K.GL.skipU 39 rfl rfl rfl rfl ?_
                first | refine K.GL.splitB 47 rfl (fun h7 => ?_) (fun h7 => ?_) | skip
                all_goals first | exact absurd h7 (by decide) | replace h7 := of_decide_eq_true h7 | replace h7 := of_decide_eq_false h7 | skip
                all_goals
                  first | (refine K.GL.want 47 rfl rfl rfl ?_; first | refine K.GL.det (K.e_fa fo31_2 rfl) rfl ?_ | refine K.GL.det (K.e_fieldAddr fo31_2 rfl) rfl ?_) | refine K.GL.skip 47 rfl rfl rfl rfl ?_ | refine K.GL.skipU 47 rfl rfl rfl rfl ?_
                  first | (refine K.GL.want 47 rfl rfl rfl ?_; first | refine K.GL.det (K.e_ldE Tryz.isAgg29 rfl rfl (by assumption) rfl) rfl ?_ | refine K.GL.det (K.e_ldF Tryz.isAgg29 rfl rfl (by assumption) rfl) rfl ?_ | refine K.GL.det (K.e_load Tryz.isAgg29 rfl rfl) rfl ?_ | refine K.GL.det (K.e_load0 Tryz.isAgg29 rfl (by assumption)) rfl ?_) | refine K.GL.skip 47 rfl rfl rfl rfl ?_ | refine K.GL.skipU 47 rfl rfl rfl rfl ?_
                  first | (refine K.GL.want 47 rfl rfl rfl ?_; first | refine K.GL.det (K.e_fa fo31_1 rfl) rfl ?_ | refine K.GL.det (K.e_fieldAddr fo31_1 rfl) rfl ?_) | refine K.GL.skip 47 rfl rfl rfl rfl ?_ | refine K.GL.skipU 47 rfl rfl rfl rfl ?_
                  first | (refine K.GL.want 47 rfl rfl rfl ?_; first | refine K.GL.det (K.e_ldE Tryz.isAgg3 rfl rfl (by assumption) rfl) rfl ?_ | refine K.GL.det (K.e_ldF Tryz.isAgg3 rfl rfl (by assumption) rfl) rfl ?_ | refine K.GL.det (K.e_load Tryz.isAgg3 rfl rfl) rfl ?_ | refine K.GL.det (K.e_load0 Tryz.isAgg3 rfl (by assumption)) rfl ?_) | refine K.GL.skip 47 rfl rfl rfl rfl ?_ | refine K.GL.skipU 47 rfl rfl rfl rfl ?_
                  first | (refine K.GL.want 47 rfl rfl rfl ?_; first | refine K.GL.det (K.e_ix sl29 rfl rfl rfl rfl (by omega) (by omega)) rfl ?_) | refine K.GL.skip 47 rfl rfl rfl rfl ?_ | refine K.GL.skipU 47 rfl rfl rfl rfl ?_
                  first | (refine K.GL.want 47 rfl rfl rfl ?_; first | refine K.GL.det (K.e_fa fo82_1 rfl) rfl ?_ | refine K.GL.det (K.e_fieldAddr fo82_1 rfl) rfl ?_) | refine K.GL.skip 47 rfl rfl rfl rfl ?_ | refine K.GL.skipU 47 rfl rfl rfl rfl ?_
                  first | (refine K.GL.want 47 rfl rfl rfl ?_; first | refine K.GL.det (K.e_ldF Tryz.isAgg3 rfl rfl (hq (by omega)) rfl) rfl ?_) | refine K.GL.skip 47 rfl rfl rfl rfl ?_ | refine K.GL.skipU 47 rfl rfl rfl rfl ?_
                  first | (refine K.GL.want 47 rfl rfl rfl ?_; first | refine K.GL.det ((K.e_eq rfl rfl).yes (by first | omega | assumption | decide +kernel)) rfl ?_ | refine K.GL.det ((K.e_eq rfl rfl).no (by first | omega | assumption | decide +kernel)) rfl ?_ | refine K.GL.det (K.e_eq rfl rfl) rfl ?_) | refine K.GL.skip 47 rfl rfl rfl rfl ?_ | refine K.GL.skipU 47 rfl rfl rfl rfl ?_
                  first | (refine K.GL.want 39 rfl rfl rfl ?_; first | refine K.GL.det (K.e_pick_t rfl rfl) rfl ?_ | refine K.GL.det (K.e_pick_f rfl rfl) rfl ?_) | refine K.GL.skip 39 rfl rfl rfl rfl ?_ | refine K.GL.skipU 39 rfl rfl rfl rfl ?_
                  first | refine K.GL.det (K.e_pick_t rfl rfl) rfl ?_ | refine K.GL.det (K.e_pick_f rfl rfl) rfl ?_
                  refine K.GL.det (K.e_assign rfl) rfl ?_
                  refine K.GL.nil ?_
                  refine K.GQ.go ?_
                  refine K.GC.ret ?_
                  refine K.GQ.ret1 Tryz.results47 rfl (fun w hT => ?_)
                  exact ⟨by simp only [Ending.returned.injEq, Value.bool.injEq, rightB, opnOk, Ext.used]; first | (simp_all; done) | grind, hT.nil⟩
section
variable {ops : Array Oper} {Q : Exit → Act → World → Prop} {N : Nat} {U : Env} {w0 : World} {L0 L F : List Res} {ty : TypeId} {rest : List Oper} {pos : String} {after : Array Edge} {xs : List Operand} {tys : Array TypeId} {dT : Tmp}
theorem ev_right_con {t : Tab} {a : Option Addr} {c : Nat} (hf : ∀ args w, (callFunc 47 args).run Tryz.prog w = .ok (.enter 47 args) w) (hx : opvs U xs = some [.agg (tabC t a c).toArray]) (hl : t.exts.length ≤ 9223372036854775807) [o0 : RdC w0 L0 [] L a (encX) (t.exts)] : Ev Tryz.prog U w0 L0 L (.call ⟨.value (.func 47), xs.toArray, tys⟩) ty (Is (.bool (rightB t))) No :=
  K.e_call1 hf hx (fun w hT => by have _o0 := o0.out w hT; exact right_con hl)
end
end Go.Proofs.YtdbedajaapamhaaGreat
