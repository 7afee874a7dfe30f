/- What is written is read back; the head of the laws. -/
import Derived.Test.YtdbedajaapamhaaTabM
namespace Go.Proofs.Ytdbedajaapamhaa
open Go Go.K
set_option linter.unusedVariables false
set_option linter.unusedSimpArgs false
attribute [local irreducible] Calls Ev GL GC GQ GR Code.wp
/-! ### What is written is read back -/
theorem b8_toNat {n : Int} (h0 : 0 ≤ n) : ((b8 n).toNat : Int) = n % 256 := by
  unfold b8
  rw [UInt8.toNat_ofNat']
  omega
theorem leN_leB : ∀ (k : Nat) (n : Int), 0 ≤ n → n < 256 ^ k → leN (leB k n) = n
  | 0, n, h0, h1 => by simp only [Int.pow_zero] at h1; simp only [leB, leN]; omega
  | k + 1, n, h0, h1 => by
    rw [Int.pow_succ] at h1
    have h2 := leN_leB k (n / 256) (by omega) (Int.ediv_lt_of_lt_mul (by omega) h1)
    simp only [leB, leN, h2, b8_toNat h0]
    omega
def extB (x : Ext) : Bytes := leB 4 x.seq ++ leB 2 x.len
theorem extB_len (x : Ext) : (extB x).length = 6 := by simp [extB, leB_len]
theorem fold_ext (l : List Ext) (b : Bytes) : l.foldl tbX b = b ++ l.flatMap extB := by
  induction l generalizing b with
  | nil => simp
  | cons x l ih => rw [List.foldl_cons, ih]; simp [tbX, extB, List.append_assoc]
theorem tbody_eq (t : Tab) : tbody t = leB 4 t.gen ++ (b8 (t.exts.length : Int) :: b8 (t.opn + 1) :: t.exts.flatMap extB) := by
  unfold tbody
  rw [fold_ext, tb0_eq]; simp
theorem putT_eq {t : Tab} (h : RightP t) : putT t = cbody (tbody t) ++ f4 (sumOf t.gen 255 (cbody (tbody t))) := by
  unfold putT
  rw [if_pos ((right_iff t).2 h)]
  unfold cput
  rw [if_pos ⟨by unfold rightC; exact decide_eq_true ⟨h.g1, h.g2, by decide, by decide⟩, by rw [tbody_len]; have := h.n2; omega⟩]
theorem putT_shape {t : Tab} (h : RightP t) : ∃ R, putT t = b8 (6 + 6 * (t.exts.length : Int)) :: (leB 4 t.gen ++ (b8 (t.exts.length : Int) :: b8 (t.opn + 1) :: (t.exts.flatMap extB ++ R))) := by
  rw [putT_eq h]
  have e : ((tbody t).length : Int) = 6 + 6 * (t.exts.length : Int) := by rw [tbody_len]; omega
  unfold cbody
  rw [e, tbody_eq]
  exact ⟨_, by simp only [List.cons_append, List.append_assoc]; rfl⟩
theorem drp_shape {h : UInt8} {g : Int} {b1 b2 : UInt8} {l : List Ext} {R : Bytes} : ∀ x, x ≤ l.length → drp (h :: (leB 4 g ++ (b1 :: b2 :: (l.flatMap extB ++ R)))) x = (l.drop x).flatMap extB ++ R
  | 0, _ => by
    unfold drp
    rw [List.drop_succ_cons, List.drop_zero, List.drop_left' (leB_len 4 g)]
    rfl
  | x + 1, hx => by
    rw [drp, drp_shape x (by omega), List.drop_drop]
    obtain ⟨q, hq⟩ : ∃ q, l[x]? = some q := get_ex (by omega)
    obtain ⟨h1, h2⟩ := List.getElem?_eq_some_iff.1 hq
    rw [List.drop_eq_getElem_cons h1, h2, List.flatMap_cons, List.append_assoc, List.drop_left' (extB_len q)]
theorem get_put {t : Tab} (h : RightP t) : parT (putT t) = t := by
  obtain ⟨R, hR⟩ := putT_shape h
  have h1 := h.n1
  have h2 := h.n2
  have h3 := h.o1
  have h4 := h.o2
  have hc : cntOf (putT t) = t.exts.length := by
    unfold cntOf
    rw [hR, List.drop_succ_cons, List.drop_zero, List.drop_left' (leB_len 4 t.gen)]
    show leN [b8 (t.exts.length : Int)] = _
    simp only [leN, b8_toNat (show (0 : Int) ≤ t.exts.length by omega)]
    omega
  have hk : (min (cntOf (putT t)) 8).toNat = t.exts.length := by rw [hc]; omega
  unfold parT
  rw [hk]
  have hg : (parN (putT t) t.exts.length).gen = t.gen := by
    rw [parN_gen, hR, List.drop_succ_cons, List.drop_zero, List.take_left' (leB_len 4 t.gen)]
    exact leN_leB 4 _ (by have := h.g1; omega) (by have := h.g2; show _ < (4294967296 : Int); omega)
  have ho : (parN (putT t) t.exts.length).opn = t.opn := by
    rw [parN_opn, hR, List.drop_succ_cons, List.drop_zero, List.drop_left' (leB_len 4 t.gen), List.drop_succ_cons, List.drop_zero]
    show leN [b8 (t.opn + 1)] - 1 = _
    simp only [leN, b8_toNat (show (0 : Int) ≤ t.opn + 1 by omega)]
    omega
  have he : (parN (putT t) t.exts.length).exts = t.exts := by
    apply List.ext_getElem?
    intro i
    unfold parN
    simp only [List.getElem?_map]
    rcases Nat.lt_or_ge i t.exts.length with hi | hi
    · rw [List.getElem?_range hi]
      obtain ⟨q, hq⟩ : ∃ q, t.exts[i]? = some q := get_ex hi
      obtain ⟨hi1, hi2⟩ := List.getElem?_eq_some_iff.1 hq
      rw [hq]
      have hok := q.ok_iff.1 (h.ok _ (List.mem_of_getElem? hq))
      simp only [Option.map_some, Option.some.injEq]
      unfold extAt
      rw [hR, drp_shape i (by omega), List.drop_eq_getElem_cons hi1, hi2, List.flatMap_cons]
      unfold extB
      rw [List.append_assoc, List.append_assoc, List.take_left' (leB_len 4 _), List.drop_left' (leB_len 4 _), List.take_left' (leB_len 2 _), leN_leB 4 _ hok.1 (by show _ < (4294967296 : Int); omega), leN_leB 2 _ hok.2.2.1 (by show _ < (65536 : Int); omega)]
    · rw [List.getElem?_eq_none (by simp; omega), List.getElem?_eq_none hi]; rfl
  generalize parN (putT t) t.exts.length = p at hg ho he
  cases p; cases t; simp_all
theorem getB_put {t : Tab} (h : RightP t) : getB (putT t) = true := getB_ok (putT_len ((right_iff t).2 h)) (by rw [get_put h])
theorem getT_put {t : Tab} (h : RightP t) : getT (putT t) = t := by rw [getT_yes (getB_put h), get_put h]
theorem put_inj {t u : Tab} (h : RightP t) (h2 : RightP u) (e : putT t = putT u) : t = u := by rw [← get_put h, e, get_put h2]
theorem getB_right {l : Bytes} (h : getB l = true) : l.length = 64 ∧ putT (getT l) = l ∧ RightP (getT l) := by
  have h1 := getT_yes h
  unfold getB at h
  simp only [Bool.and_eq_true, decide_eq_true_eq] at h
  refine ⟨h.1, by rw [h1]; exact h.2, ?_⟩
  rw [h1]
  cases h3 : rightB (parT l) with
  | true => exact (right_iff _).1 h3
  | false =>
    have h4 := h.2
    unfold putT at h4
    rw [if_neg (by rw [h3]; decide)] at h4
    rw [← h4] at h
    exact absurd h.1 (by decide)
theorem put_bad {t : Tab} (h : rightB t = false) : putT t = [] := by unfold putT; rw [if_neg (by rw [h]; decide)]
/-! ### One -/
def oneT : Tab := ⟨3, 2, [⟨5, 300⟩, ⟨0, 0⟩, ⟨6, 0⟩, ⟨0, 0⟩]⟩
theorem one_right : rightB oneT = true := by decide +kernel
theorem oneP : RightP oneT := (right_iff oneT).1 one_right
theorem one_ord : ordT oneT = [0, 2] := by
  unfold ordT
  rw [if_pos one_right]
  exact (ord_uniq oneP (show [0, 2].Perm (plc Ext.used oneT.exts) from List.Perm.refl _) (by decide +kernel)).symm
theorem one_free : freeT oneT = [1, 3] := by
  unfold freeT
  rw [if_pos one_right]; rfl
theorem one_last : lastT oneT = 6 := by unfold lastT; rw [one_ord]; rfl
theorem one_at (i : Nat) (v : UInt8) (h : (cbody (tbody oneT))[i]? = some v) : (putT oneT)[i]? = some v := by
  rw [putT_eq oneP, List.getElem?_append_left (len_of h)]; exact h
theorem zeros_bad : getB (List.replicate 64 0) = false := by
  apply getB_bad
  intro h
  have h2 : rightB (parT (List.replicate 64 0)) = false := by decide +kernel
  rw [put_bad h2] at h
  exact absurd (congrArg List.length h) (by decide)
theorem none_bad : rightB ⟨0, 0, []⟩ = false := by decide +kernel
theorem rdc_nil {α : Type} (e : Enc α) {w0 : World} {L0 lc F : List Res} : RdC w0 L0 lc F none e ([] : List α) := ⟨fun w hT => ⟨Sl.empty none rfl w, fun h => absurd rfl h⟩⟩
theorem getT_len (l : Bytes) : (getT l).exts.length ≤ 9223372036854775807 := by
  cases h : getB l with
  | true => have := (getB_right h).2.2.n2; omega
  | false => rw [getT_no h]; decide
theorem putT_cases (t : Tab) : (rightB t = true ∧ RightP t ∧ (putT t).length = 64) ∨ (rightB t = false ∧ (putT t).length = 0) := by
  cases h : rightB t with
  | true => exact Or.inl ⟨rfl, (right_iff t).1 h, putT_len h⟩
  | false => exact Or.inr ⟨rfl, by rw [put_bad h]; rfl⟩

/- turntable/turntablelaw09.One -/
set_option maxHeartbeats 1000000 in
set_option maxRecDepth 100000 in
theorem one_con {w : World} :
    Calls Try.prog 39 #[] w fun e w' => ∃ a' : Option Addr, ∃ c' : Nat, e = .returned (.agg (tabC oneT a' c').toArray) ∧ Tr w [] w' [trow a' c' 62 encX oneT.exts] := by
  refine K.enter0 (args := []) Try.func39 rfl Try.ntmps39 rfl ?_
  refine K.GC.seq ?_
  refine K.GC.region ?_
  refine K.GL.alloc Try.zeroValue29 rfl rfl (fun b0 => ?_)
  refine K.GL.nil ?_
  refine K.GQ.go ?_
  refine K.GC.seq ?_
  refine K.GC.region ?_
  refine K.GL.det (K.e_build lay62 rfl) rfl ?_
  refine K.GL.det (K.e_build lay62 rfl) rfl ?_
  refine K.GL.det (K.e_build lay62 rfl) rfl ?_
  refine K.GL.det (K.e_build lay62 rfl) rfl ?_
  refine K.GL.buildT encX oneT.exts mk27 rfl rfl rfl rfl rfl (fun b5 => ?_)
  refine K.GL.det (K.e_build lay29 rfl) rfl ?_
  refine K.GL.storeP (vs := tabC oneT (some ⟨b5, 0, none⟩) oneT.exts.length) (cs' := tabC oneT (some ⟨b5, 0, none⟩) oneT.exts.length) rfl rfl rfl Try.sizeOf29 rfl rfl (by exact spliceO_all rfl) ?_
  refine K.GL.nil ?_
  refine K.GQ.go ?_
  refine K.GC.ret ?_
  refine K.GQ.retc Try.results39 Try.isAgg29 Try.sizeOf29 rfl rfl (fun w hT => ?_)
  exact ⟨some ⟨b5, 0, none⟩, oneT.exts.length, rfl, hT.sub K.sb⟩
section
variable {ops : Array Oper} {Q : Exit → Act → World → Prop} {N : Nat} {U : Env} {w0 : World} {L0 L F : List Res} {ty : TypeId} {rest : List Oper} {pos : String} {after : Array Edge} {xs : List Operand} {tys : Array TypeId} {dT : Tmp}
theorem gl_one_con (hf : ∀ args w, (callFunc 39 args).run Try.prog w = .ok (.enter 39 args) w) (hx : opvs U xs = some []) (hd : Nat.ble (dT + 1) N = true)
    (hr : ∀ (a' : Option Addr) (c' : Nat), GL Try.prog ops Q rest N ((dT, .agg (tabC oneT a' c').toArray) :: U) w0 L0 (trow a' c' 62 encX oneT.exts :: L)) : GL Try.prog ops Q (⟨some dT, .call ⟨.value (.func 39), xs.toArray, tys⟩, ty, pos, after, Option.none⟩ :: rest) N U w0 L0 L :=
  GL.callM (α := (Option Addr) × (Nat)) (l := []) (Pv := fun y v => v = .agg (tabC oneT y.1 y.2).toArray) (l' := fun y => [trow y.1 y.2 62 encX oneT.exts]) hf hx (Sub.refl _)
    (fun w hT => by
      exact (one_con ).mono fun e w' ⟨a', c', h1, h2⟩ => ⟨(a', c'), _, h1, rfl, h2⟩) hd fun y v hv => by subst hv; exact hr y.1 y.2 
end
section
variable {ops : Array Oper} {Q : Exit → Act → World → Prop} {N : Nat} {U : Env} {w0 : World} {L0 L F : List Res} {ty : TypeId} {rest : List Oper} {pos : String} {after : Array Edge} {xs : List Operand} {tys : Array TypeId} {dT : Tmp}
theorem em_one_con (hf : ∀ args w, (callFunc 39 args).run Try.prog w = .ok (.enter 39 args) w) (hx : opvs U xs = some []) : K.D.EvM Try.prog U w0 L0 L [] (.call ⟨.value (.func 39), xs.toArray, tys⟩) ty (fun g => .agg (tabC oneT (g 0).1 (g 0).2).toArray) (fun g => True) (fun g => trow (g 0).1 (g 0).2 62 encX oneT.exts) :=
  K.D.em_call hf hx fun w hT => by
    have hT1 := hT; exact (one_con ).mono fun e w' ⟨a', c', h1, h2⟩ => ⟨fun i => (a', c'), h1, trivial, h2⟩
end
/- turntable/turntablelaw09.head -/
set_option maxHeartbeats 4000000 in
set_option maxRecDepth 100000 in
theorem head_con {w : World} :
    Calls Try.prog 26 #[] w fun e w' => e = .returned (.bool true) ∧ Tr w [] w' [] := by
  refine K.enter0 (args := []) Try.func26 rfl Try.ntmps26 rfl ?_
  refine K.GC.seq ?_
  refine K.GC.region ?_
  refine K.GL.det (K.e_assign rfl) rfl ?_
  refine K.GL.nil ?_
  refine K.GQ.go ?_
  refine K.GC.seq ?_
  refine K.GC.region ?_
  refine gl_one_con Try.call39 rfl  rfl (fun a7 c7 => ?_)
  refine K.GL.alloc Try.zeroValue29 rfl rfl (fun b1 => ?_)
  refine K.GL.storeP (vs := tabC oneT a7 c7) (cs' := tabC oneT a7 c7) rfl rfl rfl Try.sizeOf29 rfl rfl (by exact spliceO_all rfl) ?_
  refine K.GL.nil ?_
  refine K.GQ.go ?_
  refine K.GC.seq ?_
  refine K.GC.region ?_
  first | refine K.GL.det (K.e_ldA Try.isAgg29 Try.sizeOf29 rfl rfl (by assumption)) rfl ?_ | refine K.GL.det (K.e_ldAF Try.isAgg29 Try.sizeOf29 rfl rfl (by assumption) rfl) rfl ?_ | refine K.GL.det (K.e_loads Try.isAgg29 Try.sizeOf29 rfl rfl) rfl ?_
  refine gl_tput_con Try.call31 rfl (by first | assumption | omega | rfl | decide) rfl (fun a9 c9 hc9 => ?_)
  refine K.GL.det (K.e_assign rfl) rfl ?_
  refine K.GL.nil ?_
  refine K.GQ.go ?_
  refine K.GC.seq ?_
  have h64 := putT_len one_right
  refine K.GC.region ?_
  refine K.GL.det (K.e_move rfl) rfl ?_
  refine gl_tget_con Try.call27 rfl (by first | assumption | omega | rfl | decide) (by first | assumption | omega | rfl | decide) rfl (fun a12 c12 => ?_)
  refine K.GL.det (K.e_move rfl) rfl ?_
  refine K.GL.det (K.e_extract rfl rfl) rfl ?_
  refine K.GL.det (K.e_extract rfl rfl) rfl ?_
  refine K.GL.alloc Try.zeroValue29 rfl rfl (fun b3 => ?_)
  refine K.GL.storeP (vs := tabC (getT (putT oneT)) a12 c12) (cs' := tabC (getT (putT oneT)) a12 c12) rfl rfl rfl Try.sizeOf29 rfl rfl (by exact spliceO_all rfl) ?_
  refine K.GL.det (K.e_assign rfl) rfl ?_
  refine K.GL.nil ?_
  refine K.GQ.go ?_
  refine K.GC.seq ?_
  refine K.GC.region ?_
  refine K.GL.makeT (e := encB) (n := 64) (0 : UInt8) mk37 rfl rfl rfl (by omega) (by omega) rfl (fun b16 => ?_)
  refine gl_tget_con Try.call27 rfl (by first | assumption | omega | rfl | decide) (by first | assumption | omega | rfl | decide) rfl (fun a17 c17 => ?_)
  refine K.GL.det (K.e_move rfl) rfl ?_
  refine K.GL.det (K.e_extract rfl rfl) rfl ?_
  refine K.GL.det (K.e_extract rfl rfl) rfl ?_
  refine K.GL.alloc Try.zeroValue29 rfl rfl (fun b5 => ?_)
  refine K.GL.storeP (vs := tabC (getT (List.replicate 64 0)) a17 c17) (cs' := tabC (getT (List.replicate 64 0)) a17 c17) rfl rfl rfl Try.sizeOf29 rfl rfl (by exact spliceO_all rfl) ?_
  refine K.GL.det (K.e_assign rfl) rfl ?_
  refine K.GL.nil ?_
  refine K.GQ.go ?_
  refine K.GC.seq ?_
  refine K.GC.seq ?_
  rw [h64]
  refine K.GC.region ?_
  refine K.GL.det (K.e_move rfl) rfl ?_
  refine K.GL.det (K.e_len Try.underlying37 rfl) rfl ?_
  first | refine K.GL.det ((K.e_ne rfl rfl).yes (by first | omega | assumption | decide +kernel)) rfl ?_ | refine K.GL.det ((K.e_ne rfl rfl).no (by first | omega | assumption | decide +kernel)) rfl ?_ | refine K.GL.det (K.e_ne rfl rfl) rfl ?_
  refine K.GL.nil ?_
  refine K.GQ.go ?_
  refine K.GC.condB rfl (fun h1 => ?_) (fun h1 => ?_)
  · first
    | exact absurd h1 (by decide)
    | try replace h1 := of_decide_eq_true h1
      refine K.GC.seq ?_
      refine K.GC.region ?_
      refine K.GL.det (K.e_assign rfl) rfl ?_
      refine K.GL.nil ?_
      refine K.GQ.go ?_
      refine K.GC.ret ?_
      refine K.GQ.then_ret ?_
      refine K.GQ.ret1 Try.results26 rfl (fun w hT => ?_)
      exact ⟨rfl, hT.nil⟩
  · first
    | exact absurd h1 (by decide)
    | try replace h1 := of_decide_eq_false h1
      refine K.GC.skip ?_
      refine K.GQ.go ?_
      refine K.GC.seq ?_
      have hn0 : ∀ F, RdC w [] [] F none encX [] := fun F => rdc_nil encX
      have hb0 := one_at 0 30 rfl
      have hb1 := one_at 1 3 rfl
      have hb5 := one_at 5 4 rfl
      have hb6 := one_at 6 3 rfl
      have hb7 := one_at 7 5 rfl
      rw [getB_put oneP, getT_put oneP, zeros_bad]
      refine K.GC.region ?_
      first | refine K.GL.det (K.e_ldA Try.isAgg29 Try.sizeOf29 rfl rfl (by assumption)) rfl ?_ | refine K.GL.det (K.e_ldAF Try.isAgg29 Try.sizeOf29 rfl rfl (by assumption) rfl) rfl ?_ | refine K.GL.det (K.e_loads Try.isAgg29 Try.sizeOf29 rfl rfl) rfl ?_
      first | refine K.GL.det (K.e_ldA Try.isAgg29 Try.sizeOf29 rfl rfl (by assumption)) rfl ?_ | refine K.GL.det (K.e_ldAF Try.isAgg29 Try.sizeOf29 rfl rfl (by assumption) rfl) rfl ?_ | refine K.GL.det (K.e_loads Try.isAgg29 Try.sizeOf29 rfl rfl) rfl ?_
      refine K.GL.det ((ev_rsame_con (t := oneT) (u := oneT) Try.call18 rfl (by decide) (by decide)).cast_bool (b := true) rfl) rfl ?_
      refine K.GL.det (K.e_move rfl) rfl ?_
      first | refine K.GL.splitB 26 rfl (fun h2 => ?_) (fun h2 => ?_) | skip
      all_goals first | exact absurd h2 (by decide) | replace h2 := of_decide_eq_true h2 | replace h2 := of_decide_eq_false h2 | skip
      all_goals
        first
          | refine K.GL.skip 26 rfl rfl rfl rfl ?_
          | refine K.GL.skipU 26 rfl rfl rfl rfl ?_
          | refine K.GL.skip0 26 rfl rfl rfl ?_
          | (refine K.GL.want 26 rfl rfl rfl ?_
             refine K.GL.det (K.e_move rfl) rfl ?_)
        first | refine K.GL.det (K.e_pick_t rfl rfl) rfl ?_ | refine K.GL.det (K.e_pick_f rfl rfl) rfl ?_
        refine K.GL.det (K.e_move rfl) rfl ?_
        first | refine K.GL.splitB 29 rfl (fun h3 => ?_) (fun h3 => ?_) | skip
        all_goals first | exact absurd h3 (by decide) | replace h3 := of_decide_eq_true h3 | replace h3 := of_decide_eq_false h3 | skip
        all_goals
          first
            | refine K.GL.skip 29 rfl rfl rfl rfl ?_
            | refine K.GL.skipU 29 rfl rfl rfl rfl ?_
            | refine K.GL.skip0 29 rfl rfl rfl ?_
            | (refine K.GL.want 29 rfl rfl rfl ?_
               refine K.GL.det (K.e_move rfl) rfl ?_)
          first
            | refine K.GL.skip 29 rfl rfl rfl rfl ?_
            | refine K.GL.skipU 29 rfl rfl rfl rfl ?_
            | refine K.GL.skip0 29 rfl rfl rfl ?_
            | (refine K.GL.want 29 rfl rfl rfl ?_
               first | refine K.GL.det (K.e_notp rfl) rfl ?_ | refine K.GL.det (K.e_not rfl) rfl ?_)
          first | refine K.GL.det (K.e_pick_t rfl rfl) rfl ?_ | refine K.GL.det (K.e_pick_f rfl rfl) rfl ?_
          refine K.GL.det (K.e_move rfl) rfl ?_
          first | refine K.GL.splitB 33 rfl (fun h4 => ?_) (fun h4 => ?_) | skip
          all_goals first | exact absurd h4 (by decide) | replace h4 := of_decide_eq_true h4 | replace h4 := of_decide_eq_false h4 | skip
          all_goals
            first
              | refine K.GL.skip 33 rfl rfl rfl rfl ?_
              | refine K.GL.skipU 33 rfl rfl rfl rfl ?_
              | refine K.GL.skip0 33 rfl rfl rfl ?_
              | (refine K.GL.want 33 rfl rfl rfl ?_
                 refine K.GL.det (K.e_move rfl) rfl ?_)
            first
              | refine K.GL.skip 33 rfl rfl rfl rfl ?_
              | refine K.GL.skipU 33 rfl rfl rfl rfl ?_
              | refine K.GL.skip0 33 rfl rfl rfl ?_
              | (refine K.GL.want 33 rfl rfl rfl ?_
                 first | refine K.GL.ixK sl37 rfl rfl rfl rfl (by assumption) rfl ?_ | refine K.GL.ix sl37 rfl rfl rfl rfl (by omega) rfl (fun q35 hq35 => ?_) | refine K.GL.ixI sl37 rfl rfl rfl rfl (by omega) (by omega) rfl (fun q35 hq35 => ?_) | refine K.GL.det (K.e_indexAddrS sl37 rfl rfl (by assumption) (by omega) (by omega)) rfl ?_ | refine K.GL.det (K.e_indexAddr sl37 rfl rfl (by omega) (by omega)) rfl ?_)
            first
              | refine K.GL.skip 33 rfl rfl rfl rfl ?_
              | refine K.GL.skipU 33 rfl rfl rfl rfl ?_
              | refine K.GL.skip0 33 rfl rfl rfl ?_
              | (refine K.GL.want 33 rfl rfl rfl ?_
                 first | refine K.GL.det (K.e_ldE Try.isAgg5 rfl rfl (by assumption) rfl) rfl ?_ | refine K.GL.det (K.e_ldF Try.isAgg5 rfl rfl (by assumption) rfl) rfl ?_ | refine K.GL.det (K.e_load Try.isAgg5 rfl rfl) rfl ?_ | refine K.GL.det (K.e_load0 Try.isAgg5 rfl (by assumption)) rfl ?_)
            first
              | refine K.GL.skip 33 rfl rfl rfl rfl ?_
              | refine K.GL.skipU 33 rfl rfl rfl rfl ?_
              | refine K.GL.skip0 33 rfl rfl rfl ?_
              | (refine K.GL.want 33 rfl rfl rfl ?_
                 first | refine K.GL.det ((K.e_eq rfl rfl).yes (by first | omega | assumption | decide +kernel)) rfl ?_ | refine K.GL.det ((K.e_eq rfl rfl).no (by first | omega | assumption | decide +kernel)) rfl ?_ | refine K.GL.det (K.e_eq rfl rfl) rfl ?_)
            first | refine K.GL.det (K.e_pick_t rfl rfl) rfl ?_ | refine K.GL.det (K.e_pick_f rfl rfl) rfl ?_
            refine K.GL.det (K.e_move rfl) rfl ?_
            first | refine K.GL.splitB 39 rfl (fun h5 => ?_) (fun h5 => ?_) | skip
            all_goals first | exact absurd h5 (by decide) | replace h5 := of_decide_eq_true h5 | replace h5 := of_decide_eq_false h5 | skip
            all_goals
              first
                | refine K.GL.skip 39 rfl rfl rfl rfl ?_
                | refine K.GL.skipU 39 rfl rfl rfl rfl ?_
                | refine K.GL.skip0 39 rfl rfl rfl ?_
                | (refine K.GL.want 39 rfl rfl rfl ?_
                   refine K.GL.det (K.e_move rfl) rfl ?_)
              first
                | refine K.GL.skip 39 rfl rfl rfl rfl ?_
                | refine K.GL.skipU 39 rfl rfl rfl rfl ?_
                | refine K.GL.skip0 39 rfl rfl rfl ?_
                | (refine K.GL.want 39 rfl rfl rfl ?_
                   first | refine K.GL.ixK sl37 rfl rfl rfl rfl (by assumption) rfl ?_ | refine K.GL.ix sl37 rfl rfl rfl rfl (by omega) rfl (fun q41 hq41 => ?_) | refine K.GL.ixI sl37 rfl rfl rfl rfl (by omega) (by omega) rfl (fun q41 hq41 => ?_) | refine K.GL.det (K.e_indexAddrS sl37 rfl rfl (by assumption) (by omega) (by omega)) rfl ?_ | refine K.GL.det (K.e_indexAddr sl37 rfl rfl (by omega) (by omega)) rfl ?_)
              first
                | refine K.GL.skip 39 rfl rfl rfl rfl ?_
                | refine K.GL.skipU 39 rfl rfl rfl rfl ?_
                | refine K.GL.skip0 39 rfl rfl rfl ?_
                | (refine K.GL.want 39 rfl rfl rfl ?_
                   first | refine K.GL.det (K.e_ldE Try.isAgg5 rfl rfl (by assumption) rfl) rfl ?_ | refine K.GL.det (K.e_ldF Try.isAgg5 rfl rfl (by assumption) rfl) rfl ?_ | refine K.GL.det (K.e_load Try.isAgg5 rfl rfl) rfl ?_ | refine K.GL.det (K.e_load0 Try.isAgg5 rfl (by assumption)) rfl ?_)
              first
                | refine K.GL.skip 39 rfl rfl rfl rfl ?_
                | refine K.GL.skipU 39 rfl rfl rfl rfl ?_
                | refine K.GL.skip0 39 rfl rfl rfl ?_
                | (refine K.GL.want 39 rfl rfl rfl ?_
                   first | refine K.GL.det ((K.e_eq rfl rfl).yes (by first | omega | assumption | decide +kernel)) rfl ?_ | refine K.GL.det ((K.e_eq rfl rfl).no (by first | omega | assumption | decide +kernel)) rfl ?_ | refine K.GL.det (K.e_eq rfl rfl) rfl ?_)
              first | refine K.GL.det (K.e_pick_t rfl rfl) rfl ?_ | refine K.GL.det (K.e_pick_f rfl rfl) rfl ?_
              refine K.GL.det (K.e_move rfl) rfl ?_
              first | refine K.GL.splitB 45 rfl (fun h6 => ?_) (fun h6 => ?_) | skip
              all_goals first | exact absurd h6 (by decide) | replace h6 := of_decide_eq_true h6 | replace h6 := of_decide_eq_false h6 | skip
              all_goals
                first
                  | refine K.GL.skip 45 rfl rfl rfl rfl ?_
                  | refine K.GL.skipU 45 rfl rfl rfl rfl ?_
                  | refine K.GL.skip0 45 rfl rfl rfl ?_
                  | (refine K.GL.want 45 rfl rfl rfl ?_
                     refine K.GL.det (K.e_move rfl) rfl ?_)
                first
                  | refine K.GL.skip 45 rfl rfl rfl rfl ?_
                  | refine K.GL.skipU 45 rfl rfl rfl rfl ?_
                  | refine K.GL.skip0 45 rfl rfl rfl ?_
                  | (refine K.GL.want 45 rfl rfl rfl ?_
                     first | refine K.GL.ixK sl37 rfl rfl rfl rfl (by assumption) rfl ?_ | refine K.GL.ix sl37 rfl rfl rfl rfl (by omega) rfl (fun q47 hq47 => ?_) | refine K.GL.ixI sl37 rfl rfl rfl rfl (by omega) (by omega) rfl (fun q47 hq47 => ?_) | refine K.GL.det (K.e_indexAddrS sl37 rfl rfl (by assumption) (by omega) (by omega)) rfl ?_ | refine K.GL.det (K.e_indexAddr sl37 rfl rfl (by omega) (by omega)) rfl ?_)
                first
                  | refine K.GL.skip 45 rfl rfl rfl rfl ?_
                  | refine K.GL.skipU 45 rfl rfl rfl rfl ?_
                  | refine K.GL.skip0 45 rfl rfl rfl ?_
                  | (refine K.GL.want 45 rfl rfl rfl ?_
                     first | refine K.GL.det (K.e_ldE Try.isAgg5 rfl rfl (by assumption) rfl) rfl ?_ | refine K.GL.det (K.e_ldF Try.isAgg5 rfl rfl (by assumption) rfl) rfl ?_ | refine K.GL.det (K.e_load Try.isAgg5 rfl rfl) rfl ?_ | refine K.GL.det (K.e_load0 Try.isAgg5 rfl (by assumption)) rfl ?_)
                first
                  | refine K.GL.skip 45 rfl rfl rfl rfl ?_
                  | refine K.GL.skipU 45 rfl rfl rfl rfl ?_
                  | refine K.GL.skip0 45 rfl rfl rfl ?_
                  | (refine K.GL.want 45 rfl rfl rfl ?_
                     first | refine K.GL.det ((K.e_eq rfl rfl).yes (by first | omega | assumption | decide +kernel)) rfl ?_ | refine K.GL.det ((K.e_eq rfl rfl).no (by first | omega | assumption | decide +kernel)) rfl ?_ | refine K.GL.det (K.e_eq rfl rfl) rfl ?_)
                first | refine K.GL.det (K.e_pick_t rfl rfl) rfl ?_ | refine K.GL.det (K.e_pick_f rfl rfl) rfl ?_
                refine K.GL.det (K.e_move rfl) rfl ?_
                first | refine K.GL.splitB 51 rfl (fun h7 => ?_) (fun h7 => ?_) | skip
                all_goals first | exact absurd h7 (by decide) | replace h7 := of_decide_eq_true h7 | replace h7 := of_decide_eq_false h7 | skip
                all_goals
                  first
                    | refine K.GL.skip 51 rfl rfl rfl rfl ?_
                    | refine K.GL.skipU 51 rfl rfl rfl rfl ?_
                    | refine K.GL.skip0 51 rfl rfl rfl ?_
                    | (refine K.GL.want 51 rfl rfl rfl ?_
                       refine K.GL.det (K.e_move rfl) rfl ?_)
                  first
                    | refine K.GL.skip 51 rfl rfl rfl rfl ?_
                    | refine K.GL.skipU 51 rfl rfl rfl rfl ?_
                    | refine K.GL.skip0 51 rfl rfl rfl ?_
                    | (refine K.GL.want 51 rfl rfl rfl ?_
                       first | refine K.GL.ixK sl37 rfl rfl rfl rfl (by assumption) rfl ?_ | refine K.GL.ix sl37 rfl rfl rfl rfl (by omega) rfl (fun q53 hq53 => ?_) | refine K.GL.ixI sl37 rfl rfl rfl rfl (by omega) (by omega) rfl (fun q53 hq53 => ?_) | refine K.GL.det (K.e_indexAddrS sl37 rfl rfl (by assumption) (by omega) (by omega)) rfl ?_ | refine K.GL.det (K.e_indexAddr sl37 rfl rfl (by omega) (by omega)) rfl ?_)
                  first
                    | refine K.GL.skip 51 rfl rfl rfl rfl ?_
                    | refine K.GL.skipU 51 rfl rfl rfl rfl ?_
                    | refine K.GL.skip0 51 rfl rfl rfl ?_
                    | (refine K.GL.want 51 rfl rfl rfl ?_
                       first | refine K.GL.det (K.e_ldE Try.isAgg5 rfl rfl (by assumption) rfl) rfl ?_ | refine K.GL.det (K.e_ldF Try.isAgg5 rfl rfl (by assumption) rfl) rfl ?_ | refine K.GL.det (K.e_load Try.isAgg5 rfl rfl) rfl ?_ | refine K.GL.det (K.e_load0 Try.isAgg5 rfl (by assumption)) rfl ?_)
                  first
                    | refine K.GL.skip 51 rfl rfl rfl rfl ?_
                    | refine K.GL.skipU 51 rfl rfl rfl rfl ?_
                    | refine K.GL.skip0 51 rfl rfl rfl ?_
                    | (refine K.GL.want 51 rfl rfl rfl ?_
                       first | refine K.GL.det ((K.e_eq rfl rfl).yes (by first | omega | assumption | decide +kernel)) rfl ?_ | refine K.GL.det ((K.e_eq rfl rfl).no (by first | omega | assumption | decide +kernel)) rfl ?_ | refine K.GL.det (K.e_eq rfl rfl) rfl ?_)
                  first | refine K.GL.det (K.e_pick_t rfl rfl) rfl ?_ | refine K.GL.det (K.e_pick_f rfl rfl) rfl ?_
                  refine K.GL.det (K.e_move rfl) rfl ?_
                  first | refine K.GL.splitB 57 rfl (fun h8 => ?_) (fun h8 => ?_) | skip
                  all_goals first | exact absurd h8 (by decide) | replace h8 := of_decide_eq_true h8 | replace h8 := of_decide_eq_false h8 | skip
                  all_goals
                    first
                      | refine K.GL.skip 57 rfl rfl rfl rfl ?_
                      | refine K.GL.skipU 57 rfl rfl rfl rfl ?_
                      | refine K.GL.skip0 57 rfl rfl rfl ?_
                      | (refine K.GL.want 57 rfl rfl rfl ?_
                         refine K.GL.det (K.e_move rfl) rfl ?_)
                    first
                      | refine K.GL.skip 57 rfl rfl rfl rfl ?_
                      | refine K.GL.skipU 57 rfl rfl rfl rfl ?_
                      | refine K.GL.skip0 57 rfl rfl rfl ?_
                      | (refine K.GL.want 57 rfl rfl rfl ?_
                         first | refine K.GL.ixK sl37 rfl rfl rfl rfl (by assumption) rfl ?_ | refine K.GL.ix sl37 rfl rfl rfl rfl (by omega) rfl (fun q59 hq59 => ?_) | refine K.GL.ixI sl37 rfl rfl rfl rfl (by omega) (by omega) rfl (fun q59 hq59 => ?_) | refine K.GL.det (K.e_indexAddrS sl37 rfl rfl (by assumption) (by omega) (by omega)) rfl ?_ | refine K.GL.det (K.e_indexAddr sl37 rfl rfl (by omega) (by omega)) rfl ?_)
                    first
                      | refine K.GL.skip 57 rfl rfl rfl rfl ?_
                      | refine K.GL.skipU 57 rfl rfl rfl rfl ?_
                      | refine K.GL.skip0 57 rfl rfl rfl ?_
                      | (refine K.GL.want 57 rfl rfl rfl ?_
                         first | refine K.GL.det (K.e_ldE Try.isAgg5 rfl rfl (by assumption) rfl) rfl ?_ | refine K.GL.det (K.e_ldF Try.isAgg5 rfl rfl (by assumption) rfl) rfl ?_ | refine K.GL.det (K.e_load Try.isAgg5 rfl rfl) rfl ?_ | refine K.GL.det (K.e_load0 Try.isAgg5 rfl (by assumption)) rfl ?_)
                    first
                      | refine K.GL.skip 57 rfl rfl rfl rfl ?_
                      | refine K.GL.skipU 57 rfl rfl rfl rfl ?_
                      | refine K.GL.skip0 57 rfl rfl rfl ?_
                      | (refine K.GL.want 57 rfl rfl rfl ?_
                         first | refine K.GL.det ((K.e_eq rfl rfl).yes (by first | omega | assumption | decide +kernel)) rfl ?_ | refine K.GL.det ((K.e_eq rfl rfl).no (by first | omega | assumption | decide +kernel)) rfl ?_ | refine K.GL.det (K.e_eq rfl rfl) rfl ?_)
                    first | refine K.GL.det (K.e_pick_t rfl rfl) rfl ?_ | refine K.GL.det (K.e_pick_f rfl rfl) rfl ?_
                    refine K.GL.det (K.e_move rfl) rfl ?_
                    first | refine K.GL.splitB 63 rfl (fun h9 => ?_) (fun h9 => ?_) | skip
                    all_goals first | exact absurd h9 (by decide) | replace h9 := of_decide_eq_true h9 | replace h9 := of_decide_eq_false h9 | skip
                    all_goals
                      first
                        | refine K.GL.skip 63 rfl rfl rfl rfl ?_
                        | refine K.GL.skipU 63 rfl rfl rfl rfl ?_
                        | refine K.GL.skip0 63 rfl rfl rfl ?_
                        | (refine K.GL.want 63 rfl rfl rfl ?_
                           first | refine K.GL.det (K.e_ldA Try.isAgg29 Try.sizeOf29 rfl rfl (by assumption)) rfl ?_ | refine K.GL.det (K.e_ldAF Try.isAgg29 Try.sizeOf29 rfl rfl (by assumption) rfl) rfl ?_ | refine K.GL.det (K.e_loads Try.isAgg29 Try.sizeOf29 rfl rfl) rfl ?_)
                      first
                        | refine K.GL.skip 63 rfl rfl rfl rfl ?_
                        | refine K.GL.skipU 63 rfl rfl rfl rfl ?_
                        | refine K.GL.skip0 63 rfl rfl rfl ?_
                        | (refine K.GL.want 63 rfl rfl rfl ?_
                           refine gl_tord_con Try.call33 rfl (by first | assumption | omega | rfl | decide) rfl (fun a65 c65 => ?_))
                      first
                        | refine K.GL.skip 63 rfl rfl rfl rfl ?_
                        | refine K.GL.skipU 63 rfl rfl rfl rfl ?_
                        | refine K.GL.skip0 63 rfl rfl rfl ?_
                        | (refine K.GL.want 63 rfl rfl rfl ?_
                           refine K.GL.buildT (K.encI .i64) [_, _] mk56 rfl rfl rfl rfl rfl (fun b66 => ?_))
                      first
                        | refine K.GL.skip 63 rfl rfl rfl rfl ?_
                        | refine K.GL.skipU 63 rfl rfl rfl rfl ?_
                        | refine K.GL.skip0 63 rfl rfl rfl ?_
                        | (refine K.GL.want 63 rfl rfl rfl ?_
                           refine K.GL.det ((ev_sint_con (l := ordT oneT) (m := [0, 2]) Try.call32 rfl (by rw [one_ord]; decide) (by first | decide | (rw [one_ord]; decide))).cast_bool (b := true) (by rw [one_ord]; rfl)) rfl ?_)
                      first | refine K.GL.det (K.e_pick_t rfl rfl) rfl ?_ | refine K.GL.det (K.e_pick_f rfl rfl) rfl ?_
                      refine K.GL.det (K.e_move rfl) rfl ?_
                      first | refine K.GL.splitB 69 rfl (fun h10 => ?_) (fun h10 => ?_) | skip
                      all_goals first | exact absurd h10 (by decide) | replace h10 := of_decide_eq_true h10 | replace h10 := of_decide_eq_false h10 | skip
                      all_goals
                        first
                          | refine K.GL.skip 69 rfl rfl rfl rfl ?_
                          | refine K.GL.skipU 69 rfl rfl rfl rfl ?_
                          | refine K.GL.skip0 69 rfl rfl rfl ?_
                          | (refine K.GL.want 69 rfl rfl rfl ?_
                             first | refine K.GL.det (K.e_ldA Try.isAgg29 Try.sizeOf29 rfl rfl (by assumption)) rfl ?_ | refine K.GL.det (K.e_ldAF Try.isAgg29 Try.sizeOf29 rfl rfl (by assumption) rfl) rfl ?_ | refine K.GL.det (K.e_loads Try.isAgg29 Try.sizeOf29 rfl rfl) rfl ?_)
                        first
                          | refine K.GL.skip 69 rfl rfl rfl rfl ?_
                          | refine K.GL.skipU 69 rfl rfl rfl rfl ?_
                          | refine K.GL.skip0 69 rfl rfl rfl ?_
                          | (refine K.GL.want 69 rfl rfl rfl ?_
                             refine gl_tfree_con Try.call35 rfl (by first | assumption | omega | rfl | decide) rfl (fun a71 c71 => ?_))
                        first
                          | refine K.GL.skip 69 rfl rfl rfl rfl ?_
                          | refine K.GL.skipU 69 rfl rfl rfl rfl ?_
                          | refine K.GL.skip0 69 rfl rfl rfl ?_
                          | (refine K.GL.want 69 rfl rfl rfl ?_
                             refine K.GL.buildT (K.encI .i64) [_, _] mk56 rfl rfl rfl rfl rfl (fun b72 => ?_))
                        first
                          | refine K.GL.skip 69 rfl rfl rfl rfl ?_
                          | refine K.GL.skipU 69 rfl rfl rfl rfl ?_
                          | refine K.GL.skip0 69 rfl rfl rfl ?_
                          | (refine K.GL.want 69 rfl rfl rfl ?_
                             refine K.GL.det ((ev_sint_con (l := freeT oneT) (m := [1, 3]) Try.call32 rfl (by rw [one_free]; decide) (by first | decide | (rw [one_free]; decide))).cast_bool (b := true) (by rw [one_free]; rfl)) rfl ?_)
                        first | refine K.GL.det (K.e_pick_t rfl rfl) rfl ?_ | refine K.GL.det (K.e_pick_f rfl rfl) rfl ?_
                        refine K.GL.det (K.e_move rfl) rfl ?_
                        first | refine K.GL.splitB 75 rfl (fun h11 => ?_) (fun h11 => ?_) | skip
                        all_goals first | exact absurd h11 (by decide) | replace h11 := of_decide_eq_true h11 | replace h11 := of_decide_eq_false h11 | skip
                        all_goals
                          first
                            | refine K.GL.skip 75 rfl rfl rfl rfl ?_
                            | refine K.GL.skipU 75 rfl rfl rfl rfl ?_
                            | refine K.GL.skip0 75 rfl rfl rfl ?_
                            | (refine K.GL.want 75 rfl rfl rfl ?_
                               first | refine K.GL.det (K.e_ldA Try.isAgg29 Try.sizeOf29 rfl rfl (by assumption)) rfl ?_ | refine K.GL.det (K.e_ldAF Try.isAgg29 Try.sizeOf29 rfl rfl (by assumption) rfl) rfl ?_ | refine K.GL.det (K.e_loads Try.isAgg29 Try.sizeOf29 rfl rfl) rfl ?_)
                          first
                            | refine K.GL.skip 75 rfl rfl rfl rfl ?_
                            | refine K.GL.skipU 75 rfl rfl rfl rfl ?_
                            | refine K.GL.skip0 75 rfl rfl rfl ?_
                            | (refine K.GL.want 75 rfl rfl rfl ?_
                               refine K.GL.det (ev_tlast_con Try.call37 rfl (by first | assumption | omega | rfl | decide)) rfl ?_)
                          first
                            | refine K.GL.skip 75 rfl rfl rfl rfl ?_
                            | refine K.GL.skipU 75 rfl rfl rfl rfl ?_
                            | refine K.GL.skip0 75 rfl rfl rfl ?_
                            | (refine K.GL.want 75 rfl rfl rfl ?_
                               refine K.GL.det ((K.e_eq rfl rfl).yes one_last) rfl ?_)
                          first | refine K.GL.det (K.e_pick_t rfl rfl) rfl ?_ | refine K.GL.det (K.e_pick_f rfl rfl) rfl ?_
                          refine K.GL.det (K.e_move rfl) rfl ?_
                          first | refine K.GL.splitB 80 rfl (fun h12 => ?_) (fun h12 => ?_) | skip
                          all_goals first | exact absurd h12 (by decide) | replace h12 := of_decide_eq_true h12 | replace h12 := of_decide_eq_false h12 | skip
                          all_goals
                            first
                              | refine K.GL.skip 80 rfl rfl rfl rfl ?_
                              | refine K.GL.skipU 80 rfl rfl rfl rfl ?_
                              | refine K.GL.skip0 80 rfl rfl rfl ?_
                              | (refine K.GL.want 80 rfl rfl rfl ?_
                                 first | refine K.GL.det (K.e_ldA Try.isAgg29 Try.sizeOf29 rfl rfl (by assumption)) rfl ?_ | refine K.GL.det (K.e_ldAF Try.isAgg29 Try.sizeOf29 rfl rfl (by assumption) rfl) rfl ?_ | refine K.GL.det (K.e_loads Try.isAgg29 Try.sizeOf29 rfl rfl) rfl ?_)
                            first
                              | refine K.GL.skip 80 rfl rfl rfl rfl ?_
                              | refine K.GL.skipU 80 rfl rfl rfl rfl ?_
                              | refine K.GL.skip0 80 rfl rfl rfl ?_
                              | (refine K.GL.want 80 rfl rfl rfl ?_
                                 refine K.GL.det ((ev_right_con (t := oneT) Try.call29 rfl (by first | decide | omega)).cast_bool (b := true) one_right) rfl ?_)
                            first | refine K.GL.det (K.e_pick_t rfl rfl) rfl ?_ | refine K.GL.det (K.e_pick_f rfl rfl) rfl ?_
                            refine K.GL.det (K.e_move rfl) rfl ?_
                            first | refine K.GL.splitB 84 rfl (fun h13 => ?_) (fun h13 => ?_) | skip
                            all_goals first | exact absurd h13 (by decide) | replace h13 := of_decide_eq_true h13 | replace h13 := of_decide_eq_false h13 | skip
                            all_goals
                              first
                                | refine K.GL.skip 84 rfl rfl rfl rfl ?_
                                | refine K.GL.skipU 84 rfl rfl rfl rfl ?_
                                | refine K.GL.skip0 84 rfl rfl rfl ?_
                                | (refine K.GL.want 84 rfl rfl rfl ?_
                                   refine K.GL.det (K.e_build lay29 rfl) rfl ?_)
                              first
                                | refine K.GL.skip 84 rfl rfl rfl rfl ?_
                                | refine K.GL.skipU 84 rfl rfl rfl rfl ?_
                                | refine K.GL.skip0 84 rfl rfl rfl ?_
                                | (refine K.GL.want 84 rfl rfl rfl ?_
                                   refine K.GL.det ((ev_right_con (t := ⟨0, 0, []⟩) (a := none) (c := 0) Try.call29 rfl (by first | decide | omega)).cast_bool (b := false) none_bad) rfl ?_)
                              first
                                | refine K.GL.skip 84 rfl rfl rfl rfl ?_
                                | refine K.GL.skipU 84 rfl rfl rfl rfl ?_
                                | refine K.GL.skip0 84 rfl rfl rfl ?_
                                | (refine K.GL.want 84 rfl rfl rfl ?_
                                   first | refine K.GL.det (K.e_notp rfl) rfl ?_ | refine K.GL.det (K.e_not rfl) rfl ?_)
                              first | refine K.GL.det (K.e_pick_t rfl rfl) rfl ?_ | refine K.GL.det (K.e_pick_f rfl rfl) rfl ?_
                              refine K.GL.det (K.e_move rfl) rfl ?_
                              first | refine K.GL.splitB 89 rfl (fun h14 => ?_) (fun h14 => ?_) | skip
                              all_goals first | exact absurd h14 (by decide) | replace h14 := of_decide_eq_true h14 | replace h14 := of_decide_eq_false h14 | skip
                              all_goals
                                first
                                  | refine K.GL.skip 89 rfl rfl rfl rfl ?_
                                  | refine K.GL.skipU 89 rfl rfl rfl rfl ?_
                                  | refine K.GL.skip0 89 rfl rfl rfl ?_
                                  | (refine K.GL.want 89 rfl rfl rfl ?_
                                     refine K.GL.det (K.e_build lay29 rfl) rfl ?_)
                                first
                                  | refine K.GL.skip 89 rfl rfl rfl rfl ?_
                                  | refine K.GL.skipU 89 rfl rfl rfl rfl ?_
                                  | refine K.GL.skip0 89 rfl rfl rfl ?_
                                  | (refine K.GL.want 89 rfl rfl rfl ?_
                                     refine gl_tput_con (t := ⟨0, 0, []⟩) (a := none) (c := 0) Try.call31 rfl (by decide) rfl (fun a91 c91 hc91 => ?_)
                                     rw [put_bad none_bad])
                                first
                                  | refine K.GL.skip 89 rfl rfl rfl rfl ?_
                                  | refine K.GL.skipU 89 rfl rfl rfl rfl ?_
                                  | refine K.GL.skip0 89 rfl rfl rfl ?_
                                  | (refine K.GL.want 89 rfl rfl rfl ?_
                                     refine K.GL.det (K.e_len Try.underlying37 rfl) rfl ?_)
                                first
                                  | refine K.GL.skip 89 rfl rfl rfl rfl ?_
                                  | refine K.GL.skipU 89 rfl rfl rfl rfl ?_
                                  | refine K.GL.skip0 89 rfl rfl rfl ?_
                                  | (refine K.GL.want 89 rfl rfl rfl ?_
                                     first | refine K.GL.det ((K.e_eq rfl rfl).yes (by first | omega | assumption | decide +kernel)) rfl ?_ | refine K.GL.det ((K.e_eq rfl rfl).no (by first | omega | assumption | decide +kernel)) rfl ?_ | refine K.GL.det (K.e_eq rfl rfl) rfl ?_)
                                first | refine K.GL.det (K.e_pick_t rfl rfl) rfl ?_ | refine K.GL.det (K.e_pick_f rfl rfl) rfl ?_
                                refine K.GL.det (K.e_assign rfl) rfl ?_
                                refine K.GL.nil ?_
                                refine K.GQ.go ?_
                                refine K.GC.ret ?_
                                refine K.GQ.ret1 Try.results26 rfl (fun w hT => ?_)
                                exact ⟨rfl, hT.nil⟩
section
variable {ops : Array Oper} {Q : Exit → Act → World → Prop} {N : Nat} {U : Env} {w0 : World} {L0 L F : List Res} {ty : TypeId} {rest : List Oper} {pos : String} {after : Array Edge} {xs : List Operand} {tys : Array TypeId} {dT : Tmp}
theorem ev_head_con (hf : ∀ args w, (callFunc 26 args).run Try.prog w = .ok (.enter 26 args) w) (hx : opvs U xs = some []) : Ev Try.prog U w0 L0 L (.call ⟨.value (.func 26), xs.toArray, tys⟩) ty (Is (.bool true)) No :=
  K.e_call1 hf hx (fun w hT => by exact head_con )
end
end Go.Proofs.Ytdbedajaapamhaa
