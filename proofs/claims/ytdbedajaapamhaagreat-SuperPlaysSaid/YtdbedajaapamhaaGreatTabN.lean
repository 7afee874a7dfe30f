/- What is written is read back; the head of the laws. -/
import Derived.Test.YtdbedajaapamhaaGreatTabM
namespace Go.Proofs.YtdbedajaapamhaaGreat
open Go Go.K
set_option linter.unusedVariables false
set_option linter.unusedSimpArgs false
attribute [local irreducible] Calls Ev GL GC GQ GR Code.wp

/-! ### What is written is read back -/

theorem b8_toNat {n : Int} (h0 : 0 ≤ n) : ((b8 n).toNat : Int) = n % 256 := by
  unfold b8
  rw [UInt8.toNat_ofNat']
  omega

theorem leN_leB : ∀ (k : Nat) (n : Int), 0 ≤ n → n < 256 ^ k → leN (leB k n) = n
  | 0, n, h0, h1 => by simp only [Int.pow_zero] at h1; simp only [leB, leN]; omega
  | k + 1, n, h0, h1 => by
    rw [Int.pow_succ] at h1
    have h2 := leN_leB k (n / 256) (by omega) (Int.ediv_lt_of_lt_mul (by omega) h1)
    simp only [leB, leN, h2, b8_toNat h0]
    omega

def extB (x : Ext) : Bytes := leB 4 x.seq ++ leB 2 x.len

theorem extB_len (x : Ext) : (extB x).length = 6 := by simp [extB, leB_len]

theorem fold_ext (l : List Ext) (b : Bytes) : l.foldl tbX b = b ++ l.flatMap extB := by
  induction l generalizing b with
  | nil => simp
  | cons x l ih => rw [List.foldl_cons, ih]; simp [tbX, extB, List.append_assoc]

theorem tbody_eq (t : Tab) : tbody t = leB 4 t.gen ++ (b8 (t.exts.length : Int) :: b8 (t.opn + 1) :: t.exts.flatMap extB) := by
  unfold tbody
  rw [fold_ext, tb0_eq]; simp

theorem putT_eq {t : Tab} (h : RightP t) : putT t = cbody (tbody t) ++ f4 (sumOf t.gen 255 (cbody (tbody t))) := by
  unfold putT
  rw [if_pos ((right_iff t).2 h)]
  unfold cput
  rw [if_pos ⟨by unfold rightC; exact decide_eq_true ⟨h.g1, h.g2, by decide, by decide⟩, by rw [tbody_len]; have := h.n2; omega⟩]

theorem putT_shape {t : Tab} (h : RightP t) : ∃ R, putT t = b8 (6 + 6 * (t.exts.length : Int)) :: (leB 4 t.gen ++ (b8 (t.exts.length : Int) :: b8 (t.opn + 1) :: (t.exts.flatMap extB ++ R))) := by
  rw [putT_eq h]
  have e : ((tbody t).length : Int) = 6 + 6 * (t.exts.length : Int) := by rw [tbody_len]; omega
  unfold cbody
  rw [e, tbody_eq]
  exact ⟨_, by simp only [List.cons_append, List.append_assoc]; rfl⟩

theorem drp_shape {h : UInt8} {g : Int} {b1 b2 : UInt8} {l : List Ext} {R : Bytes} : ∀ x, x ≤ l.length → drp (h :: (leB 4 g ++ (b1 :: b2 :: (l.flatMap extB ++ R)))) x = (l.drop x).flatMap extB ++ R
  | 0, _ => by
    unfold drp
    rw [List.drop_succ_cons, List.drop_zero, List.drop_left' (leB_len 4 g)]
    rfl
  | x + 1, hx => by
    rw [drp, drp_shape x (by omega), List.drop_drop]
    obtain ⟨q, hq⟩ : ∃ q, l[x]? = some q := get_ex (by omega)
    obtain ⟨h1, h2⟩ := List.getElem?_eq_some_iff.1 hq
    rw [List.drop_eq_getElem_cons h1, h2, List.flatMap_cons, List.append_assoc, List.drop_left' (extB_len q)]

theorem get_put {t : Tab} (h : RightP t) : parT (putT t) = t := by
  obtain ⟨R, hR⟩ := putT_shape h
  have h1 := h.n1
  have h2 := h.n2
  have h3 := h.o1
  have h4 := h.o2
  have hc : cntOf (putT t) = t.exts.length := by
    unfold cntOf
    rw [hR, List.drop_succ_cons, List.drop_zero, List.drop_left' (leB_len 4 t.gen)]
    show leN [b8 (t.exts.length : Int)] = _
    simp only [leN, b8_toNat (show (0 : Int) ≤ t.exts.length by omega)]
    omega
  have hk : (min (cntOf (putT t)) 8).toNat = t.exts.length := by rw [hc]; omega
  unfold parT
  rw [hk]
  have hg : (parN (putT t) t.exts.length).gen = t.gen := by
    rw [parN_gen, hR, List.drop_succ_cons, List.drop_zero, List.take_left' (leB_len 4 t.gen)]
    exact leN_leB 4 _ (by have := h.g1; omega) (by have := h.g2; show _ < (4294967296 : Int); omega)
  have ho : (parN (putT t) t.exts.length).opn = t.opn := by
    rw [parN_opn, hR, List.drop_succ_cons, List.drop_zero, List.drop_left' (leB_len 4 t.gen), List.drop_succ_cons, List.drop_zero]
    show leN [b8 (t.opn + 1)] - 1 = _
    simp only [leN, b8_toNat (show (0 : Int) ≤ t.opn + 1 by omega)]
    omega
  have he : (parN (putT t) t.exts.length).exts = t.exts := by
    apply List.ext_getElem?
    intro i
    unfold parN
    simp only [List.getElem?_map]
    rcases Nat.lt_or_ge i t.exts.length with hi | hi
    · rw [List.getElem?_range hi]
      obtain ⟨q, hq⟩ : ∃ q, t.exts[i]? = some q := get_ex hi
      obtain ⟨hi1, hi2⟩ := List.getElem?_eq_some_iff.1 hq
      rw [hq]
      have hok := q.ok_iff.1 (h.ok _ (List.mem_of_getElem? hq))
      simp only [Option.map_some, Option.some.injEq]
      unfold extAt
      rw [hR, drp_shape i (by omega), List.drop_eq_getElem_cons hi1, hi2, List.flatMap_cons]
      unfold extB
      rw [List.append_assoc, List.append_assoc, List.take_left' (leB_len 4 _), List.drop_left' (leB_len 4 _), List.take_left' (leB_len 2 _), leN_leB 4 _ hok.1 (by show _ < (4294967296 : Int); omega), leN_leB 2 _ hok.2.2.1 (by show _ < (65536 : Int); omega)]
    · rw [List.getElem?_eq_none (by simp; omega), List.getElem?_eq_none hi]; rfl
  generalize parN (putT t) t.exts.length = p at hg ho he
  cases p; cases t; simp_all

theorem getB_put {t : Tab} (h : RightP t) : getB (putT t) = true := getB_ok (putT_len ((right_iff t).2 h)) (by rw [get_put h])

theorem getT_put {t : Tab} (h : RightP t) : getT (putT t) = t := by rw [getT_yes (getB_put h), get_put h]

theorem getB_right {l : Bytes} (h : getB l = true) : l.length = 64 ∧ putT (getT l) = l ∧ RightP (getT l) := by
  have h1 := getT_yes h
  unfold getB at h
  simp only [Bool.and_eq_true, decide_eq_true_eq] at h
  refine ⟨h.1, by rw [h1]; exact h.2, ?_⟩
  rw [h1]
  cases h3 : rightB (parT l) with
  | true => exact (right_iff _).1 h3
  | false =>
    have h4 := h.2
    unfold putT at h4
    rw [if_neg (by rw [h3]; decide)] at h4
    rw [← h4] at h
    exact absurd h.1 (by decide)

theorem put_bad {t : Tab} (h : rightB t = false) : putT t = [] := by unfold putT; rw [if_neg (by rw [h]; decide)]

/-! ### One -/

def oneT : Tab := ⟨3, 2, [⟨5, 300⟩, ⟨0, 0⟩, ⟨6, 0⟩, ⟨0, 0⟩]⟩

theorem one_right : rightB oneT = true := by decide +kernel

theorem oneP : RightP oneT := (right_iff oneT).1 one_right

theorem zeros_bad : getB (List.replicate 64 0) = false := by
  apply getB_bad
  intro h
  have h2 : rightB (parT (List.replicate 64 0)) = false := by decide +kernel
  rw [put_bad h2] at h
  exact absurd (congrArg List.length h) (by decide)

theorem none_bad : rightB ⟨0, 0, []⟩ = false := by decide +kernel

theorem rdc_nil {α : Type} (e : Enc α) {w0 : World} {L0 lc F : List Res} : RdC w0 L0 lc F none e ([] : List α) := ⟨fun w hT => ⟨Sl.empty none rfl w, fun h => absurd rfl h⟩⟩

theorem getT_len (l : Bytes) : (getT l).exts.length ≤ 9223372036854775807 := by
  cases h : getB l with
  | true => have := (getB_right h).2.2.n2; omega
  | false => rw [getT_no h]; decide

theorem putT_cases (t : Tab) : (rightB t = true ∧ RightP t ∧ (putT t).length = 64) ∨ (rightB t = false ∧ (putT t).length = 0) := by
  cases h : rightB t with
  | true => exact Or.inl ⟨rfl, (right_iff t).1 h, putT_len h⟩
  | false => exact Or.inr ⟨rfl, by rw [put_bad h]; rfl⟩

/- turntable/turntablelaw09.One -/
set_option maxHeartbeats 1000000 in
set_option maxRecDepth 100000 in
theorem one_con {w : World} :
    Calls Tryz.prog 26 #[] w fun e w' => ∃ a' : Option Addr, ∃ c' : Nat, e = .returned (.agg (tabC oneT a' c').toArray) ∧ Tr w [] w' [trow a' c' 82 encX oneT.exts] := by
  refine K.enter0 (args := []) Tryz.func26 rfl Tryz.ntmps26 rfl ?_
  refine K.GC.seq ?_
  refine K.GC.region ?_
  refine K.GL.alloc Tryz.zeroValue31 rfl rfl (fun b0 => ?_)
  refine K.GL.nil ?_
  refine K.GQ.go ?_
  refine K.GC.seq ?_
  refine K.GC.region ?_
  refine K.GL.det (K.e_build lay82 rfl) rfl ?_
  refine K.GL.det (K.e_build lay82 rfl) rfl ?_
  refine K.GL.det (K.e_build lay82 rfl) rfl ?_
  refine K.GL.det (K.e_build lay82 rfl) rfl ?_
  refine K.GL.buildT encX oneT.exts mk29 rfl rfl rfl rfl rfl (fun b5 => ?_)
  refine K.GL.det (K.e_build lay31 rfl) rfl ?_
  refine K.GL.storeP (vs := tabC oneT (some ⟨b5, 0, none⟩) oneT.exts.length) (cs' := tabC oneT (some ⟨b5, 0, none⟩) oneT.exts.length) rfl rfl rfl Tryz.sizeOf31 rfl rfl (by exact spliceO_all rfl) ?_
  refine K.GL.nil ?_
  refine K.GQ.go ?_
  refine K.GC.ret ?_
  refine K.GQ.retc Tryz.results26 Tryz.isAgg31 Tryz.sizeOf31 rfl rfl (fun w hT => ?_)
  exact ⟨some ⟨b5, 0, none⟩, oneT.exts.length, rfl, hT.sub K.sb⟩
section
variable {ops : Array Oper} {Q : Exit → Act → World → Prop} {N : Nat} {U : Env} {w0 : World} {L0 L F : List Res} {ty : TypeId} {rest : List Oper} {pos : String} {after : Array Edge} {xs : List Operand} {tys : Array TypeId} {dT : Tmp}
theorem gl_one_con (hf : ∀ args w, (callFunc 26 args).run Tryz.prog w = .ok (.enter 26 args) w) (hx : opvs U xs = some []) (hd : Nat.ble (dT + 1) N = true)
    (hr : ∀ (a' : Option Addr) (c' : Nat), GL Tryz.prog ops Q rest N ((dT, .agg (tabC oneT a' c').toArray) :: U) w0 L0 (trow a' c' 82 encX oneT.exts :: L)) : GL Tryz.prog ops Q (⟨some dT, .call ⟨.value (.func 26), xs.toArray, tys⟩, ty, pos, after, Option.none⟩ :: rest) N U w0 L0 L :=
  GL.callM (α := (Option Addr) × (Nat)) (l := []) (Pv := fun y v => v = .agg (tabC oneT y.1 y.2).toArray) (l' := fun y => [trow y.1 y.2 82 encX oneT.exts]) hf hx (Sub.refl _)
    (fun w hT => by
      exact (one_con ).mono fun e w' ⟨a', c', h1, h2⟩ => ⟨(a', c'), _, h1, rfl, h2⟩) hd fun y v hv => by subst hv; exact hr y.1 y.2 
end
section
variable {ops : Array Oper} {Q : Exit → Act → World → Prop} {N : Nat} {U : Env} {w0 : World} {L0 L F : List Res} {ty : TypeId} {rest : List Oper} {pos : String} {after : Array Edge} {xs : List Operand} {tys : Array TypeId} {dT : Tmp}
end
end Go.Proofs.YtdbedajaapamhaaGreat
