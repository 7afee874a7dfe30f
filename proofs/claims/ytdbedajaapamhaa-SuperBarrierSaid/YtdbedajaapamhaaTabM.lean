/- The order of what a table names, by the reference. -/
import Derived.Test.YtdbedajaapamhaaTabL
namespace Go.Proofs.Ytdbedajaapamhaa
open Go Go.K
set_option linter.unusedVariables false
set_option linter.unusedSimpArgs false
attribute [local irreducible] Calls Ev GL GC GQ GR Code.wp
theorem run_eqX (w : World) (x y : Ext) : (Op.equalIn 10000 62 (.agg (encX.f x).toArray) (.agg (encX.f y).toArray)).run Try.prog w = .ok (decide (x = y)) w := by
  have hF : ∃ fs, Try.prog.underlying 62 = some (.struct fs) ∧ Try.prog.fieldsOf 62 = fs := ⟨_, Try.underlying62, by simp only [Program.fieldsOf, Try.underlying62]⟩
  obtain ⟨fs, h1, h2⟩ := hF
  rw [run_equalIn_agg w 9999 62 _ _ (by rw [h2]; exact h1) (by kernel_rfl)]
  rw [h2]
  rw [Try.underlying62] at h1
  simp only [Option.some.injEq, TypeDesc.struct.injEq] at h1
  subst h1
  show (Op.eqFields (9998 + 1) (encX.f x).toArray (encX.f y).toArray (_ :: _ :: [])).run _ _ = _
  rw [eqF_int (by decide) Try.isAgg2 Try.underlying2 rfl rfl, eqF_int (by decide) Try.isAgg3 Try.underlying3 rfl rfl]
  have e : (Op.eqFields 9999 (encX.f x).toArray (encX.f y).toArray []).run Try.prog w = .ok true w := rfl
  have e2 := e
  simp only [Op.eqFields, Sem.run_pure]
  obtain ⟨s1, l1⟩ := x
  obtain ⟨s2, l2⟩ := y
  by_cases h1 : s1 = s2
  · rw [if_pos h1]
    by_cases h2 : l1 = l2
    · rw [if_pos h2]; subst h1 h2; rw [decide_eq_true rfl]
    · rw [if_neg h2, decide_eq_false]; intro h; cases h; exact h2 rfl
  · rw [if_neg h1, decide_eq_false]; intro h; cases h; exact h1 rfl
theorem plc_take {p : Ext → Bool} {l : List Ext} {x : Nat} {q : Ext} (h : l[x]? = some q) : plc p (l.take (x + 1)) = plc p (l.take x) ++ (if p q then [(x : Int)] else []) := by
  rw [take_one h, plc_snoc]
  have := len_of h
  rw [List.length_take, Nat.min_eq_left (by omega)]
theorem sqAt_nat {l : List Ext} {j : Nat} {q : Ext} (h : l[j]? = some q) : sqAt l (j : Int) = q.seq := by unfold sqAt; rw [Int.toNat_natCast, h]; rfl
/-- What stands in order is the order. -/
theorem ord_uniq {t : Tab} (hR : RightP t) {acc : List Int} (hp : acc.Perm (plc Ext.used t.exts)) (hs : acc.Pairwise fun i j => sqAt t.exts i ≤ sqAt t.exts j) : acc = ordA t := by
  have hpo := hp.trans (ordA_perm t).symm
  refine List.Perm.eq_of_pairwise (le := fun i j => sqAt t.exts i ≤ sqAt t.exts j) (fun a b ha hb h1 h2 => ?_) hs (ordA_sorted t) hpo
  exact seqs_inj hR (hp.mem_iff.1 ha) ((ordA_perm t).mem_iff.1 hb) (by omega)
theorem ins_sorted {t : Tab} {acc : List Int} {y x : Nat} {q : Ext} (hq : t.exts[x]? = some q) (hs : acc.Pairwise fun i j => sqAt t.exts i ≤ sqAt t.exts j) (hy : y ≤ acc.length) (hhi : ∀ (j : Nat) i, y ≤ j → acc[j]? = some i → q.seq < sqAt t.exts i)
    (hlo : y = 0 ∨ ∃ i, acc[y - 1]? = some i ∧ sqAt t.exts i ≤ q.seq) : (acc.take y ++ [(x : Int)] ++ acc.drop y).Pairwise fun i j => sqAt t.exts i ≤ sqAt t.exts j := by
  have hx := sqAt_nat hq
  have h0 := hs
  rw [← List.take_append_drop y acc, List.pairwise_append] at h0
  obtain ⟨h1, h2, h3⟩ := h0
  rw [List.append_assoc, List.pairwise_append, List.singleton_append, List.pairwise_cons]
  have ha : ∀ a ∈ acc.take y, sqAt t.exts a ≤ q.seq := fun a ha => by
    obtain ⟨j, hj⟩ := List.getElem?_of_mem ha
    have hjl := len_of hj
    rw [List.length_take] at hjl
    rw [List.getElem?_take_of_lt (by omega)] at hj
    rcases hlo with rfl | ⟨i, hi, hi2⟩
    · omega
    · rcases Nat.lt_or_ge j (y - 1) with h | h
      · have hjl2 := len_of hj
        have hil2 := len_of hi
        have h5 := List.pairwise_iff_getElem.1 hs j (y - 1) hjl2 hil2 h
        rw [(List.getElem?_eq_some_iff.1 hj).2, (List.getElem?_eq_some_iff.1 hi).2] at h5
        omega
      · obtain rfl : j = y - 1 := by omega
        rw [hi] at hj; cases hj; exact hi2
  have hb : ∀ b ∈ acc.drop y, q.seq < sqAt t.exts b := fun b hb => by
    obtain ⟨j, hj⟩ := List.getElem?_of_mem hb
    rw [List.getElem?_drop] at hj
    exact hhi _ b (by omega) hj
  refine ⟨h1, ⟨fun b hb2 => by have := hb b hb2; omega, h2⟩, fun a ha2 b hb2 => ?_⟩
  rcases List.mem_cons.1 hb2 with rfl | hb2
  · have := ha a ha2; omega
  · have := ha a ha2; have := hb b hb2; omega
theorem ins_perm {acc : List Int} {y : Nat} {v : Int} : (acc.take y ++ [v] ++ acc.drop y).Perm (acc ++ [v]) := by
  have h : (acc.take y ++ acc.drop y ++ [v]).Perm (acc ++ [v]) := by rw [List.take_append_drop]
  refine List.Perm.trans ?_ h
  rw [List.append_assoc, List.append_assoc]
  exact List.Perm.append_left _ List.perm_append_comm
def mxs (l : List Ext) : Int := l.foldl (fun m e => max m e.seq) 0
theorem mxs_next {l : List Ext} {x : Nat} {q : Ext} (h : l[x]? = some q) : mxs (l.take (x + 1)) = max (mxs (l.take x)) q.seq := by
  unfold mxs; rw [take_one h, List.foldl_append]; rfl
theorem mxs_snoc (l : List Ext) (q : Ext) : mxs (l ++ [q]) = max (mxs l) q.seq := by unfold mxs; rw [List.foldl_append]; rfl
theorem mxs_ge : ∀ (l : List Ext) (e : Ext), e ∈ l → e.seq ≤ mxs l := by
  intro l
  refine snocRec (p := fun l => ∀ e ∈ l, e.seq ≤ mxs l) (fun e he => by cases he) (fun l x ih e he => ?_) l
  rw [mxs_snoc]
  rcases List.mem_append.1 he with h | h
  · have := ih e h; omega
  · simp only [List.mem_singleton] at h; subst h; omega
theorem mxs_at (l : List Ext) : mxs l = 0 ∨ ∃ e ∈ l, e.seq = mxs l := by
  refine snocRec (p := fun l => mxs l = 0 ∨ ∃ e ∈ l, e.seq = mxs l) (Or.inl rfl) (fun l x ih => ?_) l
  rw [mxs_snoc]
  rcases Int.le_total (mxs l) x.seq with h | h
  · exact Or.inr ⟨x, by simp, by omega⟩
  · rcases ih with h1 | ⟨e, he, h1⟩
    · left; omega
    · exact Or.inr ⟨e, by simp [he], by omega⟩
theorem mxs_nonneg (l : List Ext) : 0 ≤ mxs l := by
  refine snocRec (p := fun l => 0 ≤ mxs l) (by decide) (fun l x ih => ?_) l
  rw [mxs_snoc]; omega
theorem last_mxs {t : Tab} (hR : RightP t) : lastT t = mxs t.exts := by
  have hor : ordT t = ordA t := by unfold ordT; rw [if_pos ((right_iff t).2 hR)]
  rcases Nat.eq_zero_or_pos (ordT t).length with h0 | h0
  · rw [last_none h0]
    rcases mxs_at t.exts with h | ⟨e, he, h1⟩
    · exact h.symm
    · rcases Int.lt_or_le 0 (mxs t.exts) with h2 | h2
      · exfalso
        obtain ⟨j, hj⟩ := List.getElem?_of_mem he
        have : (j : Int) ∈ plc Ext.used t.exts := plc_mem.2 ⟨j, rfl, e, hj, by unfold Ext.used; exact decide_eq_true (by omega)⟩
        rw [hor, ordA_len] at h0
        rw [List.length_eq_zero_iff.1 h0] at this
        cases this
      · have := mxs_nonneg t.exts; omega
  · obtain ⟨i, j, x, hi, hij, hx, hl⟩ := last_at (t := t) (by omega)
    rw [hl]
    have h1 := mxs_ge _ _ (List.mem_of_getElem? hx)
    rcases mxs_at t.exts with h | ⟨e, he, h2⟩
    · have := (Ext.ok_iff x).1 (hR.ok _ (List.mem_of_getElem? hx)); omega
    · rcases Int.lt_or_le 0 (mxs t.exts) with h3 | h3
      · obtain ⟨k, hk⟩ := List.getElem?_of_mem he
        have hm : (k : Int) ∈ plc Ext.used t.exts := plc_mem.2 ⟨k, rfl, e, hk, by unfold Ext.used; exact decide_eq_true (by omega)⟩
        have hm2 : (k : Int) ∈ ordT t := by rw [hor]; exact (ordA_perm t).mem_iff.2 hm
        obtain ⟨m, hm3⟩ := List.getElem?_of_mem hm2
        have hml := len_of hm3
        have hs := ordA_sorted t
        rw [← hor] at hs
        rcases Nat.lt_or_ge m ((ordT t).length - 1) with h4 | h4
        · have h5 := List.pairwise_iff_getElem.1 hs m _ hml (by omega) h4
          rw [(List.getElem?_eq_some_iff.1 hm3).2, (List.getElem?_eq_some_iff.1 hi).2, hij, sqAt_nat hk, sqAt_nat hx] at h5
          omega
        · obtain rfl : m = (ordT t).length - 1 := by omega
          rw [hi] at hm3
          have : j = k := by cases hm3; omega
          subst this
          rw [hx] at hk; cases hk; omega
      · have := (Ext.ok_iff x).1 (hR.ok _ (List.mem_of_getElem? hx))
        have := mxs_nonneg t.exts
        omega
theorem last_bad {t : Tab} (h : rightB t = false) : lastT t = 0 := by
  unfold lastT ordT
  rw [if_neg (by rw [h]; decide)]; rfl
theorem ins_at {t : Tab} {acc : List Int} {y x : Nat} (hp : acc.Perm (plc Ext.used (t.exts.take x))) (hy : y ≤ acc.length) : y = 0 ∨ ∃ (k j : Nat) (q : Ext), y = k + 1 ∧ acc[k]? = some (j : Int) ∧ t.exts[j]? = some q ∧ j < t.exts.length := by
  cases y with
  | zero => exact Or.inl rfl
  | succ k =>
    obtain ⟨i, hi⟩ : ∃ i, acc[k]? = some i := get_ex (by omega)
    obtain ⟨j, rfl, q, hj, _⟩ := plc_mem.1 (hp.mem_iff.1 (List.mem_of_getElem? hi))
    have hjl := len_of hj
    rw [List.length_take] at hjl
    rw [List.getElem?_take_of_lt (by omega)] at hj
    exact Or.inr ⟨k, j, q, rfl, hi, hj, len_of hj⟩

/- turntable/turntableref09.Last -/
set_option maxHeartbeats 4000000 in
set_option maxRecDepth 100000 in
theorem rtlast_con {t : Tab} {a : Option Addr} {c : Nat} {w : World} (hl : t.exts.length ≤ 9223372036854775807) [Old w [] a (encX) (t.exts)] :
    Calls Try.prog 38 #[.agg (tabC t a c).toArray] w fun e w' => e = .returned (.int .i64 (lastT t)) ∧ Tr w [] w' [] := by
  refine K.enter0 (args := [_]) Try.func38 rfl Try.ntmps38 rfl ?_
  refine K.GC.seq ?_
  refine K.GC.region ?_
  refine K.GL.box rfl rfl rfl (fun b1 => ?_)
  refine K.GL.det (K.e_assign rfl) rfl ?_
  refine K.GL.nil ?_
  refine K.GQ.go ?_
  refine K.GC.seq ?_
  refine K.GC.region ?_
  refine K.GL.det (K.e_assign rfl) rfl ?_
  refine K.GL.nil ?_
  refine K.GQ.go ?_
  refine K.GC.seq ?_
  refine K.GC.seq ?_
  refine K.GC.region ?_
  refine K.GL.det (K.e_assign rfl) rfl ?_
  refine K.GL.nil ?_
  refine K.GQ.go ?_
  refine K.GC.block ?_
  refine K.GC.loopk (α := Nat) [1, 2, 24] rfl (fun x => [(3, .int .i64 (mxs (t.exts.take x))), (4, .int .i64 (x : Int))]) (fun x => [cl b1 29 (tabC t a c)]) (fun x => x ≤ t.exts.length ∧ (x = 0 ∨ rightB t = true)) (fun x => (t.exts.length - x)) 0 ⟨Nat.zero_le _, Or.inl rfl⟩ (by first | ((repeat refine ⟨rfl, ?_⟩); exact trivial) | (simp only [List.take_zero, List.map_nil, List.flatMap_nil, List.append_nil]; (repeat refine ⟨rfl, ?_⟩); exact trivial)) (by first | exact K.sb | (dsimp only; exact K.sb) | (simp only [List.take_zero, List.map_nil, List.flatMap_nil, List.append_nil]; exact K.sb) | exact K.Sub.refl _) (fun x hI => ?_)
  obtain ⟨hI, hI2⟩ := hI
  refine K.GC.seq ?_
  refine K.GC.seq ?_
  refine K.GC.region ?_
  refine K.GL.det (K.e_move rfl) rfl ?_
  first | refine K.GL.det (K.e_fa fo29_2 rfl) rfl ?_ | refine K.GL.det (K.e_fieldAddr fo29_2 rfl) rfl ?_
  first | refine K.GL.det (K.e_ldE Try.isAgg27 rfl rfl (by assumption) rfl) rfl ?_ | refine K.GL.det (K.e_ldF Try.isAgg27 rfl rfl (by assumption) rfl) rfl ?_ | refine K.GL.det (K.e_load Try.isAgg27 rfl rfl) rfl ?_ | refine K.GL.det (K.e_load0 Try.isAgg27 rfl (by assumption)) rfl ?_
  refine K.GL.det (K.e_len Try.underlying27 rfl) rfl ?_
  first | refine K.GL.det ((K.e_lt rfl rfl).yes (by first | omega | assumption | decide +kernel)) rfl ?_ | refine K.GL.det ((K.e_lt rfl rfl).no (by first | omega | assumption | decide +kernel)) rfl ?_ | refine K.GL.det (K.e_lt rfl rfl) rfl ?_
  refine K.GL.det (K.e_move rfl) rfl ?_
  first | refine K.GL.splitB 10 rfl (fun h1 => ?_) (fun h1 => ?_) | skip
  all_goals first | exact absurd h1 (by decide) | replace h1 := of_decide_eq_true h1 | replace h1 := of_decide_eq_false h1 | skip
  all_goals
    first | (refine K.GL.want 10 rfl rfl rfl ?_; first | refine K.GL.det (K.e_ldA Try.isAgg29 Try.sizeOf29 rfl rfl (by assumption)) rfl ?_ | refine K.GL.det (K.e_ldAF Try.isAgg29 Try.sizeOf29 rfl rfl (by assumption) rfl) rfl ?_ | refine K.GL.det (K.e_loads Try.isAgg29 Try.sizeOf29 rfl rfl) rfl ?_) | refine K.GL.skip 10 rfl rfl rfl rfl ?_ | refine K.GL.skipU 10 rfl rfl rfl rfl ?_
    first | (refine K.GL.want 10 rfl rfl rfl ?_; first | refine K.GL.det (ev_rright_con Try.call30 rfl (by first | assumption | omega | rfl | decide)) rfl ?_) | refine K.GL.skip 10 rfl rfl rfl rfl ?_ | refine K.GL.skipU 10 rfl rfl rfl rfl ?_
    first | refine K.GL.det (K.e_pick_t rfl rfl) rfl ?_ | refine K.GL.det (K.e_pick_f rfl rfl) rfl ?_
    refine K.GL.nil ?_
    refine K.GQ.go ?_
    refine K.GC.condB rfl (fun h2 => ?_) (fun h2 => ?_)
    · first
      | exact absurd h2 (by decide)
      | try replace h2 := of_decide_eq_true h2
        refine K.GC.skip ?_
        refine K.GQ.go ?_
        refine K.GC.seq ?_
        refine K.GC.block ?_
        have hR8 : t.exts.length ≤ 8 := ((right_iff t).1 (by assumption)).n2
        obtain ⟨q, hq⟩ : ∃ q, t.exts[x]? = some q := get_ex (by omega)
        refine K.GC.region ?_
        refine K.GL.det (K.e_move rfl) rfl ?_
        first | refine K.GL.det (K.e_fa fo29_2 rfl) rfl ?_ | refine K.GL.det (K.e_fieldAddr fo29_2 rfl) rfl ?_
        first | refine K.GL.det (K.e_ldE Try.isAgg27 rfl rfl (by assumption) rfl) rfl ?_ | refine K.GL.det (K.e_ldF Try.isAgg27 rfl rfl (by assumption) rfl) rfl ?_ | refine K.GL.det (K.e_load Try.isAgg27 rfl rfl) rfl ?_ | refine K.GL.det (K.e_load0 Try.isAgg27 rfl (by assumption)) rfl ?_
        refine K.GL.det (K.e_move rfl) rfl ?_
        first | refine K.GL.ixK sl27 rfl rfl rfl rfl (by assumption) rfl ?_ | refine K.GL.ix sl27 rfl rfl rfl rfl (by omega) rfl (fun q20 hq20 => ?_) | refine K.GL.ixI sl27 rfl rfl rfl rfl (by omega) (by omega) rfl (fun q20 hq20 => ?_) | refine K.GL.det (K.e_indexAddrS sl27 rfl rfl (by assumption) (by omega) (by omega)) rfl ?_ | refine K.GL.det (K.e_indexAddr sl27 rfl rfl (by omega) (by omega)) rfl ?_
        first | refine K.GL.det (K.e_fa fo62_0 rfl) rfl ?_ | refine K.GL.det (K.e_fieldAddr fo62_0 rfl) rfl ?_
        first | refine K.GL.det (K.e_ldE Try.isAgg2 rfl rfl (by assumption) rfl) rfl ?_ | refine K.GL.det (K.e_ldF Try.isAgg2 rfl rfl (by assumption) rfl) rfl ?_ | refine K.GL.det (K.e_load Try.isAgg2 rfl rfl) rfl ?_ | refine K.GL.det (K.e_load0 Try.isAgg2 rfl (by assumption)) rfl ?_
        refine K.GL.det (K.e_max rfl rfl) rfl ?_
        refine K.GL.det (K.e_assign rfl) rfl ?_
        refine K.GL.nil ?_
        refine K.GQ.block_normal ?_
        refine K.GQ.go ?_
        refine K.GC.region ?_
        refine K.GL.det (K.e_move rfl) rfl ?_
        first | refine K.GL.det (K.e_add rfl rfl ⟨by omega, by omega⟩) rfl ?_ | refine K.GL.det (K.e_addw rfl rfl) rfl ?_
        refine K.GL.det (K.e_assign rfl) rfl ?_
        refine K.GL.nil ?_
        exact K.GQ.round (x + 1) ⟨by omega, Or.inr (by assumption)⟩ (by omega) (by simp only [mxs_next hq]; (repeat refine ⟨rfl, ?_⟩); exact trivial) (by first | exact K.sb | (dsimp only; exact K.sb))
    · first
      | exact absurd h2 (by decide)
      | try replace h2 := of_decide_eq_false h2
        refine K.GC.exit ?_
        refine K.GQ.then_exit ?_
        refine K.GQ.then_exit ?_
        refine K.GQ.block_hit ?_
        refine K.GQ.go ?_
        refine K.GC.seq ?_
        refine K.GC.region ?_
        refine K.GL.det (K.e_move rfl) rfl ?_
        refine K.GL.det (K.e_assign rfl) rfl ?_
        refine K.GL.nil ?_
        refine K.GQ.go ?_
        refine K.GC.ret ?_
        refine K.GQ.ret1 Try.results38 rfl (fun w hT => ?_)
        cases hR : rightB t with
        | true =>
          have hx : x = t.exts.length := by first | omega | (exfalso; simp_all; done)
          subst hx
          exact ⟨by rw [last_mxs ((right_iff t).1 hR), List.take_length], hT.nil⟩
        | false =>
          obtain rfl : x = 0 := hI2.resolve_right (by rw [hR]; decide)
          exact ⟨by rw [last_bad hR]; rfl, hT.nil⟩
section
variable {ops : Array Oper} {Q : Exit → Act → World → Prop} {N : Nat} {U : Env} {w0 : World} {L0 L F : List Res} {ty : TypeId} {rest : List Oper} {pos : String} {after : Array Edge} {xs : List Operand} {tys : Array TypeId} {dT : Tmp}
theorem ev_rtlast_con {t : Tab} {a : Option Addr} {c : Nat} (hf : ∀ args w, (callFunc 38 args).run Try.prog w = .ok (.enter 38 args) w) (hx : opvs U xs = some [.agg (tabC t a c).toArray]) (hl : t.exts.length ≤ 9223372036854775807) [o0 : RdC w0 L0 [] L a (encX) (t.exts)] : Ev Try.prog U w0 L0 L (.call ⟨.value (.func 38), xs.toArray, tys⟩) ty (Is (.int .i64 (lastT t))) No :=
  K.e_call1 hf hx (fun w hT => by have _o0 := o0.out w hT; exact rtlast_con hl)
end
/- turntable/turntableref09.Free -/
set_option maxHeartbeats 4000000 in
set_option maxRecDepth 100000 in
theorem rtfree_con {t : Tab} {a : Option Addr} {c : Nat} {w : World} (hl : t.exts.length ≤ 9223372036854775807) [Old w [] a (encX) (t.exts)] :
    Calls Try.prog 36 #[.agg (tabC t a c).toArray] w fun e w' => ∃ a' : Option Addr, ∃ c' : Nat, e = .returned (.slice a' (freeT t).length c') ∧ Tr w [] w' [trow a' c' 3 I6 (freeT t)] := by
  refine K.enter0 (args := [_]) Try.func36 rfl Try.ntmps36 rfl ?_
  refine K.GC.seq ?_
  refine K.GC.region ?_
  refine K.GL.box rfl rfl rfl (fun b1 => ?_)
  refine K.GL.det (K.e_assign rfl) rfl ?_
  refine K.GL.nil ?_
  refine K.GQ.go ?_
  refine K.GC.seq ?_
  refine K.GC.region ?_
  refine K.GL.det (K.e_assign rfl) rfl ?_
  refine K.GL.nil ?_
  refine K.GQ.go ?_
  refine K.GC.seq ?_
  refine K.GC.seq ?_
  refine K.GC.region ?_
  refine K.GL.det (K.e_assign rfl) rfl ?_
  refine K.GL.nil ?_
  refine K.GQ.go ?_
  refine K.GC.block ?_
  refine K.GC.trow0 3 I6 ?_
  refine K.GC.loopk (α := Nat × Option Addr × Nat) [1, 2, 27] rfl (fun x => [(3, .slice x.2.1 (plc Ext.free (t.exts.take x.1)).length x.2.2), (4, .int .i64 (x.1 : Int))]) (fun x => [trow x.2.1 x.2.2 3 I6 (plc Ext.free (t.exts.take x.1)), cl b1 29 (tabC t a c)]) (fun x => x.1 ≤ t.exts.length ∧ (x.1 = 0 ∨ rightB t = true)) (fun x => (t.exts.length - x.1)) (0, none, 0) ⟨Nat.zero_le _, Or.inl rfl⟩ (by first | ((repeat refine ⟨rfl, ?_⟩); exact trivial) | (simp only [List.take_zero, List.map_nil, List.flatMap_nil, List.append_nil]; (repeat refine ⟨rfl, ?_⟩); exact trivial)) (K.Sub.refl _) (fun x hI => ?_)
  obtain ⟨x, a1, c1⟩ := x
  simp only at hI ⊢
  obtain ⟨hI, hI2⟩ := hI
  have hpl := plc_len Ext.free (t.exts.take x)
  rw [List.length_take] at hpl
  refine K.GC.seq ?_
  refine K.GC.seq ?_
  refine K.GC.region ?_
  refine K.GL.det (K.e_move rfl) rfl ?_
  first | refine K.GL.det (K.e_fa fo29_2 rfl) rfl ?_ | refine K.GL.det (K.e_fieldAddr fo29_2 rfl) rfl ?_
  first | refine K.GL.det (K.e_ldE Try.isAgg27 rfl rfl (by assumption) rfl) rfl ?_ | refine K.GL.det (K.e_ldF Try.isAgg27 rfl rfl (by assumption) rfl) rfl ?_ | refine K.GL.det (K.e_load Try.isAgg27 rfl rfl) rfl ?_ | refine K.GL.det (K.e_load0 Try.isAgg27 rfl (by assumption)) rfl ?_
  refine K.GL.det (K.e_len Try.underlying27 rfl) rfl ?_
  first | refine K.GL.det ((K.e_lt rfl rfl).yes (by first | omega | assumption | decide +kernel)) rfl ?_ | refine K.GL.det ((K.e_lt rfl rfl).no (by first | omega | assumption | decide +kernel)) rfl ?_ | refine K.GL.det (K.e_lt rfl rfl) rfl ?_
  refine K.GL.det (K.e_move rfl) rfl ?_
  first | refine K.GL.splitB 10 rfl (fun h1 => ?_) (fun h1 => ?_) | skip
  all_goals first | exact absurd h1 (by decide) | replace h1 := of_decide_eq_true h1 | replace h1 := of_decide_eq_false h1 | skip
  all_goals
    first | (refine K.GL.want 10 rfl rfl rfl ?_; first | refine K.GL.det (K.e_ldA Try.isAgg29 Try.sizeOf29 rfl rfl (by assumption)) rfl ?_ | refine K.GL.det (K.e_ldAF Try.isAgg29 Try.sizeOf29 rfl rfl (by assumption) rfl) rfl ?_ | refine K.GL.det (K.e_loads Try.isAgg29 Try.sizeOf29 rfl rfl) rfl ?_) | refine K.GL.skip 10 rfl rfl rfl rfl ?_ | refine K.GL.skipU 10 rfl rfl rfl rfl ?_
    first | (refine K.GL.want 10 rfl rfl rfl ?_; first | refine K.GL.det (ev_rright_con Try.call30 rfl (by first | assumption | omega | rfl | decide)) rfl ?_) | refine K.GL.skip 10 rfl rfl rfl rfl ?_ | refine K.GL.skipU 10 rfl rfl rfl rfl ?_
    first | refine K.GL.det (K.e_pick_t rfl rfl) rfl ?_ | refine K.GL.det (K.e_pick_f rfl rfl) rfl ?_
    refine K.GL.nil ?_
    refine K.GQ.go ?_
    refine K.GC.condB rfl (fun h2 => ?_) (fun h2 => ?_)
    · first
      | exact absurd h2 (by decide)
      | try replace h2 := of_decide_eq_true h2
        refine K.GC.skip ?_
        refine K.GQ.go ?_
        refine K.GC.seq ?_
        refine K.GC.block ?_
        refine K.GC.seq ?_
        have hR8 : t.exts.length ≤ 8 := ((right_iff t).1 (by assumption)).n2
        obtain ⟨q, hq⟩ : ∃ q, t.exts[x]? = some q := get_ex (by omega)
        refine K.GC.region ?_
        first | refine K.GL.det (K.e_fa fo29_2 rfl) rfl ?_ | refine K.GL.det (K.e_fieldAddr fo29_2 rfl) rfl ?_
        first | refine K.GL.det (K.e_ldE Try.isAgg27 rfl rfl (by assumption) rfl) rfl ?_ | refine K.GL.det (K.e_ldF Try.isAgg27 rfl rfl (by assumption) rfl) rfl ?_ | refine K.GL.det (K.e_load Try.isAgg27 rfl rfl) rfl ?_ | refine K.GL.det (K.e_load0 Try.isAgg27 rfl (by assumption)) rfl ?_
        refine K.GL.det (K.e_move rfl) rfl ?_
        first | refine K.GL.ixK sl27 rfl rfl rfl rfl (by assumption) rfl ?_ | refine K.GL.ix sl27 rfl rfl rfl rfl (by omega) rfl (fun q19 hq19 => ?_) | refine K.GL.ixI sl27 rfl rfl rfl rfl (by omega) (by omega) rfl (fun q19 hq19 => ?_) | refine K.GL.det (K.e_indexAddrS sl27 rfl rfl (by assumption) (by omega) (by omega)) rfl ?_ | refine K.GL.det (K.e_indexAddr sl27 rfl rfl (by omega) (by omega)) rfl ?_
        first | refine K.GL.det (K.e_fa fo62_0 rfl) rfl ?_ | refine K.GL.det (K.e_fieldAddr fo62_0 rfl) rfl ?_
        first | refine K.GL.det (K.e_ldE Try.isAgg2 rfl rfl (by assumption) rfl) rfl ?_ | refine K.GL.det (K.e_ldF Try.isAgg2 rfl rfl (by assumption) rfl) rfl ?_ | refine K.GL.det (K.e_load Try.isAgg2 rfl rfl) rfl ?_ | refine K.GL.det (K.e_load0 Try.isAgg2 rfl (by assumption)) rfl ?_
        first | refine K.GL.det ((K.e_eq rfl rfl).yes (by first | omega | assumption | decide +kernel)) rfl ?_ | refine K.GL.det ((K.e_eq rfl rfl).no (by first | omega | assumption | decide +kernel)) rfl ?_ | refine K.GL.det (K.e_eq rfl rfl) rfl ?_
        refine K.GL.nil ?_
        refine K.GQ.go ?_
        refine K.GC.condB rfl (fun h3 => ?_) (fun h3 => ?_)
        · first
          | exact absurd h3 (by decide)
          | try replace h3 := of_decide_eq_true h3
            refine K.GC.region ?_
            refine K.GL.det (K.e_move rfl) rfl ?_
            refine K.GL.det (K.e_move rfl) rfl ?_
            refine K.GL.buildT (K.encI .i64) [_] mk56 rfl rfl rfl rfl rfl (fun b25 => ?_)
            first | refine K.GL.appendT mk56 rfl rfl rfl rfl rfl (by first | omega | (simp only [List.length_cons, List.length_nil, List.length_append]; omega)) (by first | omega | (simp only [List.length_cons, List.length_nil, List.length_append]; omega)) rfl (fun a26 c26 => ?_) | (refine K.GL.trow0 3 (K.encI .i64) ?_; refine K.GL.appendT mk56 rfl rfl rfl rfl rfl (by first | omega | (simp only [List.length_cons, List.length_nil, List.length_append]; omega)) (by first | omega | (simp only [List.length_cons, List.length_nil, List.length_append]; omega)) rfl (fun a26 c26 => ?_))
            refine K.GL.det (K.e_assign rfl) rfl ?_
            refine K.GL.nil ?_
            refine K.GQ.block_normal ?_
            refine K.GQ.go ?_
            refine K.GC.region ?_
            refine K.GL.det (K.e_move rfl) rfl ?_
            first | refine K.GL.det (K.e_add rfl rfl ⟨by omega, by omega⟩) rfl ?_ | refine K.GL.det (K.e_addw rfl rfl) rfl ?_
            refine K.GL.det (K.e_assign rfl) rfl ?_
            refine K.GL.nil ?_
            have htk := plc_take (p := Ext.free) hq
            first
              | (rw [if_pos (by unfold Ext.free; exact decide_eq_true (by assumption))] at htk
                 exact K.GQ.round (x + 1, a26, c26) ⟨by simp only; omega, Or.inr (by assumption)⟩ (by simp only; omega) (by simp only [htk]; (repeat refine ⟨rfl, ?_⟩); exact trivial) (by simp only [htk]; exact K.sb))
              | (rw [if_neg (by unfold Ext.free; rw [decide_eq_true_eq]; assumption), List.append_nil] at htk
                 exact K.GQ.round (x + 1, a1, c1) ⟨by simp only; omega, Or.inr (by assumption)⟩ (by simp only; omega) (by simp only [htk]; (repeat refine ⟨rfl, ?_⟩); exact trivial) (by simp only [htk]; exact K.sb))
        · first
          | exact absurd h3 (by decide)
          | try replace h3 := of_decide_eq_false h3
            refine K.GC.skip ?_
            refine K.GQ.block_normal ?_
            refine K.GQ.go ?_
            refine K.GC.region ?_
            refine K.GL.det (K.e_move rfl) rfl ?_
            first | refine K.GL.det (K.e_add rfl rfl ⟨by omega, by omega⟩) rfl ?_ | refine K.GL.det (K.e_addw rfl rfl) rfl ?_
            refine K.GL.det (K.e_assign rfl) rfl ?_
            refine K.GL.nil ?_
            have htk := plc_take (p := Ext.free) hq
            first
              | (rw [if_pos (by unfold Ext.free; exact decide_eq_true (by assumption))] at htk
                 exact K.GQ.round (x + 1, a26, c26) ⟨by simp only; omega, Or.inr (by assumption)⟩ (by simp only; omega) (by simp only [htk]; (repeat refine ⟨rfl, ?_⟩); exact trivial) (by simp only [htk]; exact K.sb))
              | (rw [if_neg (by unfold Ext.free; rw [decide_eq_true_eq]; assumption), List.append_nil] at htk
                 exact K.GQ.round (x + 1, a1, c1) ⟨by simp only; omega, Or.inr (by assumption)⟩ (by simp only; omega) (by simp only [htk]; (repeat refine ⟨rfl, ?_⟩); exact trivial) (by simp only [htk]; exact K.sb))
    · first
      | exact absurd h2 (by decide)
      | try replace h2 := of_decide_eq_false h2
        refine K.GC.exit ?_
        refine K.GQ.then_exit ?_
        refine K.GQ.then_exit ?_
        refine K.GQ.block_hit ?_
        refine K.GQ.go ?_
        refine K.GC.seq ?_
        refine K.GC.region ?_
        refine K.GL.det (K.e_move rfl) rfl ?_
        refine K.GL.det (K.e_assign rfl) rfl ?_
        refine K.GL.nil ?_
        refine K.GQ.go ?_
        refine K.GC.ret ?_
        refine K.GQ.ret1 Try.results36 rfl (fun w hT => ?_)
        cases hR : rightB t with
        | true =>
          have hx : x = t.exts.length := by first | omega | (exfalso; simp_all; done)
          subst hx
          have hp : freeT t = plc Ext.free t.exts := by unfold freeT; rw [if_pos hR]
          rw [List.take_length] at hT
          rw [hp]
          exact ⟨a1, c1, by rw [List.take_length], hT.sub K.sb⟩
        | false =>
          obtain rfl : x = 0 := hI2.resolve_right (by rw [hR]; decide)
          have hp : freeT t = [] := by unfold freeT; rw [if_neg (by rw [hR]; decide)]
          rw [hp]
          simp only [List.take_zero, plc_nil] at hT
          exact ⟨a1, c1, rfl, hT.sub K.sb⟩
section
variable {ops : Array Oper} {Q : Exit → Act → World → Prop} {N : Nat} {U : Env} {w0 : World} {L0 L F : List Res} {ty : TypeId} {rest : List Oper} {pos : String} {after : Array Edge} {xs : List Operand} {tys : Array TypeId} {dT : Tmp}
theorem gl_rtfree_con {t : Tab} {a : Option Addr} {c : Nat} (hf : ∀ args w, (callFunc 36 args).run Try.prog w = .ok (.enter 36 args) w) (hx : opvs U xs = some [.agg (tabC t a c).toArray]) (hl : t.exts.length ≤ 9223372036854775807) [o0 : RdC w0 L0 [] L a (encX) (t.exts)] (hd : Nat.ble (dT + 1) N = true)
    (hr : ∀ (a' : Option Addr) (c' : Nat), GL Try.prog ops Q rest N ((dT, .slice a' (freeT t).length c') :: U) w0 L0 (trow a' c' 3 I6 (freeT t) :: L)) : GL Try.prog ops Q (⟨some dT, .call ⟨.value (.func 36), xs.toArray, tys⟩, ty, pos, after, Option.none⟩ :: rest) N U w0 L0 L :=
  GL.callM (α := (Option Addr) × (Nat)) (l := []) (Pv := fun y v => v = .slice y.1 (freeT t).length y.2) (l' := fun y => [trow y.1 y.2 3 I6 (freeT t)]) hf hx (Sub.refl _)
    (fun w hT => by
      have _o0 := o0.out w hT; exact (rtfree_con hl).mono fun e w' ⟨a', c', h1, h2⟩ => ⟨(a', c'), _, h1, rfl, h2⟩) hd fun y v hv => by subst hv; exact hr y.1 y.2 
end
section
variable {ops : Array Oper} {Q : Exit → Act → World → Prop} {N : Nat} {U : Env} {w0 : World} {L0 L F : List Res} {ty : TypeId} {rest : List Oper} {pos : String} {after : Array Edge} {xs : List Operand} {tys : Array TypeId} {dT : Tmp}
theorem em_rtfree_con {t : Tab} {a : Option Addr} {c : Nat} (hf : ∀ args w, (callFunc 36 args).run Try.prog w = .ok (.enter 36 args) w) (hx : opvs U xs = some [.agg (tabC t a c).toArray]) (hl : t.exts.length ≤ 9223372036854775807) [o0 : RdC w0 L0 [] L a (encX) (t.exts)] : K.D.EvM Try.prog U w0 L0 L [] (.call ⟨.value (.func 36), xs.toArray, tys⟩) ty (fun g => .slice (g 0).1 (freeT t).length (g 0).2) (fun g => True) (fun g => trow (g 0).1 (g 0).2 3 I6 (freeT t)) :=
  K.D.em_call hf hx fun w hT => by
    have hT1 := hT; have _o0 := o0.out w hT1; exact (rtfree_con hl).mono fun e w' ⟨a', c', h1, h2⟩ => ⟨fun i => (a', c'), h1, trivial, h2⟩
end
/- turntable/turntableref09.Same -/
set_option maxHeartbeats 4000000 in
set_option maxRecDepth 100000 in
theorem rsame_con {t u : Tab} {a a2 : Option Addr} {c c2 : Nat} {w : World} (hl : t.exts.length ≤ 9223372036854775807) (hu : u.exts.length ≤ 9223372036854775807) [Old w [] a (encX) (t.exts)] [Old w [] a2 (encX) (u.exts)] :
    Calls Try.prog 18 #[.agg (tabC t a c).toArray, .agg (tabC u a2 c2).toArray] w fun e w' => e = .returned (.bool (decide (t = u))) ∧ Tr w [] w' [] := by
  refine K.enter0 (args := [_, _]) Try.func18 rfl Try.ntmps18 rfl ?_
  refine K.GC.seq ?_
  refine K.GC.region ?_
  refine K.GL.box rfl rfl rfl (fun b2 => ?_)
  refine K.GL.box rfl rfl rfl (fun b3 => ?_)
  refine K.GL.det (K.e_assign rfl) rfl ?_
  refine K.GL.nil ?_
  refine K.GQ.go ?_
  refine K.GC.seq ?_
  refine K.GC.seq ?_
  refine K.GC.region ?_
  first | refine K.GL.det (K.e_fa fo29_0 rfl) rfl ?_ | refine K.GL.det (K.e_fieldAddr fo29_0 rfl) rfl ?_
  first | refine K.GL.det (K.e_ldE Try.isAgg2 rfl rfl (by assumption) rfl) rfl ?_ | refine K.GL.det (K.e_ldF Try.isAgg2 rfl rfl (by assumption) rfl) rfl ?_ | refine K.GL.det (K.e_load Try.isAgg2 rfl rfl) rfl ?_ | refine K.GL.det (K.e_load0 Try.isAgg2 rfl (by assumption)) rfl ?_
  first | refine K.GL.det (K.e_fa fo29_0 rfl) rfl ?_ | refine K.GL.det (K.e_fieldAddr fo29_0 rfl) rfl ?_
  first | refine K.GL.det (K.e_ldE Try.isAgg2 rfl rfl (by assumption) rfl) rfl ?_ | refine K.GL.det (K.e_ldF Try.isAgg2 rfl rfl (by assumption) rfl) rfl ?_ | refine K.GL.det (K.e_load Try.isAgg2 rfl rfl) rfl ?_ | refine K.GL.det (K.e_load0 Try.isAgg2 rfl (by assumption)) rfl ?_
  first | refine K.GL.det ((K.e_ne rfl rfl).yes (by first | omega | assumption | decide +kernel)) rfl ?_ | refine K.GL.det ((K.e_ne rfl rfl).no (by first | omega | assumption | decide +kernel)) rfl ?_ | refine K.GL.det (K.e_ne rfl rfl) rfl ?_
  refine K.GL.det (K.e_move rfl) rfl ?_
  first | refine K.GL.splitB 11 rfl (fun h1 => ?_) (fun h1 => ?_) | skip
  all_goals first | exact absurd h1 (by decide) | replace h1 := of_decide_eq_true h1 | replace h1 := of_decide_eq_false h1 | skip
  all_goals
    first | (refine K.GL.want 11 rfl rfl rfl ?_; first | refine K.GL.det (K.e_fa fo29_1 rfl) rfl ?_ | refine K.GL.det (K.e_fieldAddr fo29_1 rfl) rfl ?_) | refine K.GL.skip 11 rfl rfl rfl rfl ?_ | refine K.GL.skipU 11 rfl rfl rfl rfl ?_
    first | (refine K.GL.want 11 rfl rfl rfl ?_; first | refine K.GL.det (K.e_ldE Try.isAgg3 rfl rfl (by assumption) rfl) rfl ?_ | refine K.GL.det (K.e_ldF Try.isAgg3 rfl rfl (by assumption) rfl) rfl ?_ | refine K.GL.det (K.e_load Try.isAgg3 rfl rfl) rfl ?_ | refine K.GL.det (K.e_load0 Try.isAgg3 rfl (by assumption)) rfl ?_) | refine K.GL.skip 11 rfl rfl rfl rfl ?_ | refine K.GL.skipU 11 rfl rfl rfl rfl ?_
    first | (refine K.GL.want 11 rfl rfl rfl ?_; first | refine K.GL.det (K.e_fa fo29_1 rfl) rfl ?_ | refine K.GL.det (K.e_fieldAddr fo29_1 rfl) rfl ?_) | refine K.GL.skip 11 rfl rfl rfl rfl ?_ | refine K.GL.skipU 11 rfl rfl rfl rfl ?_
    first | (refine K.GL.want 11 rfl rfl rfl ?_; first | refine K.GL.det (K.e_ldE Try.isAgg3 rfl rfl (by assumption) rfl) rfl ?_ | refine K.GL.det (K.e_ldF Try.isAgg3 rfl rfl (by assumption) rfl) rfl ?_ | refine K.GL.det (K.e_load Try.isAgg3 rfl rfl) rfl ?_ | refine K.GL.det (K.e_load0 Try.isAgg3 rfl (by assumption)) rfl ?_) | refine K.GL.skip 11 rfl rfl rfl rfl ?_ | refine K.GL.skipU 11 rfl rfl rfl rfl ?_
    first | (refine K.GL.want 11 rfl rfl rfl ?_; first | refine K.GL.det ((K.e_ne rfl rfl).yes (by first | omega | assumption | decide +kernel)) rfl ?_ | refine K.GL.det ((K.e_ne rfl rfl).no (by first | omega | assumption | decide +kernel)) rfl ?_ | refine K.GL.det (K.e_ne rfl rfl) rfl ?_) | refine K.GL.skip 11 rfl rfl rfl rfl ?_ | refine K.GL.skipU 11 rfl rfl rfl rfl ?_
    first | refine K.GL.det (K.e_pick_t rfl rfl) rfl ?_ | refine K.GL.det (K.e_pick_f rfl rfl) rfl ?_
    refine K.GL.det (K.e_move rfl) rfl ?_
    first | refine K.GL.splitB 18 rfl (fun h2 => ?_) (fun h2 => ?_) | skip
    all_goals first | exact absurd h2 (by decide) | replace h2 := of_decide_eq_true h2 | replace h2 := of_decide_eq_false h2 | skip
    all_goals
      first | (refine K.GL.want 18 rfl rfl rfl ?_; first | refine K.GL.det (K.e_fa fo29_2 rfl) rfl ?_ | refine K.GL.det (K.e_fieldAddr fo29_2 rfl) rfl ?_) | refine K.GL.skip 18 rfl rfl rfl rfl ?_ | refine K.GL.skipU 18 rfl rfl rfl rfl ?_
      first | (refine K.GL.want 18 rfl rfl rfl ?_; first | refine K.GL.det (K.e_ldE Try.isAgg27 rfl rfl (by assumption) rfl) rfl ?_ | refine K.GL.det (K.e_ldF Try.isAgg27 rfl rfl (by assumption) rfl) rfl ?_ | refine K.GL.det (K.e_load Try.isAgg27 rfl rfl) rfl ?_ | refine K.GL.det (K.e_load0 Try.isAgg27 rfl (by assumption)) rfl ?_) | refine K.GL.skip 18 rfl rfl rfl rfl ?_ | refine K.GL.skipU 18 rfl rfl rfl rfl ?_
      first | (refine K.GL.want 18 rfl rfl rfl ?_; first | refine K.GL.det (K.e_len Try.underlying27 rfl) rfl ?_) | refine K.GL.skip 18 rfl rfl rfl rfl ?_ | refine K.GL.skipU 18 rfl rfl rfl rfl ?_
      first | (refine K.GL.want 18 rfl rfl rfl ?_; first | refine K.GL.det (K.e_fa fo29_2 rfl) rfl ?_ | refine K.GL.det (K.e_fieldAddr fo29_2 rfl) rfl ?_) | refine K.GL.skip 18 rfl rfl rfl rfl ?_ | refine K.GL.skipU 18 rfl rfl rfl rfl ?_
      first | (refine K.GL.want 18 rfl rfl rfl ?_; first | refine K.GL.det (K.e_ldE Try.isAgg27 rfl rfl (by assumption) rfl) rfl ?_ | refine K.GL.det (K.e_ldF Try.isAgg27 rfl rfl (by assumption) rfl) rfl ?_ | refine K.GL.det (K.e_load Try.isAgg27 rfl rfl) rfl ?_ | refine K.GL.det (K.e_load0 Try.isAgg27 rfl (by assumption)) rfl ?_) | refine K.GL.skip 18 rfl rfl rfl rfl ?_ | refine K.GL.skipU 18 rfl rfl rfl rfl ?_
      first | (refine K.GL.want 18 rfl rfl rfl ?_; first | refine K.GL.det (K.e_len Try.underlying27 rfl) rfl ?_) | refine K.GL.skip 18 rfl rfl rfl rfl ?_ | refine K.GL.skipU 18 rfl rfl rfl rfl ?_
      first | (refine K.GL.want 18 rfl rfl rfl ?_; first | refine K.GL.det ((K.e_ne rfl rfl).yes (by first | omega | assumption | decide +kernel)) rfl ?_ | refine K.GL.det ((K.e_ne rfl rfl).no (by first | omega | assumption | decide +kernel)) rfl ?_ | refine K.GL.det (K.e_ne rfl rfl) rfl ?_) | refine K.GL.skip 18 rfl rfl rfl rfl ?_ | refine K.GL.skipU 18 rfl rfl rfl rfl ?_
      first | refine K.GL.det (K.e_pick_t rfl rfl) rfl ?_ | refine K.GL.det (K.e_pick_f rfl rfl) rfl ?_
      refine K.GL.nil ?_
      refine K.GQ.go ?_
      refine K.GC.condB rfl (fun h3 => ?_) (fun h3 => ?_)
      · first
        | exact absurd h3 (by decide)
        | try replace h3 := of_decide_eq_true h3
          refine K.GC.seq ?_
          refine K.GC.region ?_
          refine K.GL.det (K.e_assign rfl) rfl ?_
          refine K.GL.nil ?_
          refine K.GQ.go ?_
          refine K.GC.ret ?_
          refine K.GQ.then_ret ?_
          refine K.GQ.ret1 Try.results18 rfl (fun w hT => ?_)
          by_cases hlm : t = u
          · rw [decide_eq_true hlm]
            first | exact ⟨rfl, hT.nil⟩ | (exfalso; subst hlm; simp_all; done)
          · rw [decide_eq_false hlm]
            first | exact ⟨rfl, hT.nil⟩ | (exfalso; have h := hI.2; rw [List.take_of_length_le (by omega), List.take_of_length_le (by omega)] at h; exact hlm (by obtain ⟨g1, o1, e1⟩ := t; obtain ⟨g2, o2, e2⟩ := u; simp_all))
      · first
        | exact absurd h3 (by decide)
        | try replace h3 := of_decide_eq_false h3
          refine K.GC.skip ?_
          refine K.GQ.go ?_
          refine K.GC.seq ?_
          refine K.GC.seq ?_
          refine K.GC.region ?_
          refine K.GL.det (K.e_assign rfl) rfl ?_
          refine K.GL.nil ?_
          refine K.GQ.go ?_
          refine K.GC.block ?_
          refine K.GC.loopk (α := Nat) [2, 3] rfl (fun x => [(5, .int .i64 (x : Int))]) (fun x => [cl b3 29 (tabC u a2 c2), cl b2 29 (tabC t a c)]) (fun x => x ≤ t.exts.length ∧ t.exts.take x = u.exts.take x) (fun x => (t.exts.length - x)) 0 ⟨Nat.zero_le _, rfl⟩ (by first | ((repeat refine ⟨rfl, ?_⟩); exact trivial) | (simp only [List.take_zero, List.map_nil, List.flatMap_nil, List.append_nil]; (repeat refine ⟨rfl, ?_⟩); exact trivial)) (by first | exact K.sb | (dsimp only; exact K.sb) | (simp only [List.take_zero, List.map_nil, List.flatMap_nil, List.append_nil]; exact K.sb) | exact K.Sub.refl _) (fun x hI => ?_)
          refine K.GC.seq ?_
          refine K.GC.seq ?_
          refine K.GC.region ?_
          refine K.GL.det (K.e_move rfl) rfl ?_
          first | refine K.GL.det (K.e_fa fo29_2 rfl) rfl ?_ | refine K.GL.det (K.e_fieldAddr fo29_2 rfl) rfl ?_
          first | refine K.GL.det (K.e_ldE Try.isAgg27 rfl rfl (by assumption) rfl) rfl ?_ | refine K.GL.det (K.e_ldF Try.isAgg27 rfl rfl (by assumption) rfl) rfl ?_ | refine K.GL.det (K.e_load Try.isAgg27 rfl rfl) rfl ?_ | refine K.GL.det (K.e_load0 Try.isAgg27 rfl (by assumption)) rfl ?_
          refine K.GL.det (K.e_len Try.underlying27 rfl) rfl ?_
          first | refine K.GL.det ((K.e_lt rfl rfl).yes (by first | omega | assumption | decide +kernel)) rfl ?_ | refine K.GL.det ((K.e_lt rfl rfl).no (by first | omega | assumption | decide +kernel)) rfl ?_ | refine K.GL.det (K.e_lt rfl rfl) rfl ?_
          refine K.GL.nil ?_
          refine K.GQ.go ?_
          refine K.GC.condB rfl (fun h4 => ?_) (fun h4 => ?_)
          · first
            | exact absurd h4 (by decide)
            | try replace h4 := of_decide_eq_true h4
              refine K.GC.skip ?_
              refine K.GQ.go ?_
              refine K.GC.seq ?_
              refine K.GC.block ?_
              refine K.GC.seq ?_
              obtain ⟨ql, hql⟩ : ∃ q, t.exts[x]? = some q := get_ex (by omega)
              obtain ⟨qm, hqm⟩ : ∃ q, u.exts[x]? = some q := get_ex (by omega)
              refine K.D.GC.drawn0 11 [[], [0], [], [0, 1, 2], [0, 1, 2, 3], [], [5], [], [5, 6, 7], [5, 6, 7, 8], [0, 1, 2, 3, 4, 5, 6, 7, 8, 9]] [[], [0], [], [1, 2], [3], [], [5], [], [6, 7], [8], [4, 9]] [[], [], [], [], [], [], [], [], [], [], []] [[], [], [], [], [], [], [], [], [], [], []] [] [2, 3, 4, 5, 27, 28, 29, 30, 31, 32, 33] (by kernel_rfl) (by kernel_rfl) (by kernel_rfl) rfl ?_
              first | refine K.D.DW.det (b := []) (u := []) rfl rfl rfl (fun vs hf => K.e_fa fo29_2 rfl) ?_ | refine K.D.DW.det (b := []) (u := []) rfl rfl rfl (fun vs hf => K.e_fieldAddr fo29_2 rfl) ?_
              first | refine K.D.DW.det (b := [0]) (u := []) rfl rfl rfl (fun vs hf => K.e_ldE Try.isAgg27 rfl rfl (by assumption) rfl) ?_ | refine K.D.DW.det (b := [0]) (u := []) rfl rfl rfl (fun vs hf => K.e_ldF Try.isAgg27 rfl rfl (by assumption) rfl) ?_ | refine K.D.DW.det (b := [0]) (u := []) rfl rfl rfl (fun vs hf => K.e_load Try.isAgg27 rfl rfl) ?_ | refine K.D.DW.det (b := [0]) (u := []) rfl rfl rfl (fun vs hf => K.e_load0 Try.isAgg27 rfl (by assumption)) ?_
              refine K.D.DW.det (b := []) (u := []) rfl rfl rfl (fun vs hf => K.e_move rfl) ?_
              first | refine K.D.DW.det (b := [1, 2]) (u := []) rfl rfl rfl (fun vs hf => K.e_ixN sl27 rfl rfl rfl rfl (by omega)) ?_ | refine K.D.DW.det (b := [1, 2]) (u := []) rfl rfl rfl (fun vs hf => K.e_ix sl27 rfl rfl rfl rfl (by omega) (by omega)) ?_ | refine K.D.DW.det (b := [1, 2]) (u := []) rfl rfl rfl (fun vs hf => K.e_indexAddrS sl27 rfl rfl (by assumption) (by omega) (by omega)) ?_ | refine K.D.DW.det (b := [1, 2]) (u := []) rfl rfl rfl (fun vs hf => K.e_indexAddr sl27 rfl rfl (by omega) (by omega)) ?_
              first | refine K.D.DW.det (b := [3]) (u := []) rfl rfl rfl (fun vs hf => K.e_ldA Try.isAgg62 Try.sizeOf62 rfl rfl (by assumption)) ?_ | refine K.D.DW.det (b := [3]) (u := []) rfl rfl rfl (fun vs hf => K.e_ldAF Try.isAgg62 Try.sizeOf62 rfl rfl (by assumption) rfl) ?_ | refine K.D.DW.det (b := [3]) (u := []) rfl rfl rfl (fun vs hf => K.e_loads Try.isAgg62 Try.sizeOf62 rfl rfl) ?_
              first | refine K.D.DW.det (b := []) (u := []) rfl rfl rfl (fun vs hf => K.e_fa fo29_2 rfl) ?_ | refine K.D.DW.det (b := []) (u := []) rfl rfl rfl (fun vs hf => K.e_fieldAddr fo29_2 rfl) ?_
              first | refine K.D.DW.det (b := [5]) (u := []) rfl rfl rfl (fun vs hf => K.e_ldE Try.isAgg27 rfl rfl (by assumption) rfl) ?_ | refine K.D.DW.det (b := [5]) (u := []) rfl rfl rfl (fun vs hf => K.e_ldF Try.isAgg27 rfl rfl (by assumption) rfl) ?_ | refine K.D.DW.det (b := [5]) (u := []) rfl rfl rfl (fun vs hf => K.e_load Try.isAgg27 rfl rfl) ?_ | refine K.D.DW.det (b := [5]) (u := []) rfl rfl rfl (fun vs hf => K.e_load0 Try.isAgg27 rfl (by assumption)) ?_
              refine K.D.DW.det (b := []) (u := []) rfl rfl rfl (fun vs hf => K.e_move rfl) ?_
              first | refine K.D.DW.det (b := [6, 7]) (u := []) rfl rfl rfl (fun vs hf => K.e_ixN sl27 rfl rfl rfl rfl (by omega)) ?_ | refine K.D.DW.det (b := [6, 7]) (u := []) rfl rfl rfl (fun vs hf => K.e_ix sl27 rfl rfl rfl rfl (by omega) (by omega)) ?_ | refine K.D.DW.det (b := [6, 7]) (u := []) rfl rfl rfl (fun vs hf => K.e_indexAddrS sl27 rfl rfl (by assumption) (by omega) (by omega)) ?_ | refine K.D.DW.det (b := [6, 7]) (u := []) rfl rfl rfl (fun vs hf => K.e_indexAddr sl27 rfl rfl (by omega) (by omega)) ?_
              first | refine K.D.DW.det (b := [8]) (u := []) rfl rfl rfl (fun vs hf => K.e_ldA Try.isAgg62 Try.sizeOf62 rfl rfl (by assumption)) ?_ | refine K.D.DW.det (b := [8]) (u := []) rfl rfl rfl (fun vs hf => K.e_ldAF Try.isAgg62 Try.sizeOf62 rfl rfl (by assumption) rfl) ?_ | refine K.D.DW.det (b := [8]) (u := []) rfl rfl rfl (fun vs hf => K.e_loads Try.isAgg62 Try.sizeOf62 rfl rfl) ?_
              refine K.D.DW.det (b := [4, 9]) (u := []) rfl rfl rfl (fun vs hf => K.e_neStruct (by kernel_rfl) rfl rfl (fun w => run_eqX w ql qm)) ?_
              refine K.D.DW.fin (fun vs hf => ?_)
              refine K.GL.keep [2, 3, 4, 5, 27, 28, 29, 30, 31, 32, 33, 34, 35, 36, 37, 38, 39, 40, 41, 42, 43, 44] rfl ?_
              refine K.D.GL.res0 rfl ?_
              clear hf
              try clear vs
              refine K.GL.nil ?_
              refine K.GQ.go ?_
              refine K.GC.condB rfl (fun h5 => ?_) (fun h5 => ?_)
              · first
                | exact absurd h5 (by decide)
                | try replace h5 := of_decide_eq_true h5
                  refine K.GC.seq ?_
                  refine K.GC.region ?_
                  refine K.GL.det (K.e_assign rfl) rfl ?_
                  refine K.GL.nil ?_
                  refine K.GQ.go ?_
                  refine K.GC.ret ?_
                  refine K.GQ.block_ret ?_
                  refine K.GQ.then_ret ?_
                  refine K.GQ.then_ret ?_
                  refine K.GQ.block_ret ?_
                  refine K.GQ.then_ret ?_
                  refine K.GQ.ret1 Try.results18 rfl (fun w hT => ?_)
                  by_cases hlm : t = u
                  · rw [decide_eq_true hlm]
                    first | exact ⟨rfl, hT.nil⟩ | (exfalso; subst hlm; simp_all; done)
                  · rw [decide_eq_false hlm]
                    first | exact ⟨rfl, hT.nil⟩ | (exfalso; have h := hI.2; rw [List.take_of_length_le (by omega), List.take_of_length_le (by omega)] at h; exact hlm (by obtain ⟨g1, o1, e1⟩ := t; obtain ⟨g2, o2, e2⟩ := u; simp_all))
              · first
                | exact absurd h5 (by decide)
                | try replace h5 := of_decide_eq_false h5
                  refine K.GC.skip ?_
                  refine K.GQ.block_normal ?_
                  refine K.GQ.go ?_
                  refine K.GC.region ?_
                  refine K.GL.det (K.e_move rfl) rfl ?_
                  first | refine K.GL.det (K.e_add rfl rfl ⟨by omega, by omega⟩) rfl ?_ | refine K.GL.det (K.e_addw rfl rfl) rfl ?_
                  refine K.GL.det (K.e_assign rfl) rfl ?_
                  refine K.GL.nil ?_
                  exact K.GQ.round (x + 1) ⟨by omega, by rw [take_one hql, take_one hqm, hI.2]; simp_all⟩ (by omega) (by (repeat refine ⟨rfl, ?_⟩); exact trivial) (by first | exact K.sb | (dsimp only; exact K.sb))
          · first
            | exact absurd h4 (by decide)
            | try replace h4 := of_decide_eq_false h4
              refine K.GC.exit ?_
              refine K.GQ.then_exit ?_
              refine K.GQ.then_exit ?_
              refine K.GQ.block_hit ?_
              refine K.GQ.go ?_
              refine K.GC.seq ?_
              refine K.GC.region ?_
              refine K.GL.det (K.e_assign rfl) rfl ?_
              refine K.GL.nil ?_
              refine K.GQ.go ?_
              refine K.GC.ret ?_
              refine K.GQ.ret1 Try.results18 rfl (fun w hT => ?_)
              by_cases hlm : t = u
              · rw [decide_eq_true hlm]
                first | exact ⟨rfl, hT.nil⟩ | (exfalso; subst hlm; simp_all; done)
              · rw [decide_eq_false hlm]
                first | exact ⟨rfl, hT.nil⟩ | (exfalso; have h := hI.2; rw [List.take_of_length_le (by omega), List.take_of_length_le (by omega)] at h; exact hlm (by obtain ⟨g1, o1, e1⟩ := t; obtain ⟨g2, o2, e2⟩ := u; simp_all))
section
variable {ops : Array Oper} {Q : Exit → Act → World → Prop} {N : Nat} {U : Env} {w0 : World} {L0 L F : List Res} {ty : TypeId} {rest : List Oper} {pos : String} {after : Array Edge} {xs : List Operand} {tys : Array TypeId} {dT : Tmp}
theorem ev_rsame_con {t u : Tab} {a a2 : Option Addr} {c c2 : Nat} (hf : ∀ args w, (callFunc 18 args).run Try.prog w = .ok (.enter 18 args) w) (hx : opvs U xs = some [.agg (tabC t a c).toArray, .agg (tabC u a2 c2).toArray]) (hl : t.exts.length ≤ 9223372036854775807) (hu : u.exts.length ≤ 9223372036854775807) [o0 : RdC w0 L0 [] L a (encX) (t.exts)] [o1 : RdC w0 L0 [] L a2 (encX) (u.exts)] : Ev Try.prog U w0 L0 L (.call ⟨.value (.func 18), xs.toArray, tys⟩) ty (Is (.bool (decide (t = u)))) No :=
  K.e_call1 hf hx (fun w hT => by have _o0 := o0.out w hT; have _o1 := o1.out w hT; exact rsame_con hl hu)
end
/- turntable/turntableref09.Order -/
set_option maxHeartbeats 4000000 in
set_option maxRecDepth 100000 in
theorem rtord_con {t : Tab} {a : Option Addr} {c : Nat} {w : World} (hl : t.exts.length ≤ 9223372036854775807) [Old w [] a (encX) (t.exts)] :
    Calls Try.prog 34 #[.agg (tabC t a c).toArray] w fun e w' => ∃ a' : Option Addr, ∃ c' : Nat, e = .returned (.slice a' (ordT t).length c') ∧ Tr w [] w' [trow a' c' 3 I6 (ordT t)] := by
  refine K.enter0 (args := [_]) Try.func34 rfl Try.ntmps34 rfl ?_
  refine K.GC.seq ?_
  refine K.GC.region ?_
  refine K.GL.box rfl rfl rfl (fun b1 => ?_)
  refine K.GL.det (K.e_assign rfl) rfl ?_
  refine K.GL.nil ?_
  refine K.GQ.go ?_
  refine K.GC.seq ?_
  refine K.GC.region ?_
  refine K.GL.det (K.e_assign rfl) rfl ?_
  refine K.GL.nil ?_
  refine K.GQ.go ?_
  refine K.GC.seq ?_
  refine K.GC.seq ?_
  refine K.GC.region ?_
  refine K.GL.det (K.e_assign rfl) rfl ?_
  refine K.GL.nil ?_
  refine K.GQ.go ?_
  refine K.GC.block ?_
  refine K.GC.trow0 3 I6 ?_
  refine K.GC.loopk (α := Nat × List Int × Option Addr × Nat) [1, 2, 61] rfl (fun x => [(3, .slice x.2.2.1 x.2.1.length x.2.2.2), (4, .int .i64 (x.1 : Int))]) (fun x => [trow x.2.2.1 x.2.2.2 3 I6 x.2.1, cl b1 29 (tabC t a c)]) (fun x => x.1 ≤ t.exts.length ∧ (x.1 = 0 ∨ rightB t = true) ∧ x.2.1.Perm (plc Ext.used (t.exts.take x.1)) ∧ x.2.1.Pairwise (fun i j => sqAt t.exts i ≤ sqAt t.exts j)) (fun x => (t.exts.length - x.1)) (0, [], none, 0) ⟨Nat.zero_le _, Or.inl rfl, List.Perm.refl _, List.Pairwise.nil⟩ (by (repeat refine ⟨rfl, ?_⟩); exact trivial) (K.Sub.refl _) (fun x hI => ?_)
  obtain ⟨x, acc, a1, c1⟩ := x
  simp only at hI ⊢
  obtain ⟨hI, hI2, hI3, hI4⟩ := hI
  have hpl := plc_len Ext.used (t.exts.take x)
  have hal := hI3.length_eq
  rw [List.length_take] at hpl
  refine K.GC.seq ?_
  refine K.GC.seq ?_
  refine K.GC.region ?_
  refine K.GL.det (K.e_move rfl) rfl ?_
  first | refine K.GL.det (K.e_fa fo29_2 rfl) rfl ?_ | refine K.GL.det (K.e_fieldAddr fo29_2 rfl) rfl ?_
  first | refine K.GL.det (K.e_ldE Try.isAgg27 rfl rfl (by assumption) rfl) rfl ?_ | refine K.GL.det (K.e_ldF Try.isAgg27 rfl rfl (by assumption) rfl) rfl ?_ | refine K.GL.det (K.e_load Try.isAgg27 rfl rfl) rfl ?_ | refine K.GL.det (K.e_load0 Try.isAgg27 rfl (by assumption)) rfl ?_
  refine K.GL.det (K.e_len Try.underlying27 rfl) rfl ?_
  first | refine K.GL.det ((K.e_lt rfl rfl).yes (by first | omega | assumption | decide +kernel)) rfl ?_ | refine K.GL.det ((K.e_lt rfl rfl).no (by first | omega | assumption | decide +kernel)) rfl ?_ | refine K.GL.det (K.e_lt rfl rfl) rfl ?_
  refine K.GL.det (K.e_move rfl) rfl ?_
  first | refine K.GL.splitB 11 rfl (fun h1 => ?_) (fun h1 => ?_) | skip
  all_goals first | exact absurd h1 (by decide) | replace h1 := of_decide_eq_true h1 | replace h1 := of_decide_eq_false h1 | skip
  all_goals
    first | (refine K.GL.want 11 rfl rfl rfl ?_; first | refine K.GL.det (K.e_ldA Try.isAgg29 Try.sizeOf29 rfl rfl (by assumption)) rfl ?_ | refine K.GL.det (K.e_ldAF Try.isAgg29 Try.sizeOf29 rfl rfl (by assumption) rfl) rfl ?_ | refine K.GL.det (K.e_loads Try.isAgg29 Try.sizeOf29 rfl rfl) rfl ?_) | refine K.GL.skip 11 rfl rfl rfl rfl ?_ | refine K.GL.skipU 11 rfl rfl rfl rfl ?_
    first | (refine K.GL.want 11 rfl rfl rfl ?_; first | refine K.GL.det (ev_rright_con Try.call30 rfl (by first | assumption | omega | rfl | decide)) rfl ?_) | refine K.GL.skip 11 rfl rfl rfl rfl ?_ | refine K.GL.skipU 11 rfl rfl rfl rfl ?_
    first | refine K.GL.det (K.e_pick_t rfl rfl) rfl ?_ | refine K.GL.det (K.e_pick_f rfl rfl) rfl ?_
    refine K.GL.nil ?_
    refine K.GQ.go ?_
    refine K.GC.condB rfl (fun h2 => ?_) (fun h2 => ?_)
    · first
      | exact absurd h2 (by decide)
      | try replace h2 := of_decide_eq_true h2
        refine K.GC.skip ?_
        refine K.GQ.go ?_
        refine K.GC.seq ?_
        refine K.GC.block ?_
        refine K.GC.seq ?_
        refine K.GC.seq ?_
        have hR8 : t.exts.length ≤ 8 := ((right_iff t).1 (by assumption)).n2
        obtain ⟨q, hq⟩ : ∃ q, t.exts[x]? = some q := get_ex (by omega)
        refine K.GC.region ?_
        first | refine K.GL.det (K.e_fa fo29_2 rfl) rfl ?_ | refine K.GL.det (K.e_fieldAddr fo29_2 rfl) rfl ?_
        first | refine K.GL.det (K.e_ldE Try.isAgg27 rfl rfl (by assumption) rfl) rfl ?_ | refine K.GL.det (K.e_ldF Try.isAgg27 rfl rfl (by assumption) rfl) rfl ?_ | refine K.GL.det (K.e_load Try.isAgg27 rfl rfl) rfl ?_ | refine K.GL.det (K.e_load0 Try.isAgg27 rfl (by assumption)) rfl ?_
        refine K.GL.det (K.e_move rfl) rfl ?_
        first | refine K.GL.ixK sl27 rfl rfl rfl rfl (by assumption) rfl ?_ | refine K.GL.ix sl27 rfl rfl rfl rfl (by omega) rfl (fun q20 hq20 => ?_) | refine K.GL.ixI sl27 rfl rfl rfl rfl (by omega) (by omega) rfl (fun q20 hq20 => ?_) | refine K.GL.det (K.e_indexAddrS sl27 rfl rfl (by assumption) (by omega) (by omega)) rfl ?_ | refine K.GL.det (K.e_indexAddr sl27 rfl rfl (by omega) (by omega)) rfl ?_
        first | refine K.GL.det (K.e_fa fo62_0 rfl) rfl ?_ | refine K.GL.det (K.e_fieldAddr fo62_0 rfl) rfl ?_
        first | refine K.GL.det (K.e_ldE Try.isAgg2 rfl rfl (by assumption) rfl) rfl ?_ | refine K.GL.det (K.e_ldF Try.isAgg2 rfl rfl (by assumption) rfl) rfl ?_ | refine K.GL.det (K.e_load Try.isAgg2 rfl rfl) rfl ?_ | refine K.GL.det (K.e_load0 Try.isAgg2 rfl (by assumption)) rfl ?_
        first | refine K.GL.det ((K.e_eq rfl rfl).yes (by first | omega | assumption | decide +kernel)) rfl ?_ | refine K.GL.det ((K.e_eq rfl rfl).no (by first | omega | assumption | decide +kernel)) rfl ?_ | refine K.GL.det (K.e_eq rfl rfl) rfl ?_
        refine K.GL.nil ?_
        refine K.GQ.go ?_
        refine K.GC.condB rfl (fun h3 => ?_) (fun h3 => ?_)
        · first
          | exact absurd h3 (by decide)
          | try replace h3 := of_decide_eq_true h3
            refine K.GC.exit ?_
            refine K.GQ.then_exit ?_
            refine K.GQ.block_hit ?_
            refine K.GQ.go ?_
            refine K.GC.region ?_
            refine K.GL.det (K.e_move rfl) rfl ?_
            first | refine K.GL.det (K.e_add rfl rfl ⟨by omega, by omega⟩) rfl ?_ | refine K.GL.det (K.e_addw rfl rfl) rfl ?_
            refine K.GL.det (K.e_assign rfl) rfl ?_
            refine K.GL.nil ?_
            have htk := plc_take (p := Ext.used) hq
            first
              | (rw [if_neg (by unfold Ext.used; rw [decide_eq_true_eq, Classical.not_not]; assumption), List.append_nil] at htk
                 exact K.GQ.round (x + 1, acc, a1, c1) ⟨by simp only; omega, Or.inr (by assumption), by simp only [htk]; exact hI3, hI4⟩ (by simp only; omega) (by (repeat refine ⟨rfl, ?_⟩); exact trivial) K.sb)
              | (rw [if_pos (by unfold Ext.used; exact decide_eq_true (by assumption))] at htk
                 exact K.GQ.round (x + 1, acc.take y ++ [(x : Int)] ++ acc.drop y, a60, c60) ⟨by simp only; omega, Or.inr (by assumption), by simp only [htk]; exact ins_perm.trans (List.Perm.append_right _ hI3), ins_sorted hq hI4 hJ hJ2 (by first | (left; assumption) | (right; exact ⟨_, (by rw [hyk]; exact hkj), (by rw [sqAt_nat hqj]; omega)⟩))⟩ (by simp only; omega) (by (repeat refine ⟨rfl, ?_⟩); exact trivial) (by dsimp only; simp only [List.nil_append]; exact K.sb))
        · first
          | exact absurd h3 (by decide)
          | try replace h3 := of_decide_eq_false h3
            refine K.GC.skip ?_
            refine K.GQ.go ?_
            refine K.GC.seq ?_
            refine K.GC.region ?_
            refine K.GL.det (K.e_move rfl) rfl ?_
            refine K.GL.det (K.e_len Try.underlying56 rfl) rfl ?_
            refine K.GL.det (K.e_assign rfl) rfl ?_
            refine K.GL.nil ?_
            refine K.GQ.go ?_
            refine K.GC.seq ?_
            refine K.GC.block ?_
            refine K.GC.loopk (α := Nat) [1, 2, 3, 4, 6, 7, 8, 9, 10, 11, 12, 13, 14, 15, 16, 17, 18, 19, 20, 21, 22, 23, 24, 25, 49, 50, 51, 52, 53, 54, 55, 56, 57, 58, 59, 60, 61] rfl (fun y => [(5, .int .i64 (y : Int))]) (fun y => [trow a1 c1 3 I6 acc, cl b1 29 (tabC t a c)]) (fun y => y ≤ acc.length ∧ ∀ (j : Nat) i, y ≤ j → acc[j]? = some i → q.seq < sqAt t.exts i) (fun y => y) acc.length ⟨Nat.le_refl _, fun j i hj h => absurd (len_of h) (by omega)⟩ (by first | ((repeat refine ⟨rfl, ?_⟩); exact trivial) | (simp only [List.take_zero, List.map_nil, List.flatMap_nil, List.append_nil]; (repeat refine ⟨rfl, ?_⟩); exact trivial)) (by first | exact K.sb | (dsimp only; exact K.sb) | (simp only [List.take_zero, List.map_nil, List.flatMap_nil, List.append_nil]; exact K.sb) | exact K.Sub.refl _) (fun y hI => ?_)
            rename_i hI0
            obtain ⟨hJ, hJ2⟩ := hI
            have hI := hI0
            refine K.GC.capT a1 (fun hcap => ?_)
            refine K.GC.seq ?_
            refine K.GC.seq ?_
            rcases ins_at (t := t) (acc := acc) (y := y) (x := x) hI3 hJ with hy0 | ⟨k, j, qj, hyk, hkj, hqj, hjx⟩
            all_goals
              refine K.D.GC.drawn0 21 [[], [0], [0, 1], [0, 1, 2], [0, 1, 2, 3], [0, 1, 2], [0, 1, 2], [0, 1, 2, 6], [0, 1, 2, 5, 6, 7], [0, 1, 2, 5, 6, 7, 8], [0, 1, 2, 3, 4, 5, 6, 7, 8, 9], [0, 1, 2, 3, 4, 5, 6, 7, 8, 9, 10], [0, 1, 2, 3, 4, 5, 6, 7, 8, 9, 10, 11], [0, 1, 2], [0, 1, 2, 13], [0, 1, 2], [0, 1, 2, 13, 14, 15], [0, 1, 2, 13, 14, 15, 16], [0, 1, 2, 13, 14, 15, 16, 17], [0, 1, 2, 3, 4, 5, 6, 7, 8, 9, 10, 11, 12, 13, 14, 15, 16, 17, 18], [0, 1, 2, 3, 4, 5, 6, 7, 8, 9, 10, 11, 12, 13, 14, 15, 16, 17, 18, 19]] [[], [0], [1], [2], [2, 3], [2], [2], [2, 6], [2, 5, 7], [2, 8], [2, 4, 9], [2, 10], [2, 11], [2], [2, 13], [2], [2, 14, 15], [2, 16], [2, 17], [2, 12, 18], [2, 19]] [[], [], [], [], [], [], [], [], [], [], [], [], [], [], [], [], [], [], [], [], []] [[], [], [], [], [], [], [], [], [], [], [], [], [], [], [], [], [], [], [], [], []] [] [1, 2, 3, 4, 5, 6, 7, 8, 9, 10, 11, 12, 13, 14, 15, 16, 17, 18, 19, 20, 21, 22, 23, 24, 25, 47, 48, 49, 50, 51, 52, 53, 54, 55, 56, 57, 58, 59, 60, 61] (by kernel_rfl) (by kernel_rfl) (by kernel_rfl) rfl ?_
              refine K.D.DW.det (b := []) (u := []) rfl rfl rfl (fun vs hf => K.e_move rfl) ?_
              first | refine K.D.DW.det (b := [0]) (u := []) rfl rfl rfl (fun vs hf => (K.e_gt rfl rfl).yes (by first | omega | assumption | decide +kernel)) ?_ | refine K.D.DW.det (b := [0]) (u := []) rfl rfl rfl (fun vs hf => (K.e_gt rfl rfl).no (by first | omega | assumption | decide +kernel)) ?_ | refine K.D.DW.det (b := [0]) (u := []) rfl rfl rfl (fun vs hf => K.e_gt rfl rfl) ?_
              refine K.D.DW.det (b := [1]) (u := []) rfl rfl rfl (fun vs hf => K.e_move rfl) ?_
              first | (refine K.D.DW.want (b := [2]) rfl (fun _ => rfl) ?_; first | refine K.D.DW.det (b := [2]) (u := []) rfl rfl rfl (fun vs hf => K.e_fa fo29_2 rfl) ?_ | refine K.D.DW.det (b := [2]) (u := []) rfl rfl rfl (fun vs hf => K.e_fieldAddr fo29_2 rfl) ?_) | refine K.D.DW.skip (b := [2]) rfl rfl (fun _ => rfl) ?_
              first | (refine K.D.DW.want (b := [2, 3]) rfl (fun _ => rfl) ?_; first | refine K.D.DW.det (b := [2, 3]) (u := []) rfl rfl rfl (fun vs hf => K.e_ldE Try.isAgg27 rfl rfl (by assumption) rfl) ?_ | refine K.D.DW.det (b := [2, 3]) (u := []) rfl rfl rfl (fun vs hf => K.e_ldF Try.isAgg27 rfl rfl (by assumption) rfl) ?_ | refine K.D.DW.det (b := [2, 3]) (u := []) rfl rfl rfl (fun vs hf => K.e_load Try.isAgg27 rfl rfl) ?_ | refine K.D.DW.det (b := [2, 3]) (u := []) rfl rfl rfl (fun vs hf => K.e_load0 Try.isAgg27 rfl (by assumption)) ?_) | refine K.D.DW.skip (b := [2, 3]) rfl rfl (fun _ => rfl) ?_
              first | (refine K.D.DW.want (b := [2]) rfl (fun _ => rfl) ?_; first | refine K.D.DW.det (b := [2]) (u := []) rfl rfl rfl (fun vs hf => K.e_move rfl) ?_) | refine K.D.DW.skip (b := [2]) rfl rfl (fun _ => rfl) ?_
              first | (refine K.D.DW.want (b := [2]) rfl (fun _ => rfl) ?_; first | refine K.D.DW.det (b := [2]) (u := []) rfl rfl rfl (fun vs hf => K.e_move rfl) ?_) | refine K.D.DW.skip (b := [2]) rfl rfl (fun _ => rfl) ?_
              first | (refine K.D.DW.want (b := [2, 6]) rfl (fun _ => rfl) ?_; first | refine K.D.DW.det (b := [2, 6]) (u := []) rfl rfl rfl (fun vs hf => (K.e_sub rfl rfl ⟨by omega, by omega⟩).cast_int (b := (k : Int)) (by omega)) ?_) | refine K.D.DW.skip (b := [2, 6]) rfl rfl (fun _ => rfl) ?_
              first | (refine K.D.DW.want (b := [2, 5, 7]) rfl (fun _ => rfl) ?_; first | refine K.D.DW.det (b := [2, 5, 7]) (u := []) rfl rfl rfl (fun vs hf => K.e_ixN sl56 rfl rfl rfl rfl (by omega)) ?_ | refine K.D.DW.det (b := [2, 5, 7]) (u := []) rfl rfl rfl (fun vs hf => K.e_ix sl56 rfl rfl rfl rfl (by omega) (by omega)) ?_ | refine K.D.DW.det (b := [2, 5, 7]) (u := []) rfl rfl rfl (fun vs hf => K.e_indexAddrS sl56 rfl rfl (by assumption) (by omega) (by omega)) ?_ | refine K.D.DW.det (b := [2, 5, 7]) (u := []) rfl rfl rfl (fun vs hf => K.e_indexAddr sl56 rfl rfl (by omega) (by omega)) ?_) | refine K.D.DW.skip (b := [2, 5, 7]) rfl rfl (fun _ => rfl) ?_
              first | (refine K.D.DW.want (b := [2, 8]) rfl (fun _ => rfl) ?_; first | refine K.D.DW.det (b := [2, 8]) (u := []) rfl rfl rfl (fun vs hf => K.e_ldE Try.isAgg3 rfl rfl (by assumption) rfl) ?_ | refine K.D.DW.det (b := [2, 8]) (u := []) rfl rfl rfl (fun vs hf => K.e_ldF Try.isAgg3 rfl rfl (by assumption) rfl) ?_ | refine K.D.DW.det (b := [2, 8]) (u := []) rfl rfl rfl (fun vs hf => K.e_load Try.isAgg3 rfl rfl) ?_ | refine K.D.DW.det (b := [2, 8]) (u := []) rfl rfl rfl (fun vs hf => K.e_load0 Try.isAgg3 rfl (by assumption)) ?_) | refine K.D.DW.skip (b := [2, 8]) rfl rfl (fun _ => rfl) ?_
              first | (refine K.D.DW.want (b := [2, 4, 9]) rfl (fun _ => rfl) ?_; first | refine K.D.DW.det (b := [2, 4, 9]) (u := []) rfl rfl rfl (fun vs hf => K.e_ixN sl27 rfl rfl rfl rfl (by omega)) ?_ | refine K.D.DW.det (b := [2, 4, 9]) (u := []) rfl rfl rfl (fun vs hf => K.e_ix sl27 rfl rfl rfl rfl (by omega) (by omega)) ?_ | refine K.D.DW.det (b := [2, 4, 9]) (u := []) rfl rfl rfl (fun vs hf => K.e_indexAddrS sl27 rfl rfl (by assumption) (by omega) (by omega)) ?_ | refine K.D.DW.det (b := [2, 4, 9]) (u := []) rfl rfl rfl (fun vs hf => K.e_indexAddr sl27 rfl rfl (by omega) (by omega)) ?_) | refine K.D.DW.skip (b := [2, 4, 9]) rfl rfl (fun _ => rfl) ?_
              first | (refine K.D.DW.want (b := [2, 10]) rfl (fun _ => rfl) ?_; first | refine K.D.DW.det (b := [2, 10]) (u := []) rfl rfl rfl (fun vs hf => K.e_fa fo62_0 rfl) ?_ | refine K.D.DW.det (b := [2, 10]) (u := []) rfl rfl rfl (fun vs hf => K.e_fieldAddr fo62_0 rfl) ?_) | refine K.D.DW.skip (b := [2, 10]) rfl rfl (fun _ => rfl) ?_
              first | (refine K.D.DW.want (b := [2, 11]) rfl (fun _ => rfl) ?_; first | refine K.D.DW.det (b := [2, 11]) (u := []) rfl rfl rfl (fun vs hf => K.e_ldE Try.isAgg2 rfl rfl (by assumption) rfl) ?_ | refine K.D.DW.det (b := [2, 11]) (u := []) rfl rfl rfl (fun vs hf => K.e_ldF Try.isAgg2 rfl rfl (by assumption) rfl) ?_ | refine K.D.DW.det (b := [2, 11]) (u := []) rfl rfl rfl (fun vs hf => K.e_load Try.isAgg2 rfl rfl) ?_ | refine K.D.DW.det (b := [2, 11]) (u := []) rfl rfl rfl (fun vs hf => K.e_load0 Try.isAgg2 rfl (by assumption)) ?_) | refine K.D.DW.skip (b := [2, 11]) rfl rfl (fun _ => rfl) ?_
              first | (refine K.D.DW.want (b := [2]) rfl (fun _ => rfl) ?_; first | refine K.D.DW.det (b := [2]) (u := []) rfl rfl rfl (fun vs hf => K.e_fa fo29_2 rfl) ?_ | refine K.D.DW.det (b := [2]) (u := []) rfl rfl rfl (fun vs hf => K.e_fieldAddr fo29_2 rfl) ?_) | refine K.D.DW.skip (b := [2]) rfl rfl (fun _ => rfl) ?_
              first | (refine K.D.DW.want (b := [2, 13]) rfl (fun _ => rfl) ?_; first | refine K.D.DW.det (b := [2, 13]) (u := []) rfl rfl rfl (fun vs hf => K.e_ldE Try.isAgg27 rfl rfl (by assumption) rfl) ?_ | refine K.D.DW.det (b := [2, 13]) (u := []) rfl rfl rfl (fun vs hf => K.e_ldF Try.isAgg27 rfl rfl (by assumption) rfl) ?_ | refine K.D.DW.det (b := [2, 13]) (u := []) rfl rfl rfl (fun vs hf => K.e_load Try.isAgg27 rfl rfl) ?_ | refine K.D.DW.det (b := [2, 13]) (u := []) rfl rfl rfl (fun vs hf => K.e_load0 Try.isAgg27 rfl (by assumption)) ?_) | refine K.D.DW.skip (b := [2, 13]) rfl rfl (fun _ => rfl) ?_
              first | (refine K.D.DW.want (b := [2]) rfl (fun _ => rfl) ?_; first | refine K.D.DW.det (b := [2]) (u := []) rfl rfl rfl (fun vs hf => K.e_move rfl) ?_) | refine K.D.DW.skip (b := [2]) rfl rfl (fun _ => rfl) ?_
              first | (refine K.D.DW.want (b := [2, 14, 15]) rfl (fun _ => rfl) ?_; first | refine K.D.DW.det (b := [2, 14, 15]) (u := []) rfl rfl rfl (fun vs hf => K.e_ixN sl27 rfl rfl rfl rfl (by omega)) ?_ | refine K.D.DW.det (b := [2, 14, 15]) (u := []) rfl rfl rfl (fun vs hf => K.e_ix sl27 rfl rfl rfl rfl (by omega) (by omega)) ?_ | refine K.D.DW.det (b := [2, 14, 15]) (u := []) rfl rfl rfl (fun vs hf => K.e_indexAddrS sl27 rfl rfl (by assumption) (by omega) (by omega)) ?_ | refine K.D.DW.det (b := [2, 14, 15]) (u := []) rfl rfl rfl (fun vs hf => K.e_indexAddr sl27 rfl rfl (by omega) (by omega)) ?_) | refine K.D.DW.skip (b := [2, 14, 15]) rfl rfl (fun _ => rfl) ?_
              first | (refine K.D.DW.want (b := [2, 16]) rfl (fun _ => rfl) ?_; first | refine K.D.DW.det (b := [2, 16]) (u := []) rfl rfl rfl (fun vs hf => K.e_fa fo62_0 rfl) ?_ | refine K.D.DW.det (b := [2, 16]) (u := []) rfl rfl rfl (fun vs hf => K.e_fieldAddr fo62_0 rfl) ?_) | refine K.D.DW.skip (b := [2, 16]) rfl rfl (fun _ => rfl) ?_
              first | (refine K.D.DW.want (b := [2, 17]) rfl (fun _ => rfl) ?_; first | refine K.D.DW.det (b := [2, 17]) (u := []) rfl rfl rfl (fun vs hf => K.e_ldE Try.isAgg2 rfl rfl (by assumption) rfl) ?_ | refine K.D.DW.det (b := [2, 17]) (u := []) rfl rfl rfl (fun vs hf => K.e_ldF Try.isAgg2 rfl rfl (by assumption) rfl) ?_ | refine K.D.DW.det (b := [2, 17]) (u := []) rfl rfl rfl (fun vs hf => K.e_load Try.isAgg2 rfl rfl) ?_ | refine K.D.DW.det (b := [2, 17]) (u := []) rfl rfl rfl (fun vs hf => K.e_load0 Try.isAgg2 rfl (by assumption)) ?_) | refine K.D.DW.skip (b := [2, 17]) rfl rfl (fun _ => rfl) ?_
              first | (refine K.D.DW.want (b := [2, 12, 18]) rfl (fun _ => rfl) ?_; first | refine K.D.DW.det (b := [2, 12, 18]) (u := []) rfl rfl rfl (fun vs hf => (K.e_gt rfl rfl).yes (by first | omega | assumption | decide +kernel)) ?_ | refine K.D.DW.det (b := [2, 12, 18]) (u := []) rfl rfl rfl (fun vs hf => (K.e_gt rfl rfl).no (by first | omega | assumption | decide +kernel)) ?_ | refine K.D.DW.det (b := [2, 12, 18]) (u := []) rfl rfl rfl (fun vs hf => K.e_gt rfl rfl) ?_) | refine K.D.DW.skip (b := [2, 12, 18]) rfl rfl (fun _ => rfl) ?_
              first | refine K.D.DW.det (b := [2, 19]) (u := []) rfl rfl rfl (fun vs hf => K.e_pick_t rfl rfl) ?_ | refine K.D.DW.det (b := [2, 19]) (u := []) rfl rfl rfl (fun vs hf => K.e_pick_f rfl rfl) ?_
              refine K.D.DW.fin (fun vs hf => ?_)
              refine K.GL.keep [1, 2, 3, 4, 5, 6, 7, 8, 9, 10, 11, 12, 13, 14, 15, 16, 17, 18, 19, 20, 21, 22, 23, 24, 25, 26, 27, 28, 29, 30, 31, 32, 33, 34, 35, 36, 37, 38, 39, 40, 41, 42, 43, 44, 45, 46, 47, 48, 49, 50, 51, 52, 53, 54, 55, 56, 57, 58, 59, 60, 61] rfl ?_
              refine K.D.GL.res0 rfl ?_
              clear hf
              try clear vs
              refine K.GL.nil ?_
              refine K.GQ.go ?_
              refine K.GC.condB rfl (fun h4 => ?_) (fun h4 => ?_)
              · first
                | exact absurd h4 (by decide)
                | try replace h4 := of_decide_eq_true h4
                  refine K.GC.skip ?_
                  refine K.GQ.go ?_
                  refine K.GC.block ?_
                  refine K.GC.region ?_
                  refine K.GL.det (K.e_move rfl) rfl ?_
                  first | refine K.GL.det (K.e_sub rfl rfl ⟨by omega, by omega⟩) rfl ?_ | refine K.GL.det (K.e_subw rfl rfl) rfl ?_
                  refine K.GL.det (K.e_assign rfl) rfl ?_
                  refine K.GL.nil ?_
                  refine K.GQ.block_normal ?_
                  exact K.GQ.round k ⟨by omega, fun m i hm hmi => by
                          rcases Nat.lt_or_ge k m with h | h
                          · exact hJ2 m i (by omega) hmi
                          · obtain rfl : m = k := by omega
                            rw [hkj] at hmi; cases hmi; rw [sqAt_nat hqj]; omega⟩ (by omega) (by rw [show (y : Int) - 1 = (k : Int) by omega]; (repeat refine ⟨rfl, ?_⟩); exact trivial) (by first | exact K.sb | (dsimp only; exact K.sb))
              · first
                | exact absurd h4 (by decide)
                | try replace h4 := of_decide_eq_false h4
                  refine K.GC.exit ?_
                  refine K.GQ.then_exit ?_
                  refine K.GQ.then_exit ?_
                  refine K.GQ.block_hit ?_
                  refine K.GQ.go ?_
                  have htl := List.length_take (i := y) (l := acc)
                  have hdl := List.length_drop (i := y) (l := acc)
                  refine K.D.GC.drawn0 12 [[], [], [], [1, 2], [0, 1, 2, 3], [], [5], [0, 1, 2, 3, 4, 5, 6], [], [], [8, 9], [0, 1, 2, 3, 4, 5, 6, 7, 8, 9, 10], [0, 1, 2, 3, 4, 5, 6, 7, 8, 9, 10, 11]] [[], [], [], [1, 2], [0, 3], [], [5], [4, 6], [], [], [8, 9], [7, 10]] [[], [], [], [], [0], [], [], [4, 6], [], [], [], [7]] [[], [], [], [], [0], [], [], [4], [], [], [], [7]] [11] [1, 2, 3, 4, 5, 6, 7, 8, 9, 10, 11, 12, 13, 14, 15, 16, 17, 18, 19, 20, 21, 22, 23, 24, 25, 26, 27, 28, 29, 30, 31, 32, 33, 34, 35, 36, 37, 38, 39, 40, 41, 42, 43, 44, 45, 46, 47, 48, 61] (by kernel_rfl) (by kernel_rfl) (by kernel_rfl) rfl ?_
                  refine K.D.DW.ev0 (b := []) (u := []) (a := []) rfl rfl rfl (fun vs hf => show K.D.EvM _ _ _ _ (_) [] _ _ _ _ _ from K.D.em_build (K.encI .i64) [] mk56 rfl rfl rfl rfl) ?_
                  refine K.D.DW.det (b := []) (u := []) rfl rfl rfl (fun vs hf => K.e_move rfl) ?_
                  refine K.D.DW.det (b := []) (u := []) rfl rfl rfl (fun vs hf => K.e_move rfl) ?_
                  refine K.D.DW.ev0 (b := [1, 2]) (u := []) (a := []) rfl rfl rfl (fun vs hf => show K.D.EvM _ _ _ _ (_) [] _ _ _ _ _ from K.D.em_partH sl56 rfl rfl rfl rfl (by omega) (by omega)) ?_
                  refine K.D.DW.ev0 (b := [0, 3]) (u := [0]) (a := [0]) rfl rfl rfl (fun vs ⟨hf49, ⟨hf52, hg52⟩, _⟩ => show K.D.EvM _ _ _ _ (_ :: _) [_] _ _ _ _ _ from K.D.em_append mk56 rfl rfl rfl rfl rfl (by first | omega | (simp only [List.length_cons, List.length_nil, List.length_append]; omega)) (by first | omega | (simp only [List.length_cons, List.length_nil, List.length_append]; omega))) ?_
                  refine K.D.DW.det (b := []) (u := []) rfl rfl rfl (fun vs hf => K.e_move rfl) ?_
                  refine K.D.DW.ev0 (b := [5]) (u := []) (a := []) rfl rfl rfl (fun vs hf => show K.D.EvM _ _ _ _ (_) [] _ _ _ _ _ from K.D.em_build (K.encI .i64) [_] mk56 rfl rfl rfl rfl) ?_
                  refine K.D.DW.ev0 (b := [4, 6]) (u := [4, 6]) (a := [4]) rfl rfl rfl (fun vs ⟨hf53, hf55, _⟩ => show K.D.EvM _ _ _ _ (_ :: _ :: _) [_] _ _ _ _ _ from K.D.em_append mk56 rfl rfl rfl rfl rfl (by first | omega | (simp only [List.length_cons, List.length_nil, List.length_append]; omega)) (by first | omega | (simp only [List.length_cons, List.length_nil, List.length_append]; omega))) ?_
                  refine K.D.DW.det (b := []) (u := []) rfl rfl rfl (fun vs hf => K.e_move rfl) ?_
                  refine K.D.DW.det (b := []) (u := []) rfl rfl rfl (fun vs hf => K.e_move rfl) ?_
                  refine K.D.DW.ev0 (b := [8, 9]) (u := []) (a := []) rfl rfl rfl (fun vs hf => show K.D.EvM _ _ _ _ (_) [] _ _ _ _ _ from K.D.em_partL sl56 rfl rfl rfl rfl (by omega) (by omega)) ?_
                  refine K.D.DW.ev0 (b := [7, 10]) (u := [7]) (a := [7]) rfl rfl rfl (fun vs ⟨hf56, ⟨hf59, hg59⟩, _⟩ => show K.D.EvM _ _ _ _ (_ :: _) [_] _ _ _ _ _ from K.D.em_append mk56 rfl rfl rfl rfl rfl (by first | omega | (simp only [List.length_cons, List.length_nil, List.length_append]; omega)) (by first | omega | (simp only [List.length_cons, List.length_nil, List.length_append]; omega))) ?_
                  refine K.D.DW.fin (fun vs hf => ?_)
                  refine K.GL.keep [1, 2, 3, 4, 5, 6, 7, 8, 9, 10, 11, 12, 13, 14, 15, 16, 17, 18, 19, 20, 21, 22, 23, 24, 25, 26, 27, 28, 29, 30, 31, 32, 33, 34, 35, 36, 37, 38, 39, 40, 41, 42, 43, 44, 45, 46, 47, 48, 49, 50, 51, 52, 53, 54, 55, 56, 57, 58, 59, 60, 61] rfl ?_
                  refine K.D.GL.res1 rfl ?_
                  try dsimp only
                  clear hf
                  generalize (vs 11 0).1 = a60, (vs 11 0).2 = c60
                  try clear vs
                  refine K.GL.det (K.e_assign rfl) rfl ?_
                  refine K.GL.nil ?_
                  refine K.GQ.block_normal ?_
                  refine K.GQ.go ?_
                  refine K.GC.region ?_
                  refine K.GL.det (K.e_move rfl) rfl ?_
                  first | refine K.GL.det (K.e_add rfl rfl ⟨by omega, by omega⟩) rfl ?_ | refine K.GL.det (K.e_addw rfl rfl) rfl ?_
                  refine K.GL.det (K.e_assign rfl) rfl ?_
                  refine K.GL.nil ?_
                  have htk := plc_take (p := Ext.used) hq
                  first
                    | (rw [if_neg (by unfold Ext.used; rw [decide_eq_true_eq, Classical.not_not]; assumption), List.append_nil] at htk
                       exact K.GQ.round (x + 1, acc, a1, c1) ⟨by simp only; omega, Or.inr (by assumption), by simp only [htk]; exact hI3, hI4⟩ (by simp only; omega) (by (repeat refine ⟨rfl, ?_⟩); exact trivial) K.sb)
                    | (rw [if_pos (by unfold Ext.used; exact decide_eq_true (by assumption))] at htk
                       exact K.GQ.round (x + 1, acc.take y ++ [(x : Int)] ++ acc.drop y, a60, c60) ⟨by simp only; omega, Or.inr (by assumption), by simp only [htk]; exact ins_perm.trans (List.Perm.append_right _ hI3), ins_sorted hq hI4 hJ hJ2 (by first | (left; assumption) | (right; exact ⟨_, (by rw [hyk]; exact hkj), (by rw [sqAt_nat hqj]; omega)⟩))⟩ (by simp only; omega) (by (repeat refine ⟨rfl, ?_⟩); exact trivial) (by dsimp only; simp only [List.nil_append]; exact K.sb))
    · first
      | exact absurd h2 (by decide)
      | try replace h2 := of_decide_eq_false h2
        refine K.GC.exit ?_
        refine K.GQ.then_exit ?_
        refine K.GQ.then_exit ?_
        refine K.GQ.block_hit ?_
        refine K.GQ.go ?_
        refine K.GC.seq ?_
        refine K.GC.region ?_
        refine K.GL.det (K.e_move rfl) rfl ?_
        refine K.GL.det (K.e_assign rfl) rfl ?_
        refine K.GL.nil ?_
        refine K.GQ.go ?_
        refine K.GC.ret ?_
        refine K.GQ.ret1 Try.results34 rfl (fun w hT => ?_)
        cases hR : rightB t with
        | true =>
          have hx : x = t.exts.length := by first | omega | (exfalso; simp_all; done)
          subst hx
          rw [List.take_length] at hI3
          have hp : ordT t = acc := by unfold ordT; rw [if_pos hR, ord_uniq ((right_iff t).1 hR) hI3 hI4]
          rw [hp]
          exact ⟨a1, c1, rfl, hT.sub K.sb⟩
        | false =>
          obtain rfl : x = 0 := hI2.resolve_right (by rw [hR]; decide)
          have hp : ordT t = acc := by unfold ordT; rw [if_neg (by rw [hR]; decide)]; exact (List.perm_nil.1 hI3).symm
          rw [hp]
          exact ⟨a1, c1, rfl, hT.sub K.sb⟩
section
variable {ops : Array Oper} {Q : Exit → Act → World → Prop} {N : Nat} {U : Env} {w0 : World} {L0 L F : List Res} {ty : TypeId} {rest : List Oper} {pos : String} {after : Array Edge} {xs : List Operand} {tys : Array TypeId} {dT : Tmp}
theorem gl_rtord_con {t : Tab} {a : Option Addr} {c : Nat} (hf : ∀ args w, (callFunc 34 args).run Try.prog w = .ok (.enter 34 args) w) (hx : opvs U xs = some [.agg (tabC t a c).toArray]) (hl : t.exts.length ≤ 9223372036854775807) [o0 : RdC w0 L0 [] L a (encX) (t.exts)] (hd : Nat.ble (dT + 1) N = true)
    (hr : ∀ (a' : Option Addr) (c' : Nat), GL Try.prog ops Q rest N ((dT, .slice a' (ordT t).length c') :: U) w0 L0 (trow a' c' 3 I6 (ordT t) :: L)) : GL Try.prog ops Q (⟨some dT, .call ⟨.value (.func 34), xs.toArray, tys⟩, ty, pos, after, Option.none⟩ :: rest) N U w0 L0 L :=
  GL.callM (α := (Option Addr) × (Nat)) (l := []) (Pv := fun y v => v = .slice y.1 (ordT t).length y.2) (l' := fun y => [trow y.1 y.2 3 I6 (ordT t)]) hf hx (Sub.refl _)
    (fun w hT => by
      have _o0 := o0.out w hT; exact (rtord_con hl).mono fun e w' ⟨a', c', h1, h2⟩ => ⟨(a', c'), _, h1, rfl, h2⟩) hd fun y v hv => by subst hv; exact hr y.1 y.2 
end
section
variable {ops : Array Oper} {Q : Exit → Act → World → Prop} {N : Nat} {U : Env} {w0 : World} {L0 L F : List Res} {ty : TypeId} {rest : List Oper} {pos : String} {after : Array Edge} {xs : List Operand} {tys : Array TypeId} {dT : Tmp}
theorem em_rtord_con {t : Tab} {a : Option Addr} {c : Nat} (hf : ∀ args w, (callFunc 34 args).run Try.prog w = .ok (.enter 34 args) w) (hx : opvs U xs = some [.agg (tabC t a c).toArray]) (hl : t.exts.length ≤ 9223372036854775807) [o0 : RdC w0 L0 [] L a (encX) (t.exts)] : K.D.EvM Try.prog U w0 L0 L [] (.call ⟨.value (.func 34), xs.toArray, tys⟩) ty (fun g => .slice (g 0).1 (ordT t).length (g 0).2) (fun g => True) (fun g => trow (g 0).1 (g 0).2 3 I6 (ordT t)) :=
  K.D.em_call hf hx fun w hT => by
    have hT1 := hT; have _o0 := o0.out w hT1; exact (rtord_con hl).mono fun e w' ⟨a', c', h1, h2⟩ => ⟨fun i => (a', c'), h1, trivial, h2⟩
end
end Go.Proofs.Ytdbedajaapamhaa
