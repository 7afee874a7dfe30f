/- TableChanges returns true for all tables and places. -/
import Derived.ProofKit
import Derived.OpenShut
import Derived.SizedLaws
import Derived.Lib.SmallJoins
import Derived.Test.YtdbedajaapamhaaRows
import Derived.Test.YtdbedajaapamhaaTabO
namespace Go.Proofs.Ytdbedajaapamhaa
open Go Go.K Go.ChangeShapes Go.WideShapes Go.ChangeAt Go.RowKit Go.Joins
set_option linter.unusedVariables false
set_option linter.unusedSimpArgs false
attribute [local irreducible] Calls Ev GL GC GQ GR Code.wp
theorem own : ownKnob Try.prog.godebug = none := by kernel_rfl
theorem laidOut : laidOutB Try.prog = true := by kernel_rfl

theorem freeT_le (t : Tab) : (freeT t).length ≤ t.exts.length := by
  have h := plc_len Ext.free t.exts
  unfold freeT
  split
  · exact h
  · simp
theorem nodup_inj {l : List Ext} (h : ∀ (x y : Nat) (p q : Ext), l[x]? = some p → l[y]? = some q → p.seq = q.seq → p.seq ≠ 0 → x = y) : (seqs l).Nodup := by
  have key : ∀ k, k ≤ l.length → (seqs (l.take k)).Nodup := by
    intro k
    induction k with
    | zero => intro _; exact List.nodup_nil
    | succ k ih =>
      intro hk
      obtain ⟨q, hq⟩ : ∃ q, l[k]? = some q := get_ex (by omega)
      exact nd_next hq (ih (by omega)) fun h0 j e hj hje he => by
        have := h j k e q hje hq he (by omega)
        omega
  have := key l.length (Nat.le_refl _)
  rwa [List.take_length] at this
def cE (t : Tab) (i : Nat) (q : Ext) : List Ext := t.exts.set i q
def cU (t : Tab) (i : Nat) : Tab := ⟨t.gen, -1, cE t i ⟨0, 0⟩⟩
def cV (t : Tab) (i : Nat) : Tab := ⟨t.gen, (i : Int), (cE t i ⟨0, 0⟩).set i ⟨lastT t + 1, 0⟩⟩
theorem cE_len (t : Tab) (i : Nat) (q : Ext) : (cE t i q).length = t.exts.length := List.length_set
theorem cV_exts (t : Tab) (i : Nat) : (cV t i).exts = cE t i ⟨lastT t + 1, 0⟩ := List.set_set ..
theorem cV_len (t : Tab) (i : Nat) : (cV t i).exts.length = t.exts.length := by rw [cV_exts, cE_len]
theorem cE_at {t : Tab} {i x : Nat} {q p : Ext} (hi : i < t.exts.length) (h : (cE t i q)[x]? = some p) : (x = i ∧ p = q) ∨ (x ≠ i ∧ t.exts[x]? = some p) := by
  unfold cE at h
  rcases Nat.decEq x i with hx | hx
  · rw [List.getElem?_set_ne (by omega)] at h; exact Or.inr ⟨hx, h⟩
  · subst hx; rw [List.getElem?_set_self hi] at h; cases h; exact Or.inl ⟨rfl, rfl⟩
theorem cE_ne {t : Tab} {i x : Nat} {q p : Ext} (hx : x ≠ i) (h : t.exts[x]? = some p) : (cE t i q)[x]? = some p := by
  unfold cE; rw [List.getElem?_set_ne (by omega)]; exact h
theorem last_ge {t : Tab} (h : RightP t) {x : Nat} {p : Ext} (hx : t.exts[x]? = some p) : p.seq ≤ lastT t := by
  rw [last_mxs h]; exact mxs_ge _ _ (List.mem_of_getElem? hx)
theorem last_nonneg {t : Tab} (h : RightP t) : 0 ≤ lastT t := by rw [last_mxs h]; exact mxs_nonneg _
theorem cE_right {t : Tab} (h : RightP t) {i : Nat} (hi : i < t.exts.length) {q : Ext} (hq : q.ok = true) (hs : q.seq = 0 ∨ lastT t < q.seq) : (∀ x ∈ cE t i q, x.ok = true) ∧ (seqs (cE t i q)).Nodup := by
  constructor
  · intro x hx
    obtain ⟨j, hj⟩ := List.getElem?_of_mem hx
    rcases cE_at hi hj with ⟨_, rfl⟩ | ⟨_, h1⟩
    · exact hq
    · exact h.ok _ (List.mem_of_getElem? h1)
  · refine nodup_inj fun x y p r hx hy e h0 => ?_
    rcases cE_at hi hx with ⟨hx1, rfl⟩ | ⟨hx1, hx2⟩ <;> rcases cE_at hi hy with ⟨hy1, rfl⟩ | ⟨hy1, hy2⟩
    · omega
    · have := last_ge h hy2; omega
    · have := last_ge h hx2; omega
    · exact dup_bad h hx2 hy2 e.symm h0
theorem cU_right {t : Tab} (h : RightP t) {i : Nat} (hi : i < t.exts.length) : RightP (cU t i) := by
  have hc := cE_right h hi (q := ⟨0, 0⟩) rfl (Or.inl rfl)
  have hn := cE_len t i ⟨0, 0⟩
  have h1 := h.n1; have h2 := h.n2
  exact ⟨h.g1, h.g2, by show 4 ≤ (cE t i ⟨0, 0⟩).length; omega, by show (cE t i ⟨0, 0⟩).length ≤ 8; omega, by show (-1 : Int) ≤ -1; omega, by show (-1 : Int) < ((cE t i ⟨0, 0⟩).length : Int); omega, hc.1, hc.2, rfl⟩
theorem cV_at {t : Tab} {i : Nat} (hi : i < t.exts.length) : (cV t i).exts[i]? = some ⟨lastT t + 1, 0⟩ := by
  rw [cV_exts]; unfold cE; rw [List.getElem?_set_self hi]
theorem cV_right {t : Tab} (h : RightP t) {i : Nat} (hi : i < t.exts.length) (hl : lastT t < 2147483648) : RightP (cV t i) := by
  have hl0 := last_nonneg h
  have hc := cE_right h hi (q := ⟨lastT t + 1, 0⟩) ((Ext.ok_iff _).2 ⟨by show 0 ≤ lastT t + 1; omega, by show lastT t + 1 ≤ 2147483648; omega, by show (0 : Int) ≤ 0; decide, by show (0 : Int) ≤ 3776; decide, Or.inr rfl⟩) (Or.inr (by show lastT t < lastT t + 1; omega))
  rw [← cV_exts] at hc
  have hn := cV_len t i
  have h1 := h.n1; have h2 := h.n2
  refine ⟨h.g1, h.g2, by omega, by omega, by show (-1 : Int) ≤ (i : Int); omega, by show (i : Int) < ((cV t i).exts.length : Int); omega, hc.1, hc.2, ?_⟩
  rw [opn_at (q := ⟨lastT t + 1, 0⟩) (by show ¬ ((i : Int) < 0); omega) (by show (cV t i).exts[((i : Int)).toNat]? = _; rw [Int.toNat_natCast]; exact cV_at hi)]
  unfold Ext.used
  rw [decide_eq_true (show lastT t + 1 ≠ 0 by omega)]; rfl
theorem plc_nodup {p : Ext → Bool} (l : List Ext) : (plc p l).Nodup := List.Pairwise.imp (fun h e => by omega) (plc_sorted p l)
theorem mem_used {t : Tab} {k : Nat} (hk : k < t.exts.length) {p : Ext → Bool} {v : Ext} (hv : t.exts[k]? = some v) : (k : Int) ∈ plc p t.exts ↔ p v = true := by
  rw [plc_mem]
  constructor
  · rintro ⟨j, hj, x, hx, hp⟩
    obtain rfl : j = k := by omega
    rw [hv] at hx; cases hx; exact hp
  · intro hp; exact ⟨k, rfl, v, hv, hp⟩
theorem plc_ext {t : Tab} {p : Ext → Bool} {l : List Ext} {A : List Int} (hA : ∀ a ∈ A, ∃ k : Nat, a = k ∧ k < l.length) (hn : A.Nodup) (h : ∀ (k : Nat) (v : Ext), l[k]? = some v → ((k : Int) ∈ A ↔ p v = true)) : A.Perm (plc p l) := by
  rw [List.perm_ext_iff_of_nodup hn (plc_nodup l)]
  intro a
  rw [plc_mem]
  constructor
  · intro ha
    obtain ⟨k, rfl, hk⟩ := hA a ha
    obtain ⟨v, hv⟩ := get_ex hk
    exact ⟨k, rfl, v, hv, (h k v hv).1 ha⟩
  · rintro ⟨k, rfl, v, hv, hp⟩
    exact (h k v hv).2 hp
theorem used0 {q : Ext} (h : q.seq = 0) : q.used = false := by unfold Ext.used; rw [h]; rfl
theorem used1 {q : Ext} (h : q.seq ≠ 0) : q.used = true := by unfold Ext.used; exact decide_eq_true h
theorem free0 {q : Ext} (h : q.seq = 0) : q.free = true := by unfold Ext.free; exact decide_eq_true h
theorem free1 {q : Ext} (h : q.seq ≠ 0) : q.free = false := by unfold Ext.free; exact decide_eq_false h
theorem ch_mem {t : Tab} {i : Nat} (hi : i < t.exts.length) {p : Ext → Bool} (hp : p ⟨0, 0⟩ = false) (a : Int) (h : a ∈ plc p (cU t i).exts) : ∃ (k : Nat) (v : Ext), a = k ∧ k ≠ i ∧ t.exts[k]? = some v ∧ p v = true := by
  obtain ⟨k, rfl, v, hv, hpv⟩ := plc_mem.1 h
  rcases cE_at hi hv with ⟨_, rfl⟩ | ⟨h1, h2⟩
  · rw [hp] at hpv; cases hpv
  · exact ⟨k, v, rfl, h1, h2, hpv⟩
theorem ch_perm {t : Tab} (h : RightP t) {i : Nat} (hi : i < t.exts.length) : (plc Ext.used (cU t i).exts ++ [(i : Int)]).Perm (plc Ext.used (cV t i).exts) := by
  have hl0 := last_nonneg h
  have hm := ch_mem (t := t) (i := i) hi (p := Ext.used) rfl
  refine plc_ext (t := t) (fun a ha => ?_) ?_ (fun k v hv => ?_)
  · rcases List.mem_append.1 ha with h1 | h1
    · obtain ⟨k, v, rfl, _, h2, _⟩ := hm a h1
      exact ⟨k, rfl, by rw [cV_len]; exact len_of h2⟩
    · simp only [List.mem_singleton] at h1
      exact ⟨i, h1, by rw [cV_len]; exact hi⟩
  · rw [List.nodup_append]
    refine ⟨plc_nodup _, by simp, fun a ha b hb e => ?_⟩
    simp only [List.mem_singleton] at hb
    obtain ⟨k, v, rfl, h1, _⟩ := hm a ha
    omega
  · rw [cV_exts] at hv
    rcases cE_at hi hv with ⟨rfl, rfl⟩ | ⟨h1, h2⟩
    · rw [used1 (by show lastT t + 1 ≠ 0; omega)]; simp
    · rw [List.mem_append, mem_used (t := cU t i) (by show k < (cE t i ⟨0, 0⟩).length; rw [cE_len]; exact len_of h2) (cE_ne h1 h2)]
      simp only [List.mem_singleton]
      constructor
      · rintro (h3 | h3)
        · exact h3
        · omega
      · exact Or.inl
theorem ch_free {t : Tab} (h : RightP t) {i : Nat} (hi : i < t.exts.length) : (plc Ext.free (cV t i).exts ++ [(i : Int)]).Perm (plc Ext.free (cU t i).exts) := by
  have hl0 := last_nonneg h
  have hm : ∀ a ∈ plc Ext.free (cV t i).exts, ∃ (k : Nat) (v : Ext), a = k ∧ k ≠ i ∧ t.exts[k]? = some v ∧ v.free = true := fun a ha => by
    obtain ⟨k, rfl, v, hv, hpv⟩ := plc_mem.1 ha
    rw [cV_exts] at hv
    rcases cE_at hi hv with ⟨_, rfl⟩ | ⟨h1, h2⟩
    · rw [free1 (by show lastT t + 1 ≠ 0; omega)] at hpv; cases hpv
    · exact ⟨k, v, rfl, h1, h2, hpv⟩
  refine plc_ext (t := t) (fun a ha => ?_) ?_ (fun k v hv => ?_)
  · rcases List.mem_append.1 ha with h1 | h1
    · obtain ⟨k, v, rfl, _, h2, _⟩ := hm a h1
      exact ⟨k, rfl, by show k < (cE t i ⟨0, 0⟩).length; rw [cE_len]; exact len_of h2⟩
    · simp only [List.mem_singleton] at h1
      exact ⟨i, h1, by show i < (cE t i ⟨0, 0⟩).length; rw [cE_len]; exact hi⟩
  · rw [List.nodup_append]
    refine ⟨plc_nodup _, by simp, fun a ha b hb e => ?_⟩
    simp only [List.mem_singleton] at hb
    obtain ⟨k, v, rfl, h1, _⟩ := hm a ha
    omega
  · rcases cE_at hi hv with ⟨rfl, rfl⟩ | ⟨h1, h2⟩
    · rw [free0 rfl]; simp
    · rw [List.mem_append, mem_used (t := cV t i) (by rw [cV_len]; exact len_of h2) (by rw [cV_exts]; exact cE_ne h1 h2)]
      simp only [List.mem_singleton]
      constructor
      · rintro (h3 | h3)
        · exact h3
        · omega
      · exact Or.inl
theorem ch_ord {t : Tab} (h : RightP t) {i : Nat} (hi : i < t.exts.length) (hl : lastT t < 2147483648) : ordT (cV t i) = ordT (cU t i) ++ [(i : Int)] := by
  have hu := cU_right h hi
  have hv := cV_right h hi hl
  have e1 : ordT (cV t i) = ordA (cV t i) := by unfold ordT; rw [if_pos ((right_iff _).2 hv)]
  have e2 : ordT (cU t i) = ordA (cU t i) := by unfold ordT; rw [if_pos ((right_iff _).2 hu)]
  rw [e1, e2]
  have hm := ch_mem (t := t) (i := i) hi (p := Ext.used) rfl
  have hsq : ∀ a ∈ ordA (cU t i), sqAt (cV t i).exts a = sqAt (cU t i).exts a ∧ sqAt (cU t i).exts a ≤ lastT t := fun a ha => by
    obtain ⟨k, v, rfl, h1, h2, _⟩ := hm a ((ordA_perm _).mem_iff.1 ha)
    have e3 : (cU t i).exts[k]? = some v := cE_ne h1 h2
    have e4 : (cV t i).exts[k]? = some v := by rw [cV_exts]; exact cE_ne h1 h2
    rw [sqAt_nat e3, sqAt_nat e4]
    exact ⟨rfl, last_ge h h2⟩
  refine (ord_uniq hv (((ordA_perm _).append_right _).trans (ch_perm h hi)) ?_).symm
  rw [List.pairwise_append]
  refine ⟨List.Pairwise.imp_of_mem (fun ha hb hab => by rw [(hsq _ ha).1, (hsq _ hb).1]; exact hab) (ordA_sorted (cU t i)), by simp, fun a ha b hb => ?_⟩
  simp only [List.mem_singleton] at hb
  subst hb
  rw [(hsq a ha).1, sqAt_nat (cV_at hi)]
  have := (hsq a ha).2
  show _ ≤ lastT t + 1
  omega
theorem ch_freelen {t : Tab} (h : RightP t) {i : Nat} (hi : i < t.exts.length) (hl : lastT t < 2147483648) : ((freeT (cU t i)).length : Int) = (freeT (cV t i)).length + 1 := by
  have h1 := (ch_free h hi).length_eq
  unfold freeT
  rw [if_pos ((right_iff _).2 (cU_right h hi)), if_pos ((right_iff _).2 (cV_right h hi hl))]
  rw [List.length_append, List.length_singleton] at h1
  omega
theorem ch_last {t : Tab} (h : RightP t) {i : Nat} (hi : i < t.exts.length) (hl : lastT t < 2147483648) : lastT (cV t i) = lastT t + 1 := by
  unfold lastT
  rw [ch_ord h hi hl, List.getLast?_append]
  simp only [List.getLast?_singleton, Option.some_or, Option.map_some, Option.getD_some]
  rw [sqAt_nat (cV_at hi)]
  rfl
/- turntable/turntablelaw09.TableChanges -/
set_option maxHeartbeats 8000000 in
set_option maxRecDepth 100000 in
theorem changes_con {t : Tab} {x : Nat} {a : Option Addr} {c : Nat} {w : World} (hl : t.exts.length ≤ 9223372036854775807) (hx8 : x < 256) [Old w [] a (encX) (t.exts)] :
    Calls Try.prog 13 #[.agg (tabC t a c).toArray, .int .u8 (x : Int)] w fun e w' => e = .returned (.bool true) ∧ Tr w [] w' [] := by
  refine K.enter0 (args := [_, _]) Try.func13 rfl Try.ntmps13 rfl ?_
  refine K.GC.seq ?_
  refine K.GC.region ?_
  refine K.GL.box rfl rfl rfl (fun b2 => ?_)
  refine K.GL.det (K.e_assign rfl) rfl ?_
  refine K.GL.nil ?_
  refine K.GQ.go ?_
  refine K.GC.seq ?_
  refine K.GC.region ?_
  refine K.GL.det (ev_head_con Try.call26 rfl ) rfl ?_
  refine K.GL.det (K.e_assign rfl) rfl ?_
  refine K.GL.nil ?_
  refine K.GQ.go ?_
  refine K.GC.seq ?_
  refine K.GC.seq ?_
  refine K.GC.region ?_
  first | refine K.GL.det (K.e_ldA Try.isAgg29 Try.sizeOf29 rfl rfl (by assumption)) rfl ?_ | refine K.GL.det (K.e_ldAF Try.isAgg29 Try.sizeOf29 rfl rfl (by assumption) rfl) rfl ?_ | refine K.GL.det (K.e_loads Try.isAgg29 Try.sizeOf29 rfl rfl) rfl ?_
  refine K.GL.det (ev_right_con Try.call29 rfl (by first | assumption | omega | rfl | decide)) rfl ?_
  first | refine K.GL.det (K.e_notp rfl) rfl ?_ | refine K.GL.det (K.e_not rfl) rfl ?_
  refine K.GL.det (K.e_move rfl) rfl ?_
  first | refine K.GL.splitB 14 rfl (fun h1 => ?_) (fun h1 => ?_) | skip
  all_goals first | exact absurd h1 (by decide) | replace h1 := of_decide_eq_true h1 | replace h1 := of_decide_eq_false h1 | skip
  all_goals
    first | (refine K.GL.want 14 rfl rfl rfl ?_; first | refine K.GL.det (K.e_ldA Try.isAgg29 Try.sizeOf29 rfl rfl (by assumption)) rfl ?_ | refine K.GL.det (K.e_ldAF Try.isAgg29 Try.sizeOf29 rfl rfl (by assumption) rfl) rfl ?_ | refine K.GL.det (K.e_loads Try.isAgg29 Try.sizeOf29 rfl rfl) rfl ?_) | refine K.GL.skip 14 rfl rfl rfl rfl ?_ | refine K.GL.skipU 14 rfl rfl rfl rfl ?_
    first | (refine K.GL.want 14 rfl rfl rfl ?_; first | refine K.GL.det (ev_tlast_con Try.call37 rfl (by first | assumption | omega | rfl | decide)) rfl ?_) | refine K.GL.skip 14 rfl rfl rfl rfl ?_ | refine K.GL.skipU 14 rfl rfl rfl rfl ?_
    first | (refine K.GL.want 14 rfl rfl rfl ?_; first | refine K.GL.det ((K.e_ge rfl rfl).yes (by first | omega | assumption | decide +kernel)) rfl ?_ | refine K.GL.det ((K.e_ge rfl rfl).no (by first | omega | assumption | decide +kernel)) rfl ?_ | refine K.GL.det (K.e_ge rfl rfl) rfl ?_) | refine K.GL.skip 14 rfl rfl rfl rfl ?_ | refine K.GL.skipU 14 rfl rfl rfl rfl ?_
    first | refine K.GL.det (K.e_pick_t rfl rfl) rfl ?_ | refine K.GL.det (K.e_pick_f rfl rfl) rfl ?_
    refine K.GL.nil ?_
    refine K.GQ.go ?_
    refine K.GC.condB rfl (fun h2 => ?_) (fun h2 => ?_)
    · first
      | exact absurd h2 (by decide)
      | try replace h2 := of_decide_eq_true h2
        refine K.GC.seq ?_
        refine K.GC.region ?_
        refine K.GL.det (K.e_move rfl) rfl ?_
        refine K.GL.det (K.e_assign rfl) rfl ?_
        refine K.GL.nil ?_
        refine K.GQ.go ?_
        refine K.GC.ret ?_
        refine K.GQ.then_ret ?_
        refine K.GQ.ret1 Try.results13 rfl (fun w hT => ?_)
        exact ⟨rfl, hT.nil⟩
    · first
      | exact absurd h2 (by decide)
      | try replace h2 := of_decide_eq_false h2
        refine K.GC.skip ?_
        refine K.GQ.go ?_
        refine K.GC.seq ?_
        have hP := (right_iff t).1 (by simp_all)
        have hn1 := hP.n1
        have hn2 := hP.n2
        have hlt : lastT t < 2147483648 := by omega
        have hl0 := last_nonneg hP
        refine K.GC.region ?_
        refine K.GL.det (K.e_move rfl) rfl ?_
        refine K.GL.det (K.e_conv Try.underlying5 Try.underlying3 rfl (K.wrap_i64 (by omega) (by omega))) rfl ?_
        first | refine K.GL.det (K.e_fa fo29_2 rfl) rfl ?_ | refine K.GL.det (K.e_fieldAddr fo29_2 rfl) rfl ?_
        first | refine K.GL.det (K.e_ldE Try.isAgg27 rfl rfl (by assumption) rfl) rfl ?_ | refine K.GL.det (K.e_ldF Try.isAgg27 rfl rfl (by assumption) rfl) rfl ?_ | refine K.GL.det (K.e_load Try.isAgg27 rfl rfl) rfl ?_ | refine K.GL.det (K.e_load0 Try.isAgg27 rfl (by assumption)) rfl ?_
        refine K.GL.det (K.e_len Try.underlying27 rfl) rfl ?_
        refine K.GL.det ((K.e_rem rfl rfl (by omega) (by omega) (by omega)).cast_int (b := ((x % t.exts.length : Nat) : Int)) (by omega)) rfl ?_
        refine K.GL.det (K.e_assign rfl) rfl ?_
        refine K.GL.nil ?_
        refine K.GQ.go ?_
        refine K.GC.seq ?_
        have hi : x % t.exts.length < t.exts.length := Nat.mod_lt _ (by omega)
        generalize x % t.exts.length = i at hi ⊢
        refine K.GC.region ?_
        first | refine K.GL.det (K.e_ldA Try.isAgg29 Try.sizeOf29 rfl rfl (by assumption)) rfl ?_ | refine K.GL.det (K.e_ldAF Try.isAgg29 Try.sizeOf29 rfl rfl (by assumption) rfl) rfl ?_ | refine K.GL.det (K.e_loads Try.isAgg29 Try.sizeOf29 rfl rfl) rfl ?_
        refine K.GL.alloc Try.zeroValue29 rfl rfl (fun b7 => ?_)
        refine K.GL.storeP (vs := tabC t a c) (cs' := tabC t a c) rfl rfl rfl Try.sizeOf29 rfl rfl (by exact spliceO_all rfl) ?_
        refine K.GL.nil ?_
        refine K.GQ.go ?_
        refine K.GC.seq ?_
        refine K.GC.region ?_
        refine K.GL.buildT encX [] mk27 rfl rfl rfl rfl rfl (fun b27 => ?_)
        first | refine K.GL.det (K.e_fa fo29_2 rfl) rfl ?_ | refine K.GL.det (K.e_fieldAddr fo29_2 rfl) rfl ?_
        first | refine K.GL.det (K.e_ldE Try.isAgg27 rfl rfl (by assumption) rfl) rfl ?_ | refine K.GL.det (K.e_ldF Try.isAgg27 rfl rfl (by assumption) rfl) rfl ?_ | refine K.GL.det (K.e_load Try.isAgg27 rfl rfl) rfl ?_ | refine K.GL.det (K.e_load0 Try.isAgg27 rfl (by assumption)) rfl ?_
        first | refine K.GL.appendT mk27 rfl rfl rfl rfl rfl (by first | omega | (simp only [List.length_cons, List.length_nil, List.length_append]; omega)) (by first | omega | (simp only [List.length_cons, List.length_nil, List.length_append]; omega)) rfl (fun a30 c30 => ?_) | (refine K.GL.trow0 62 encX ?_; refine K.GL.appendT mk27 rfl rfl rfl rfl rfl (by first | omega | (simp only [List.length_cons, List.length_nil, List.length_append]; omega)) (by first | omega | (simp only [List.length_cons, List.length_nil, List.length_append]; omega)) rfl (fun a30 c30 => ?_))
        rw [List.nil_append]
        first | refine K.GL.det (K.e_fa fo29_2 rfl) rfl ?_ | refine K.GL.det (K.e_fieldAddr fo29_2 rfl) rfl ?_
        refine K.GL.store rfl rfl rfl Try.sizeOf27 rfl rfl ?_
        refine K.GL.nil ?_
        refine K.GQ.go ?_
        refine K.GC.seq ?_
        refine K.GC.region ?_
        first | refine K.GL.det (K.e_fa fo29_2 rfl) rfl ?_ | refine K.GL.det (K.e_fieldAddr fo29_2 rfl) rfl ?_
        first | refine K.GL.det (K.e_ldE Try.isAgg27 rfl rfl (by assumption) rfl) rfl ?_ | refine K.GL.det (K.e_ldF Try.isAgg27 rfl rfl (by assumption) rfl) rfl ?_ | refine K.GL.det (K.e_load Try.isAgg27 rfl rfl) rfl ?_ | refine K.GL.det (K.e_load0 Try.isAgg27 rfl (by assumption)) rfl ?_
        refine K.GL.det (K.e_move rfl) rfl ?_
        refine K.GL.det (K.e_build lay62 rfl) rfl ?_
        refine K.GL.ix (j := i) sl27 rfl rfl rfl rfl hi rfl (fun q36 hq36 => ?_)
        refine K.GL.storeT (⟨0, 0⟩ : Ext) rfl rfl rfl Try.sizeOf62 rfl (by exact hi) ?_
        refine K.GL.nil ?_
        refine K.GQ.go ?_
        refine K.GC.seq ?_
        refine K.GC.region ?_
        first | refine K.GL.det (K.e_fa fo29_1 rfl) rfl ?_ | refine K.GL.det (K.e_fieldAddr fo29_1 rfl) rfl ?_
        refine K.GL.store rfl rfl rfl Try.sizeOf3 rfl rfl ?_
        refine K.GL.nil ?_
        refine K.GQ.go ?_
        refine K.GC.seq ?_
        have hcl := cE_len t i ⟨0, 0⟩
        have hcu : (cU t i).exts.length = t.exts.length := hcl
        have hiu : i < (cU t i).exts.length := by show i < (cE t i ⟨0, 0⟩).length; omega
        have hluU : (cU t i).exts.length ≤ 9223372036854775807 := by show (cE t i ⟨0, 0⟩).length ≤ _; omega
        have hluV : (cV t i).exts.length ≤ 9223372036854775807 := by rw [cV_len]; exact hl
        have eb7 : [Value.int .i64 t.gen, Value.int .i64 (-1), Value.slice a30 t.exts.length c30] = tabC (cU t i) a30 c30 := by show _ = [_, _, Value.slice a30 (Tab.exts (cU t i)).length c30]; rw [show (Tab.exts (cU t i)).length = t.exts.length from hcl]; try rfl
        refine K.GC.res (L' := [trow a30 c30 62 encX (cE t i ⟨0, 0⟩), cl b7 29 [Value.int .i64 t.gen, Value.int .i64 (-1), Value.slice a30 t.exts.length c30], cl b2 29 (tabC t a c)]) ?_ (K.Sub.refl _)
        rw [eb7]
        refine K.GC.region ?_
        first | refine K.GL.det (K.e_ldA Try.isAgg29 Try.sizeOf29 rfl rfl (by assumption)) rfl ?_ | refine K.GL.det (K.e_ldAF Try.isAgg29 Try.sizeOf29 rfl rfl (by assumption) rfl) rfl ?_ | refine K.GL.det (K.e_loads Try.isAgg29 Try.sizeOf29 rfl rfl) rfl ?_
        refine K.GL.alloc Try.zeroValue29 rfl rfl (fun b8 => ?_)
        refine K.GL.storeP (vs := tabC (cU t i) a30 c30) (cs' := tabC (cU t i) a30 c30) rfl rfl rfl Try.sizeOf29 rfl rfl (by exact spliceO_all rfl) ?_
        refine K.GL.nil ?_
        refine K.GQ.go ?_
        refine K.GC.seq ?_
        refine K.GC.region ?_
        refine K.GL.buildT encX [] mk27 rfl rfl rfl rfl rfl (fun b39 => ?_)
        first | refine K.GL.det (K.e_fa fo29_2 rfl) rfl ?_ | refine K.GL.det (K.e_fieldAddr fo29_2 rfl) rfl ?_
        first | refine K.GL.det (K.e_ldE Try.isAgg27 rfl rfl (by assumption) rfl) rfl ?_ | refine K.GL.det (K.e_ldF Try.isAgg27 rfl rfl (by assumption) rfl) rfl ?_ | refine K.GL.det (K.e_load Try.isAgg27 rfl rfl) rfl ?_ | refine K.GL.det (K.e_load0 Try.isAgg27 rfl (by assumption)) rfl ?_
        first | refine K.GL.appendT mk27 rfl rfl rfl rfl rfl (by first | omega | (simp only [List.length_cons, List.length_nil, List.length_append]; omega)) (by first | omega | (simp only [List.length_cons, List.length_nil, List.length_append]; omega)) rfl (fun a42 c42 => ?_) | (refine K.GL.trow0 62 encX ?_; refine K.GL.appendT mk27 rfl rfl rfl rfl rfl (by first | omega | (simp only [List.length_cons, List.length_nil, List.length_append]; omega)) (by first | omega | (simp only [List.length_cons, List.length_nil, List.length_append]; omega)) rfl (fun a42 c42 => ?_))
        rw [List.nil_append]
        first | refine K.GL.det (K.e_fa fo29_2 rfl) rfl ?_ | refine K.GL.det (K.e_fieldAddr fo29_2 rfl) rfl ?_
        refine K.GL.store rfl rfl rfl Try.sizeOf27 rfl rfl ?_
        refine K.GL.nil ?_
        refine K.GQ.go ?_
        refine K.GC.seq ?_
        refine K.D.GC.drawn0 8 [[], [0], [], [], [3], [3, 4], [3, 4, 5], [0, 1, 2, 3, 4, 5, 6], [0, 1, 2, 3, 4, 5, 6, 7]] [[], [0], [], [], [3], [4], [5], [1, 2]] [[], [], [], [], [], [], [], []] [[], [], [], [], [], [], [], []] [] [2, 4, 5, 6, 7, 8, 9, 52, 53, 54, 55, 56, 57, 58, 59, 60, 61, 62, 63, 64, 65, 66, 67, 68, 69, 70, 71, 72, 73, 74, 75, 76, 77, 78, 79, 80, 81, 82, 83, 84, 85, 86, 87, 88, 89, 90, 91, 92, 93, 94, 95, 96, 97, 98, 99, 100, 101, 102, 103, 104, 105] (by kernel_rfl) (by kernel_rfl) (by kernel_rfl) rfl ?_
        first | refine K.D.DW.det (b := []) (u := []) rfl rfl rfl (fun vs hf => K.e_fa fo29_2 rfl) ?_ | refine K.D.DW.det (b := []) (u := []) rfl rfl rfl (fun vs hf => K.e_fieldAddr fo29_2 rfl) ?_
        first | refine K.D.DW.det (b := [0]) (u := []) rfl rfl rfl (fun vs hf => K.e_ldE Try.isAgg27 rfl rfl (by assumption) rfl) ?_ | refine K.D.DW.det (b := [0]) (u := []) rfl rfl rfl (fun vs hf => K.e_ldF Try.isAgg27 rfl rfl (by assumption) rfl) ?_ | refine K.D.DW.det (b := [0]) (u := []) rfl rfl rfl (fun vs hf => K.e_load Try.isAgg27 rfl rfl) ?_ | refine K.D.DW.det (b := [0]) (u := []) rfl rfl rfl (fun vs hf => K.e_load0 Try.isAgg27 rfl (by assumption)) ?_
        refine K.D.DW.det (b := []) (u := []) rfl rfl rfl (fun vs hf => K.e_move rfl) ?_
        first | refine K.D.DW.det (b := []) (u := []) rfl rfl rfl (fun vs hf => K.e_ldA Try.isAgg29 Try.sizeOf29 rfl rfl (by assumption)) ?_ | refine K.D.DW.det (b := []) (u := []) rfl rfl rfl (fun vs hf => K.e_ldAF Try.isAgg29 Try.sizeOf29 rfl rfl (by assumption) rfl) ?_ | refine K.D.DW.det (b := []) (u := []) rfl rfl rfl (fun vs hf => K.e_loads Try.isAgg29 Try.sizeOf29 rfl rfl) ?_
        refine K.D.DW.det (b := [3]) (u := []) rfl rfl rfl (fun vs hf => ev_tlast_con Try.call37 rfl (by first | assumption | omega | rfl | decide)) ?_
        first | refine K.D.DW.det (b := [4]) (u := []) rfl rfl rfl (fun vs hf => K.e_add rfl rfl ⟨by omega, by omega⟩) ?_ | refine K.D.DW.det (b := [4]) (u := []) rfl rfl rfl (fun vs hf => K.e_addw rfl rfl) ?_
        refine K.D.DW.det (b := [5]) (u := []) rfl rfl rfl (fun vs hf => K.e_build lay62 rfl) ?_
        first | refine K.D.DW.det (b := [1, 2]) (u := []) rfl rfl rfl (fun vs hf => K.e_ixN sl27 rfl rfl rfl rfl (by omega)) ?_ | refine K.D.DW.det (b := [1, 2]) (u := []) rfl rfl rfl (fun vs hf => K.e_ix sl27 rfl rfl rfl rfl (by omega) (by omega)) ?_ | refine K.D.DW.det (b := [1, 2]) (u := []) rfl rfl rfl (fun vs hf => K.e_indexAddrS sl27 rfl rfl (by assumption) (by omega) (by omega)) ?_ | refine K.D.DW.det (b := [1, 2]) (u := []) rfl rfl rfl (fun vs hf => K.e_indexAddr sl27 rfl rfl (by omega) (by omega)) ?_
        refine K.D.DW.fin (fun vs hf => ?_)
        refine K.GL.keep [2, 4, 5, 6, 7, 8, 9, 50, 51, 52, 53, 54, 55, 56, 57, 58, 59, 60, 61, 62, 63, 64, 65, 66, 67, 68, 69, 70, 71, 72, 73, 74, 75, 76, 77, 78, 79, 80, 81, 82, 83, 84, 85, 86, 87, 88, 89, 90, 91, 92, 93, 94, 95, 96, 97, 98, 99, 100, 101, 102, 103, 104, 105] rfl ?_
        refine K.D.GL.res0 rfl ?_
        clear hf
        try clear vs
        refine K.GL.storeT (⟨lastT t + 1, 0⟩ : Ext) rfl rfl rfl Try.sizeOf62 rfl (by exact hiu) ?_
        refine K.GL.nil ?_
        refine K.GQ.go ?_
        refine K.GC.seq ?_
        refine K.GC.region ?_
        refine K.GL.det (K.e_move rfl) rfl ?_
        first | refine K.GL.det (K.e_fa fo29_1 rfl) rfl ?_ | refine K.GL.det (K.e_fieldAddr fo29_1 rfl) rfl ?_
        refine K.GL.store rfl rfl rfl Try.sizeOf3 rfl rfl ?_
        refine K.GL.nil ?_
        refine K.GQ.go ?_
        refine K.GC.seq ?_
        have eb8 : [Value.int .i64 t.gen, Value.int .i64 (i : Int), Value.slice a42 (cE t i ⟨0, 0⟩).length c42] = tabC (cV t i) a42 c42 := by show _ = [_, _, Value.slice a42 (Tab.exts (cV t i)).length c42]; rw [show (Tab.exts (cV t i)).length = (cE t i ⟨0, 0⟩).length from ((cV_len t i).trans hcl.symm)]; try rfl
        refine K.GC.res (L' := [trow a42 c42 62 encX (cV t i).exts, cl b8 29 [Value.int .i64 t.gen, Value.int .i64 (i : Int), Value.slice a42 (cE t i ⟨0, 0⟩).length c42], trow a30 c30 62 encX (cE t i ⟨0, 0⟩), cl b7 29 (tabC (cU t i) a30 c30), cl b2 29 (tabC t a c)]) ?_ (K.Sub.refl _)
        rw [eb8]
        refine K.GC.region ?_
        first | refine K.GL.det (K.e_ldA Try.isAgg29 Try.sizeOf29 rfl rfl (by assumption)) rfl ?_ | refine K.GL.det (K.e_ldAF Try.isAgg29 Try.sizeOf29 rfl rfl (by assumption) rfl) rfl ?_ | refine K.GL.det (K.e_loads Try.isAgg29 Try.sizeOf29 rfl rfl) rfl ?_
        refine gl_tord_con (t := cV t i) Try.call33 rfl hluV rfl (fun a55 c55 => ?_)
        refine K.GL.det (K.e_assign rfl) rfl ?_
        refine K.GL.nil ?_
        refine K.GQ.go ?_
        refine K.GC.seq ?_
        refine K.GC.seq ?_
        refine K.GC.capT a55 (fun hcap => ?_)
        have hol := ordT_le (cU t i)
        rw [ch_ord hP hi hlt] at hcap ⊢
        have holn : (ordT (cU t i) ++ [(i : Int)]).length = (ordT (cU t i)).length + 1 := by simp
        have hqi : (ordT (cU t i) ++ [(i : Int)])[(ordT (cU t i)).length]? = some (i : Int) := by rw [List.getElem?_append_right (Nat.le_refl _)]; simp
        have hPU := cU_right hP hi
        have hPV := cV_right hP hi hlt
        have hfl := ch_freelen hP hi hlt
        have hflU := freeT_le (cU t i)
        have hflV := freeT_le (cV t i)
        refine K.GC.region ?_
        refine K.GL.det (K.e_move rfl) rfl ?_
        refine K.GL.det (K.e_len Try.underlying56 rfl) rfl ?_
        first | refine K.GL.det ((K.e_eq rfl rfl).yes (by first | omega | assumption | decide +kernel)) rfl ?_ | refine K.GL.det ((K.e_eq rfl rfl).no (by first | omega | assumption | decide +kernel)) rfl ?_ | refine K.GL.det (K.e_eq rfl rfl) rfl ?_
        refine K.GL.nil ?_
        refine K.GQ.go ?_
        refine K.GC.condB rfl (fun h3 => ?_) (fun h3 => ?_)
        · first
          | exact absurd h3 (by decide)
          | try replace h3 := of_decide_eq_true h3
            refine K.GC.seq ?_
            refine K.GC.region ?_
            refine K.GL.det (K.e_assign rfl) rfl ?_
            refine K.GL.nil ?_
            refine K.GQ.go ?_
            refine K.GC.ret ?_
            refine K.GQ.then_ret ?_
            refine K.GQ.ret1 Try.results13 rfl (fun w hT => ?_)
            exact ⟨rfl, hT.nil⟩
        · first
          | exact absurd h3 (by decide)
          | try replace h3 := of_decide_eq_false h3
            refine K.GC.skip ?_
            refine K.GQ.go ?_
            refine K.GC.seq ?_
            refine K.D.GC.drawn0 47 [[], [0], [0, 1], [0, 1, 2], [0, 1, 2, 3], [0, 1, 2, 3, 4], [0, 1, 2, 3, 4, 5], [0, 1, 2, 3, 4, 5, 6], [0, 1, 2, 3, 4, 5, 6, 7], [0, 1, 2, 3, 4, 5, 6, 7, 8], [0, 1, 2, 3, 4, 5, 6, 7, 8, 9], [0, 1, 2, 3, 4, 5, 6, 7, 8, 9, 10], [0, 1, 2, 3, 4, 5, 6, 7, 8, 9, 10, 11], [0, 1, 2, 3, 4, 5, 6, 7, 8, 9], [0, 1, 2, 3, 4, 5, 6, 7, 8, 9, 10, 11, 13], [0, 1, 2, 3, 4, 5, 6, 7, 8, 9, 10, 11, 13, 14], [0, 1, 2, 3, 4, 5, 6, 7, 8, 9, 10, 11, 13, 14, 15], [0, 1, 2, 3, 4, 5, 6, 7, 8, 9, 10, 11, 12, 13, 14, 15, 16], [0, 1, 2, 3, 4, 5, 6, 7, 8, 9, 10, 11, 12, 13, 14, 15, 16, 17], [0, 1, 2, 3, 4, 5, 6, 7, 8, 9, 10, 11, 12, 13, 14, 15, 16, 17, 18], [0, 1, 2, 3, 4, 5, 6, 7, 8, 9, 10, 11, 12, 13, 14, 15, 16, 17, 18, 19], [0, 1, 2, 3, 4, 5, 6, 7, 8, 9, 10, 11, 12, 13, 14, 15, 16, 17, 18, 19], [0, 1, 2, 3, 4, 5, 6, 7, 8, 9, 10, 11, 12, 13, 14, 15, 16, 17, 18, 19, 21], [0, 1, 2, 3, 4, 5, 6, 7, 8, 9, 10, 11, 12, 13, 14, 15, 16, 17, 18, 19, 21, 22], [0, 1, 2, 3, 4, 5, 6, 7, 8, 9, 10, 11, 12, 13, 14, 15, 16, 17, 18, 19, 20, 21, 22, 23], [0, 1, 2, 3, 4, 5, 6, 7, 8, 9, 10, 11, 12, 13, 14, 15, 16, 17, 18, 19, 20, 21, 22, 23, 24], [0, 1, 2, 3, 4, 5, 6, 7, 8, 9, 10, 11, 12, 13, 14, 15, 16, 17, 18, 19], [0, 1, 2, 3, 4, 5, 6, 7, 8, 9, 10, 11, 12, 13, 14, 15, 16, 17, 18, 19, 20, 21, 22, 23, 24, 25, 26], [0, 1, 2, 3, 4, 5, 6, 7, 8, 9, 10, 11, 12, 13, 14, 15, 16, 17, 18, 19, 20, 21, 22, 23, 24, 25, 26, 27], [0, 1, 2, 3, 4, 5, 6, 7, 8, 9, 10, 11, 12, 13, 14, 15, 16, 17, 18, 19, 20, 21, 22, 23, 24, 25, 26, 27, 28], [0, 1, 2, 3, 4, 5, 6, 7, 8, 9, 10, 11, 12, 13, 14, 15, 16, 17, 18, 19, 20, 21, 22, 23, 24, 25, 26, 27, 28, 29], [0, 1, 2, 3, 4, 5, 6, 7, 8, 9, 10, 11, 12, 13, 14, 15, 16, 17, 18, 19, 20, 21, 22, 23, 24, 25, 26, 27, 28, 29], [0, 1, 2, 3, 4, 5, 6, 7, 8, 9, 10, 11, 12, 13, 14, 15, 16, 17, 18, 19, 20, 21, 22, 23, 24, 25, 26, 27, 28, 29, 31], [0, 1, 2, 3, 4, 5, 6, 7, 8, 9, 10, 11, 12, 13, 14, 15, 16, 17, 18, 19, 20, 21, 22, 23, 24, 25, 26, 27, 28, 29, 31, 32], [0, 1, 2, 3, 4, 5, 6, 7, 8, 9, 10, 11, 12, 13, 14, 15, 16, 17, 18, 19, 20, 21, 22, 23, 24, 25, 26, 27, 28, 29, 30, 31, 32, 33], [0, 1, 2, 3, 4, 5, 6, 7, 8, 9, 10, 11, 12, 13, 14, 15, 16, 17, 18, 19, 20, 21, 22, 23, 24, 25, 26, 27, 28, 29], [0, 1, 2, 3, 4, 5, 6, 7, 8, 9, 10, 11, 12, 13, 14, 15, 16, 17, 18, 19, 20, 21, 22, 23, 24, 25, 26, 27, 28, 29, 35], [0, 1, 2, 3, 4, 5, 6, 7, 8, 9, 10, 11, 12, 13, 14, 15, 16, 17, 18, 19, 20, 21, 22, 23, 24, 25, 26, 27, 28, 29, 30, 31, 32, 33, 34, 35, 36], [0, 1, 2, 3, 4, 5, 6, 7, 8, 9, 10, 11, 12, 13, 14, 15, 16, 17, 18, 19, 20, 21, 22, 23, 24, 25, 26, 27, 28, 29, 30, 31, 32, 33, 34, 35, 36, 37], [0, 1, 2, 3, 4, 5, 6, 7, 8, 9, 10, 11, 12, 13, 14, 15, 16, 17, 18, 19, 20, 21, 22, 23, 24, 25, 26, 27, 28, 29, 30, 31, 32, 33, 34, 35, 36, 37, 38], [0, 1, 2, 3, 4, 5, 6, 7, 8, 9, 10, 11, 12, 13, 14, 15, 16, 17, 18, 19, 20, 21, 22, 23, 24, 25, 26, 27, 28, 29, 30, 31, 32, 33, 34, 35, 36, 37, 38, 39], [0, 1, 2, 3, 4, 5, 6, 7, 8, 9, 10, 11, 12, 13, 14, 15, 16, 17, 18, 19, 20, 21, 22, 23, 24, 25, 26, 27, 28, 29, 30, 31, 32, 33, 34, 35, 36, 37, 38, 39, 40], [0, 1, 2, 3, 4, 5, 6, 7, 8, 9, 10, 11, 12, 13, 14, 15, 16, 17, 18, 19, 20, 21, 22, 23, 24, 25, 26, 27, 28, 29, 30, 31, 32, 33, 34, 35, 36, 37, 38, 39], [0, 1, 2, 3, 4, 5, 6, 7, 8, 9, 10, 11, 12, 13, 14, 15, 16, 17, 18, 19, 20, 21, 22, 23, 24, 25, 26, 27, 28, 29, 30, 31, 32, 33, 34, 35, 36, 37, 38, 39, 40, 41, 42], [0, 1, 2, 3, 4, 5, 6, 7, 8, 9, 10, 11, 12, 13, 14, 15, 16, 17, 18, 19, 20, 21, 22, 23, 24, 25, 26, 27, 28, 29, 30, 31, 32, 33, 34, 35, 36, 37, 38, 39, 40, 41, 42, 43], [0, 1, 2, 3, 4, 5, 6, 7, 8, 9, 10, 11, 12, 13, 14, 15, 16, 17, 18, 19, 20, 21, 22, 23, 24, 25, 26, 27, 28, 29, 30, 31, 32, 33, 34, 35, 36, 37, 38, 39, 40, 41, 42, 43, 44], [0, 1, 2, 3, 4, 5, 6, 7, 8, 9, 10, 11, 12, 13, 14, 15, 16, 17, 18, 19, 20, 21, 22, 23, 24, 25, 26, 27, 28, 29, 30, 31, 32, 33, 34, 35, 36, 37, 38, 39, 40, 41, 42, 43, 44, 45], [0, 1, 2, 3, 4, 5, 6, 7, 8, 9, 10, 11, 12, 13, 14, 15, 16, 17, 18, 19, 20, 21, 22, 23, 24, 25, 26, 27, 28, 29, 30, 31, 32, 33, 34, 35, 36, 37, 38, 39, 40, 41, 42, 43, 44, 45, 46]] [[], [0], [1], [1, 2], [1, 3], [4], [5], [5, 6], [5, 7], [8], [9], [9, 10], [9, 11], [9], [9, 13], [9, 14], [9, 15], [9, 12, 16], [9, 17], [18], [19], [19], [19, 21], [19, 22], [19, 20, 23], [19, 24], [19], [19, 25, 26], [19, 27], [28], [29], [29], [29, 31], [29, 32], [29, 30, 33], [29], [29, 35], [29, 34, 36], [29, 37], [38], [39], [39, 40], [39], [39, 42], [39, 43], [39, 41, 44], [39, 45]] [[], [], [], [], [], [], [], [], [], [], [], [], [], [], [], [], [], [], [], [], [], [], [], [], [], [], [], [], [], [], [], [], [], [], [], [], [], [36], [], [], [], [], [], [], [], [], []] [[], [], [], [], [], [], [], [], [], [], [], [], [], [], [], [], [], [], [], [], [], [], [], [], [], [], [], [], [], [], [], [], [], [], [], [], [], [], [], [], [], [], [], [], [], [], []] [] [2, 4, 5, 6, 7, 8, 9] (by kernel_rfl) (by kernel_rfl) (by kernel_rfl) rfl ?_
            refine K.D.DW.det (b := []) (u := []) rfl rfl rfl (fun vs hf => K.e_move rfl) ?_
            refine K.D.DW.det (b := [0]) (u := []) rfl rfl rfl (fun vs hf => K.e_move rfl) ?_
            first | (refine K.D.DW.want (b := [1]) rfl (fun _ => rfl) ?_; first | refine K.D.DW.det (b := [1]) (u := []) rfl rfl rfl (fun vs hf => K.e_ldA Try.isAgg29 Try.sizeOf29 rfl rfl (by assumption)) ?_ | refine K.D.DW.det (b := [1]) (u := []) rfl rfl rfl (fun vs hf => K.e_ldAF Try.isAgg29 Try.sizeOf29 rfl rfl (by assumption) rfl) ?_ | refine K.D.DW.det (b := [1]) (u := []) rfl rfl rfl (fun vs hf => K.e_loads Try.isAgg29 Try.sizeOf29 rfl rfl) ?_) | refine K.D.DW.skip (b := [1]) rfl rfl (fun _ => rfl) ?_
            first | (refine K.D.DW.want (b := [1, 2]) rfl (fun _ => rfl) ?_; first | refine K.D.DW.det (b := [1, 2]) (u := []) rfl rfl rfl (fun vs hf => (ev_right_con (t := (cU t i)) (a := a30) (c := c30) Try.call29 rfl hluU).cast_bool (b := true) ((right_iff _).2 hPU)) ?_) | refine K.D.DW.skip (b := [1, 2]) rfl rfl (fun _ => rfl) ?_
            first | refine K.D.DW.det (b := [1, 3]) (u := []) rfl rfl rfl (fun vs hf => K.e_pick_t rfl rfl) ?_ | refine K.D.DW.det (b := [1, 3]) (u := []) rfl rfl rfl (fun vs hf => K.e_pick_f rfl rfl) ?_
            refine K.D.DW.det (b := [4]) (u := []) rfl rfl rfl (fun vs hf => K.e_move rfl) ?_
            first | (refine K.D.DW.want (b := [5]) rfl (fun _ => rfl) ?_; first | refine K.D.DW.det (b := [5]) (u := []) rfl rfl rfl (fun vs hf => K.e_ldA Try.isAgg29 Try.sizeOf29 rfl rfl (by assumption)) ?_ | refine K.D.DW.det (b := [5]) (u := []) rfl rfl rfl (fun vs hf => K.e_ldAF Try.isAgg29 Try.sizeOf29 rfl rfl (by assumption) rfl) ?_ | refine K.D.DW.det (b := [5]) (u := []) rfl rfl rfl (fun vs hf => K.e_loads Try.isAgg29 Try.sizeOf29 rfl rfl) ?_) | refine K.D.DW.skip (b := [5]) rfl rfl (fun _ => rfl) ?_
            first | (refine K.D.DW.want (b := [5, 6]) rfl (fun _ => rfl) ?_; first | refine K.D.DW.det (b := [5, 6]) (u := []) rfl rfl rfl (fun vs hf => (ev_right_con (t := (cV t i)) (a := a42) (c := c42) Try.call29 rfl hluV).cast_bool (b := true) ((right_iff _).2 hPV)) ?_) | refine K.D.DW.skip (b := [5, 6]) rfl rfl (fun _ => rfl) ?_
            first | refine K.D.DW.det (b := [5, 7]) (u := []) rfl rfl rfl (fun vs hf => K.e_pick_t rfl rfl) ?_ | refine K.D.DW.det (b := [5, 7]) (u := []) rfl rfl rfl (fun vs hf => K.e_pick_f rfl rfl) ?_
            refine K.D.DW.det (b := [8]) (u := []) rfl rfl rfl (fun vs hf => K.e_move rfl) ?_
            first | (refine K.D.DW.want (b := [9]) rfl (fun _ => rfl) ?_; first | refine K.D.DW.det (b := [9]) (u := []) rfl rfl rfl (fun vs hf => K.e_ldA Try.isAgg29 Try.sizeOf29 rfl rfl (by assumption)) ?_ | refine K.D.DW.det (b := [9]) (u := []) rfl rfl rfl (fun vs hf => K.e_ldAF Try.isAgg29 Try.sizeOf29 rfl rfl (by assumption) rfl) ?_ | refine K.D.DW.det (b := [9]) (u := []) rfl rfl rfl (fun vs hf => K.e_loads Try.isAgg29 Try.sizeOf29 rfl rfl) ?_) | refine K.D.DW.skip (b := [9]) rfl rfl (fun _ => rfl) ?_
            first | (refine K.D.DW.want (b := [9, 10]) rfl (fun _ => rfl) ?_; first | refine K.D.DW.ev0 (b := [9, 10]) (u := []) (a := []) rfl rfl rfl (fun vs hf => show K.D.EvM _ _ _ _ (_) [] _ _ _ _ _ from em_tfree_con (t := cU t i) Try.call35 rfl hluU) ?_) | refine K.D.DW.skip (b := [9, 10]) rfl rfl (fun _ => rfl) ?_
            first | (refine K.D.DW.want (b := [9, 11]) rfl (fun _ => rfl) ?_; first | refine K.D.DW.det (b := [9, 11]) (u := []) rfl rfl rfl (fun vs ⟨hf70, _⟩ => K.e_len Try.underlying56 rfl) ?_) | refine K.D.DW.skip (b := [9, 11]) rfl rfl (fun _ => rfl) ?_
            first | (refine K.D.DW.want (b := [9]) rfl (fun _ => rfl) ?_; first | refine K.D.DW.det (b := [9]) (u := []) rfl rfl rfl (fun vs hf => K.e_ldA Try.isAgg29 Try.sizeOf29 rfl rfl (by assumption)) ?_ | refine K.D.DW.det (b := [9]) (u := []) rfl rfl rfl (fun vs hf => K.e_ldAF Try.isAgg29 Try.sizeOf29 rfl rfl (by assumption) rfl) ?_ | refine K.D.DW.det (b := [9]) (u := []) rfl rfl rfl (fun vs hf => K.e_loads Try.isAgg29 Try.sizeOf29 rfl rfl) ?_) | refine K.D.DW.skip (b := [9]) rfl rfl (fun _ => rfl) ?_
            first | (refine K.D.DW.want (b := [9, 13]) rfl (fun _ => rfl) ?_; first | refine K.D.DW.ev0 (b := [9, 13]) (u := []) (a := []) rfl rfl rfl (fun vs hf => show K.D.EvM _ _ _ _ (_) [] _ _ _ _ _ from em_tfree_con (t := cV t i) Try.call35 rfl hluV) ?_) | refine K.D.DW.skip (b := [9, 13]) rfl rfl (fun _ => rfl) ?_
            first | (refine K.D.DW.want (b := [9, 14]) rfl (fun _ => rfl) ?_; first | refine K.D.DW.det (b := [9, 14]) (u := []) rfl rfl rfl (fun vs ⟨hf73, _⟩ => K.e_len Try.underlying56 rfl) ?_) | refine K.D.DW.skip (b := [9, 14]) rfl rfl (fun _ => rfl) ?_
            first | (refine K.D.DW.want (b := [9, 15]) rfl (fun _ => rfl) ?_; first | refine K.D.DW.det (b := [9, 15]) (u := []) rfl rfl rfl (fun vs hf => K.e_add rfl rfl ⟨by omega, by omega⟩) ?_ | refine K.D.DW.det (b := [9, 15]) (u := []) rfl rfl rfl (fun vs hf => K.e_addw rfl rfl) ?_) | refine K.D.DW.skip (b := [9, 15]) rfl rfl (fun _ => rfl) ?_
            first | (refine K.D.DW.want (b := [9, 12, 16]) rfl (fun _ => rfl) ?_; first | refine K.D.DW.det (b := [9, 12, 16]) (u := []) rfl rfl rfl (fun vs hf => (K.e_eq rfl rfl).yes hfl) ?_) | refine K.D.DW.skip (b := [9, 12, 16]) rfl rfl (fun _ => rfl) ?_
            first | refine K.D.DW.det (b := [9, 17]) (u := []) rfl rfl rfl (fun vs hf => K.e_pick_t rfl rfl) ?_ | refine K.D.DW.det (b := [9, 17]) (u := []) rfl rfl rfl (fun vs hf => K.e_pick_f rfl rfl) ?_
            refine K.D.DW.det (b := [18]) (u := []) rfl rfl rfl (fun vs hf => K.e_move rfl) ?_
            first | (refine K.D.DW.want (b := [19]) rfl (fun _ => rfl) ?_; first | refine K.D.DW.det (b := [19]) (u := []) rfl rfl rfl (fun vs hf => K.e_move rfl) ?_) | refine K.D.DW.skip (b := [19]) rfl rfl (fun _ => rfl) ?_
            first | (refine K.D.DW.want (b := [19]) rfl (fun _ => rfl) ?_; first | refine K.D.DW.det (b := [19]) (u := []) rfl rfl rfl (fun vs hf => K.e_move rfl) ?_) | refine K.D.DW.skip (b := [19]) rfl rfl (fun _ => rfl) ?_
            first | (refine K.D.DW.want (b := [19, 21]) rfl (fun _ => rfl) ?_; first | refine K.D.DW.det (b := [19, 21]) (u := []) rfl rfl rfl (fun vs hf => K.e_len Try.underlying56 rfl) ?_) | refine K.D.DW.skip (b := [19, 21]) rfl rfl (fun _ => rfl) ?_
            first | (refine K.D.DW.want (b := [19, 22]) rfl (fun _ => rfl) ?_; first | refine K.D.DW.det (b := [19, 22]) (u := []) rfl rfl rfl (fun vs hf => (K.e_sub rfl rfl ⟨by omega, by omega⟩).cast_int (b := ((ordT (cU t i)).length : Int)) (by omega)) ?_) | refine K.D.DW.skip (b := [19, 22]) rfl rfl (fun _ => rfl) ?_
            first | (refine K.D.DW.want (b := [19, 20, 23]) rfl (fun _ => rfl) ?_; first | refine K.D.DW.det (b := [19, 20, 23]) (u := []) rfl rfl rfl (fun vs hf => K.e_ixN (l := ordT (cU t i) ++ [(i : Int)]) sl56 rfl rfl rfl rfl (by omega)) ?_) | refine K.D.DW.skip (b := [19, 20, 23]) rfl rfl (fun _ => rfl) ?_
            first | (refine K.D.DW.want (b := [19, 24]) rfl (fun _ => rfl) ?_; first | refine K.D.DW.det (b := [19, 24]) (u := []) rfl rfl rfl (fun vs hf => K.e_ldE (l := ordT (cU t i) ++ [(i : Int)]) Try.isAgg3 rfl rfl hqi rfl) ?_) | refine K.D.DW.skip (b := [19, 24]) rfl rfl (fun _ => rfl) ?_
            first | (refine K.D.DW.want (b := [19]) rfl (fun _ => rfl) ?_; first | refine K.D.DW.det (b := [19]) (u := []) rfl rfl rfl (fun vs hf => K.e_move rfl) ?_) | refine K.D.DW.skip (b := [19]) rfl rfl (fun _ => rfl) ?_
            first | (refine K.D.DW.want (b := [19, 25, 26]) rfl (fun _ => rfl) ?_; first | refine K.D.DW.det (b := [19, 25, 26]) (u := []) rfl rfl rfl (fun vs hf => (K.e_eq rfl rfl).yes rfl) ?_) | refine K.D.DW.skip (b := [19, 25, 26]) rfl rfl (fun _ => rfl) ?_
            first | refine K.D.DW.det (b := [19, 27]) (u := []) rfl rfl rfl (fun vs hf => K.e_pick_t rfl rfl) ?_ | refine K.D.DW.det (b := [19, 27]) (u := []) rfl rfl rfl (fun vs hf => K.e_pick_f rfl rfl) ?_
            refine K.D.DW.det (b := [28]) (u := []) rfl rfl rfl (fun vs hf => K.e_move rfl) ?_
            first | (refine K.D.DW.want (b := [29]) rfl (fun _ => rfl) ?_; first | refine K.D.DW.det (b := [29]) (u := []) rfl rfl rfl (fun vs hf => K.e_move rfl) ?_) | refine K.D.DW.skip (b := [29]) rfl rfl (fun _ => rfl) ?_
            first | (refine K.D.DW.want (b := [29]) rfl (fun _ => rfl) ?_; first | refine K.D.DW.det (b := [29]) (u := []) rfl rfl rfl (fun vs hf => K.e_move rfl) ?_) | refine K.D.DW.skip (b := [29]) rfl rfl (fun _ => rfl) ?_
            first | (refine K.D.DW.want (b := [29, 31]) rfl (fun _ => rfl) ?_; first | refine K.D.DW.det (b := [29, 31]) (u := []) rfl rfl rfl (fun vs hf => K.e_len Try.underlying56 rfl) ?_) | refine K.D.DW.skip (b := [29, 31]) rfl rfl (fun _ => rfl) ?_
            first | (refine K.D.DW.want (b := [29, 32]) rfl (fun _ => rfl) ?_; first | refine K.D.DW.det (b := [29, 32]) (u := []) rfl rfl rfl (fun vs hf => (K.e_sub rfl rfl ⟨by omega, by omega⟩).cast_int (b := ((ordT (cU t i)).length : Int)) (by omega)) ?_) | refine K.D.DW.skip (b := [29, 32]) rfl rfl (fun _ => rfl) ?_
            first | (refine K.D.DW.want (b := [29, 30, 33]) rfl (fun _ => rfl) ?_; first | refine K.D.DW.ev0 (b := [29, 30, 33]) (u := []) (a := []) rfl rfl rfl (fun vs hf => show K.D.EvM _ _ _ _ (_) [] _ _ _ _ _ from K.D.em_partH (j := (ordT (cU t i)).length) sl56 rfl rfl rfl rfl (by omega) (by omega)) ?_) | refine K.D.DW.skip (b := [29, 30, 33]) rfl rfl (fun _ => rfl) ?_
            first | (refine K.D.DW.want (b := [29]) rfl (fun _ => rfl) ?_; first | refine K.D.DW.det (b := [29]) (u := []) rfl rfl rfl (fun vs hf => K.e_ldA Try.isAgg29 Try.sizeOf29 rfl rfl (by assumption)) ?_ | refine K.D.DW.det (b := [29]) (u := []) rfl rfl rfl (fun vs hf => K.e_ldAF Try.isAgg29 Try.sizeOf29 rfl rfl (by assumption) rfl) ?_ | refine K.D.DW.det (b := [29]) (u := []) rfl rfl rfl (fun vs hf => K.e_loads Try.isAgg29 Try.sizeOf29 rfl rfl) ?_) | refine K.D.DW.skip (b := [29]) rfl rfl (fun _ => rfl) ?_
            first | (refine K.D.DW.want (b := [29, 35]) rfl (fun _ => rfl) ?_; first | refine K.D.DW.ev0 (b := [29, 35]) (u := []) (a := []) rfl rfl rfl (fun vs hf => show K.D.EvM _ _ _ _ (_) [] _ _ _ _ _ from em_tord_con (t := cU t i) Try.call33 rfl hluU) ?_) | refine K.D.DW.skip (b := [29, 35]) rfl rfl (fun _ => rfl) ?_
            first | (refine K.D.DW.want (b := [29, 34, 36]) rfl (fun _ => rfl) ?_; first | refine K.D.DW.det (b := [29, 34, 36]) (u := [36]) rfl rfl rfl (fun vs ⟨⟨hf93, hg93⟩, hf95, _⟩ => show K.Ev _ _ _ _ (_ :: _) _ _ _ _ from (ev_sint_con (l := (ordT (cU t i) ++ [(i : Int)]).take (ordT (cU t i)).length) (m := ordT (cU t i)) Try.call32 rfl (by rw [List.take_left]; omega) (by omega)).cast_bool (b := true) (by rw [List.take_left]; exact decide_eq_true rfl)) ?_) | refine K.D.DW.skip (b := [29, 34, 36]) rfl rfl (fun _ => rfl) ?_
            first | refine K.D.DW.det (b := [29, 37]) (u := []) rfl rfl rfl (fun vs hf => K.e_pick_t rfl rfl) ?_ | refine K.D.DW.det (b := [29, 37]) (u := []) rfl rfl rfl (fun vs hf => K.e_pick_f rfl rfl) ?_
            refine K.D.DW.det (b := [38]) (u := []) rfl rfl rfl (fun vs hf => K.e_move rfl) ?_
            first | (refine K.D.DW.want (b := [39]) rfl (fun _ => rfl) ?_; first | refine K.D.DW.det (b := [39]) (u := []) rfl rfl rfl (fun vs hf => K.e_ldA Try.isAgg29 Try.sizeOf29 rfl rfl (by assumption)) ?_ | refine K.D.DW.det (b := [39]) (u := []) rfl rfl rfl (fun vs hf => K.e_ldAF Try.isAgg29 Try.sizeOf29 rfl rfl (by assumption) rfl) ?_ | refine K.D.DW.det (b := [39]) (u := []) rfl rfl rfl (fun vs hf => K.e_loads Try.isAgg29 Try.sizeOf29 rfl rfl) ?_) | refine K.D.DW.skip (b := [39]) rfl rfl (fun _ => rfl) ?_
            first | (refine K.D.DW.want (b := [39, 40]) rfl (fun _ => rfl) ?_; first | refine K.D.DW.det (b := [39, 40]) (u := []) rfl rfl rfl (fun vs hf => ev_tlast_con (t := cV t i) Try.call37 rfl hluV) ?_) | refine K.D.DW.skip (b := [39, 40]) rfl rfl (fun _ => rfl) ?_
            first | (refine K.D.DW.want (b := [39]) rfl (fun _ => rfl) ?_; first | refine K.D.DW.det (b := [39]) (u := []) rfl rfl rfl (fun vs hf => K.e_ldA Try.isAgg29 Try.sizeOf29 rfl rfl (by assumption)) ?_ | refine K.D.DW.det (b := [39]) (u := []) rfl rfl rfl (fun vs hf => K.e_ldAF Try.isAgg29 Try.sizeOf29 rfl rfl (by assumption) rfl) ?_ | refine K.D.DW.det (b := [39]) (u := []) rfl rfl rfl (fun vs hf => K.e_loads Try.isAgg29 Try.sizeOf29 rfl rfl) ?_) | refine K.D.DW.skip (b := [39]) rfl rfl (fun _ => rfl) ?_
            first | (refine K.D.DW.want (b := [39, 42]) rfl (fun _ => rfl) ?_; first | refine K.D.DW.det (b := [39, 42]) (u := []) rfl rfl rfl (fun vs hf => ev_tlast_con Try.call37 rfl (by first | assumption | omega | rfl | decide)) ?_) | refine K.D.DW.skip (b := [39, 42]) rfl rfl (fun _ => rfl) ?_
            first | (refine K.D.DW.want (b := [39, 43]) rfl (fun _ => rfl) ?_; first | refine K.D.DW.det (b := [39, 43]) (u := []) rfl rfl rfl (fun vs hf => K.e_add rfl rfl ⟨by omega, by omega⟩) ?_ | refine K.D.DW.det (b := [39, 43]) (u := []) rfl rfl rfl (fun vs hf => K.e_addw rfl rfl) ?_) | refine K.D.DW.skip (b := [39, 43]) rfl rfl (fun _ => rfl) ?_
            first | (refine K.D.DW.want (b := [39, 41, 44]) rfl (fun _ => rfl) ?_; first | refine K.D.DW.det (b := [39, 41, 44]) (u := []) rfl rfl rfl (fun vs hf => (K.e_eq rfl rfl).yes (ch_last hP hi hlt)) ?_) | refine K.D.DW.skip (b := [39, 41, 44]) rfl rfl (fun _ => rfl) ?_
            first | refine K.D.DW.det (b := [39, 45]) (u := []) rfl rfl rfl (fun vs hf => K.e_pick_t rfl rfl) ?_ | refine K.D.DW.det (b := [39, 45]) (u := []) rfl rfl rfl (fun vs hf => K.e_pick_f rfl rfl) ?_
            refine K.D.DW.fin (fun vs hf => ?_)
            refine K.GL.keep [4, 105] rfl ?_
            refine K.D.GL.res0 rfl ?_
            clear hf
            try clear vs
            refine K.GL.det (K.e_assign rfl) rfl ?_
            refine K.GL.nil ?_
            refine K.GQ.go ?_
            refine K.GC.ret ?_
            refine K.GQ.ret1 Try.results13 rfl (fun w hT => ?_)
            exact ⟨rfl, hT.nil⟩
section
variable {ops : Array Oper} {Q : Exit → Act → World → Prop} {N : Nat} {U : Env} {w0 : World} {L0 L F : List Res} {ty : TypeId} {rest : List Oper} {pos : String} {after : Array Edge} {xs : List Operand} {tys : Array TypeId} {dT : Tmp}
theorem ev_changes_con {t : Tab} {x : Nat} {a : Option Addr} {c : Nat} (hf : ∀ args w, (callFunc 13 args).run Try.prog w = .ok (.enter 13 args) w) (hx : opvs U xs = some [.agg (tabC t a c).toArray, .int .u8 (x : Int)]) (hl : t.exts.length ≤ 9223372036854775807) (hx8 : x < 256) [o0 : RdC w0 L0 [] L a (encX) (t.exts)] : Ev Try.prog U w0 L0 L (.call ⟨.value (.func 13), xs.toArray, tys⟩) ty (Is (.bool true)) No :=
  K.e_call1 hf hx (fun w hT => by have _o0 := o0.out w hT; exact changes_con hl hx8)
end

set_option maxHeartbeats 1000000 in
set_option maxRecDepth 100000 in
theorem TableChanges_lifted (os : Os) (started : os.Started) (H : Type) (enc : TypeId × Value → H) :
    ReturnsInHanded {} Try.checked os 13 .any (Rows.tableChangesSpec.pre6 enc Try.prog Try.f13 Rows.tableChangesRow.domain false) (Rows.tableChangesSpec.post enc Try.prog Try.f13 false true false false) := by
  refine returnsInHanded_of_change_sized (C := Try.checked) own started (by kernel_rfl) Try.func13
    (ChangeSpec.witness6 (enc := enc) (C := Try.checked) false ⟨#[], #[.agg #[.int .i64 0, .int .i64 0, .slice none 0 0], .int .u8 0], []⟩ 8 (by kernel_rfl) (by kernel_rfl) (by kernel_rfl) (by kernel_rfl)) ?_
  intro W base args ds gs before hval0 hW _ hsz0 _
  have hval : ∀ (j : Nat) t v, Try.f13.params[j]? = some t → args[j]? = some v → Value.okWide Try.prog W .any base t v := hval0
  have hsz : (DataW.weightsEach Try.prog (Try.f13.params.toList ++ []) (ds ++ gs)).all (· ≤ reachBytes) = true := hsz0
  have hW' := hW
  obtain ⟨p, q, hA0, hV, hpe, hfz, hnd⟩ := hW
  have hA : DataW.TrodAll enc Try.prog W 0 (fun _ => true) true Try.f13.params.toList args.toList ds p := hA0
  obtain ⟨rfl, rfl⟩ := trodVars_none hV
  rw [Try.params13] at hA hval hsz
  obtain ⟨v0, vs0, d0, ds0, p0, q0, hargs, rfl, rfl, h0, r0⟩ := trodAll_cons hA
  obtain ⟨v1, vs1, d1, ds1, p1, q1, rfl, rfl, rfl, h1, r1⟩ := trodAll_cons r0
  obtain ⟨rfl, rfl, rfl⟩ := trodAll_nil r1
  obtain rfl : args = #[v0, v1] := by cases args; simp_all
  clear hA0 hval0 hsz0 hA hargs
  obtain ⟨csz, rfl, _⟩ := okWide_struct Try.underlying29 (hval 0 29 _ rfl rfl)
  obtain ⟨fuelz, hfz⟩ := h0
  obtain ⟨tz, az, cz, hcsz, hnz, hcz, hoz⟩ := open_tab _ _ _ hfz
  unfold maxLen at hnz
  obtain rfl : csz = (tabC tz az cz).toArray := by
    have : csz.toList = tabC tz az cz := by simpa [Value.cells] using hcsz
    rw [← this]
  obtain ⟨x, rfl, rfl, rfl, wx⟩ := open_int Try.underlying5 (hval 1 5 _ rfl rfl) h1
  have hbx := bounds_u8 wx
  obtain ⟨nx, rfl⟩ := Int.eq_ofNat_of_zero_le hbx.1
  have core : Calls Try.prog 13 #[.agg (tabC tz az cz).toArray, .int .u8 (nx : Int)] W fun e W' => e = .returned (.bool true) ∧ Tr W [] W' [] := changes_con hnz (by omega)
  exact core.mono fun e W' ⟨he, hT⟩ => ⟨_, he, law_post (tb := 4) hW' rfl rfl Try.underlying4 (fun _ => rfl) laidOut (by kernel_rfl) hT.below⟩
theorem TableChanges_holds : Rows.TableChangesSaid :=
  OpenClaim.holds_of_wide 13 Try.f13 rfl rfl rfl rfl rfl rfl rfl ⟨rfl, rfl, rfl, rfl, rfl⟩ rfl rfl rfl rfl rfl (by kernel_rfl) Try.func13 (by kernel_rfl)
    (of_decide_eq_true (by kernel_rfl)) (by unfold Func.isWrapper; first | (rw [if_pos (by decide +kernel)]; kernel_rfl) | (rw [if_neg (by decide +kernel)]; exact ⟨rfl, rfl⟩))
    (fun os started H enc _ => TableChanges_lifted os started H enc)

end Go.Proofs.Ytdbedajaapamhaa
