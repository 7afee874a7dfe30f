/- What is right, by the reference. -/
import Derived.Test.YtdbedajaapamhaaGreatTabJ
namespace Go.Proofs.YtdbedajaapamhaaGreat
open Go Go.K
set_option linter.unusedVariables false
set_option linter.unusedSimpArgs false
attribute [local irreducible] Calls Ev GL GC GQ GR Code.wp

theorem seqs_take {l : List Ext} {x : Nat} {q : Ext} (h : l[x]? = some q) : seqs (l.take (x + 1)) = seqs (l.take x) ++ (if q.used then [q.seq] else []) := by rw [take_one h, seqs_snoc]

theorem seqs_mem {l : List Ext} {s : Int} : s ∈ seqs l ↔ s ≠ 0 ∧ ∃ (j : Nat) (e : Ext), l[j]? = some e ∧ e.seq = s := by
  unfold seqs
  simp only [List.mem_filter, List.mem_map, decide_eq_true_eq]
  constructor
  · rintro ⟨⟨e, he, rfl⟩, h0⟩
    obtain ⟨j, hj⟩ := List.getElem?_of_mem he
    exact ⟨h0, j, e, hj, rfl⟩
  · rintro ⟨h0, j, e, hj, rfl⟩
    exact ⟨⟨e, List.mem_of_getElem? hj, rfl⟩, h0⟩

theorem dup_bad {t : Tab} (h : RightP t) {x y : Nat} {p q : Ext} (hx : t.exts[x]? = some p) (hy : t.exts[y]? = some q) (e : q.seq = p.seq) (h0 : p.seq ≠ 0) : x = y := by
  have hup : p.used = true := by unfold Ext.used; exact decide_eq_true h0
  have huq : q.used = true := by unfold Ext.used; exact decide_eq_true (by omega)
  have h1 : (x : Int) ∈ plc Ext.used t.exts := plc_mem.2 ⟨x, rfl, p, hx, hup⟩
  have h2 : (y : Int) ∈ plc Ext.used t.exts := plc_mem.2 ⟨y, rfl, q, hy, huq⟩
  have := seqs_inj h h1 h2 (by unfold sqAt; rw [Int.toNat_natCast, Int.toNat_natCast, hx, hy]; exact e.symm)
  omega

theorem nd_next {l : List Ext} {x : Nat} {q : Ext} (h : l[x]? = some q) (hn : (seqs (l.take x)).Nodup) (hd : q.seq ≠ 0 → ∀ (j : Nat) (e : Ext), j < x → l[j]? = some e → e.seq ≠ q.seq) : (seqs (l.take (x + 1))).Nodup := by
  rw [seqs_take h]
  split
  · rename_i hu
    have h0 : q.seq ≠ 0 := of_decide_eq_true hu
    rw [List.nodup_append]
    refine ⟨hn, by simp, fun a ha b hb => ?_⟩
    simp only [List.mem_singleton] at hb
    subst hb
    obtain ⟨_, j, e, hj, he⟩ := seqs_mem.1 ha
    have hjx : j < x := by have := len_of hj; rw [List.length_take] at this; omega
    rw [List.getElem?_take_of_lt hjx] at hj
    intro h2
    exact hd h0 j e hjx hj (by omega)
  · rw [List.append_nil]; exact hn

theorem right_opn {t : Tab} (h1 : 1 ≤ t.gen ∧ t.gen ≤ 2147483648) (h2 : 4 ≤ t.exts.length ∧ t.exts.length ≤ 8) (h3 : -1 ≤ t.opn ∧ t.opn < t.exts.length) (h4 : ∀ (j : Nat) (e : Ext), j < t.exts.length → t.exts[j]? = some e → e.ok = true) (h5 : (seqs (t.exts.take t.exts.length)).Nodup) : rightB t = opnOk t := by
  rw [List.take_length] at h5
  cases h : opnOk t with
  | true => exact (right_iff t).2 ⟨h1.1, h1.2, h2.1, h2.2, h3.1, h3.2, fun e he => by obtain ⟨j, hj⟩ := List.getElem?_of_mem he; exact h4 j e (len_of hj) hj, h5, h⟩
  | false =>
    cases h6 : rightB t with
    | false => rfl
    | true => rw [((right_iff t).1 h6).op] at h; cases h

theorem opn_neg {t : Tab} (h : t.opn < 0) : opnOk t = true := by unfold opnOk; rw [decide_eq_true h]; rfl

theorem opn_at {t : Tab} {q : Ext} (h : ¬ t.opn < 0) (hq : t.exts[t.opn.toNat]? = some q) : opnOk t = (q.used && decide (q.len = 0)) := by unfold opnOk; rw [decide_eq_false h, hq]; rfl

theorem tb0_eq (t : Tab) : tb0 t = ([] : Bytes) ++ leB 4 t.gen ++ [b8 (t.exts.length : Int), b8 (t.opn + 1)] := by simp [tb0, leB]

theorem tbs_next2 {t : Tab} {i : Nat} {x : Ext} (h : t.exts[i]? = some x) : tbs t (i + 1) = tbs t i ++ leB 4 x.seq ++ leB 2 x.len := by rw [tbs_next h]; simp

/- turntable/turntableref09.Right -/
set_option maxHeartbeats 8000000 in
set_option maxRecDepth 100000 in
theorem rright_con {t : Tab} {a : Option Addr} {c : Nat} {w : World} (hl : t.exts.length ≤ 9223372036854775807) [Old w [] a (encX) (t.exts)] :
    Calls Tryz.prog 32 #[.agg (tabC t a c).toArray] w fun e w' => e = .returned (.bool (rightB t)) ∧ Tr w [] w' [] := by
  refine K.enter0 (args := [_]) Tryz.func32 rfl Tryz.ntmps32 rfl ?_
  refine K.GC.seq ?_
  refine K.GC.region ?_
  refine K.GL.box rfl rfl rfl (fun b1 => ?_)
  refine K.GL.det (K.e_assign rfl) rfl ?_
  refine K.GL.nil ?_
  refine K.GQ.go ?_
  refine K.GC.seq ?_
  refine K.GC.region ?_
  first | refine K.GL.det (K.e_fa fo31_2 rfl) rfl ?_ | refine K.GL.det (K.e_fieldAddr fo31_2 rfl) rfl ?_
  first | refine K.GL.det (K.e_ldE Tryz.isAgg29 rfl rfl (by assumption) rfl) rfl ?_ | refine K.GL.det (K.e_ldF Tryz.isAgg29 rfl rfl (by assumption) rfl) rfl ?_ | refine K.GL.det (K.e_load Tryz.isAgg29 rfl rfl) rfl ?_ | refine K.GL.det (K.e_load0 Tryz.isAgg29 rfl (by assumption)) rfl ?_
  refine K.GL.det (K.e_len Tryz.underlying29 rfl) rfl ?_
  refine K.GL.det (K.e_assign rfl) rfl ?_
  refine K.GL.nil ?_
  refine K.GQ.go ?_
  refine K.GC.seq ?_
  refine K.GC.seq ?_
  refine K.GC.region ?_
  first | refine K.GL.det (K.e_fa fo31_0 rfl) rfl ?_ | refine K.GL.det (K.e_fieldAddr fo31_0 rfl) rfl ?_
  first | refine K.GL.det (K.e_ldE Tryz.isAgg2 rfl rfl (by assumption) rfl) rfl ?_ | refine K.GL.det (K.e_ldF Tryz.isAgg2 rfl rfl (by assumption) rfl) rfl ?_ | refine K.GL.det (K.e_load Tryz.isAgg2 rfl rfl) rfl ?_ | refine K.GL.det (K.e_load0 Tryz.isAgg2 rfl (by assumption)) rfl ?_
  first | refine K.GL.det ((K.e_lt rfl rfl).yes (by first | omega | assumption | decide +kernel)) rfl ?_ | refine K.GL.det ((K.e_lt rfl rfl).no (by first | omega | assumption | decide +kernel)) rfl ?_ | refine K.GL.det (K.e_lt rfl rfl) rfl ?_
  refine K.GL.det (K.e_move rfl) rfl ?_
  first | refine K.GL.splitB 13 rfl (fun h1 => ?_) (fun h1 => ?_) | skip
  all_goals first | exact absurd h1 (by decide) | replace h1 := of_decide_eq_true h1 | replace h1 := of_decide_eq_false h1 | skip
  all_goals
    first | (refine K.GL.want 13 rfl rfl rfl ?_; first | refine K.GL.det (K.e_fa fo31_0 rfl) rfl ?_ | refine K.GL.det (K.e_fieldAddr fo31_0 rfl) rfl ?_) | refine K.GL.skip 13 rfl rfl rfl rfl ?_ | refine K.GL.skipU 13 rfl rfl rfl rfl ?_
    first | (refine K.GL.want 13 rfl rfl rfl ?_; first | refine K.GL.det (K.e_ldE Tryz.isAgg2 rfl rfl (by assumption) rfl) rfl ?_ | refine K.GL.det (K.e_ldF Tryz.isAgg2 rfl rfl (by assumption) rfl) rfl ?_ | refine K.GL.det (K.e_load Tryz.isAgg2 rfl rfl) rfl ?_ | refine K.GL.det (K.e_load0 Tryz.isAgg2 rfl (by assumption)) rfl ?_) | refine K.GL.skip 13 rfl rfl rfl rfl ?_ | refine K.GL.skipU 13 rfl rfl rfl rfl ?_
    first | (refine K.GL.want 13 rfl rfl rfl ?_; first | refine K.GL.det ((K.e_gt rfl rfl).yes (by first | omega | assumption | decide +kernel)) rfl ?_ | refine K.GL.det ((K.e_gt rfl rfl).no (by first | omega | assumption | decide +kernel)) rfl ?_ | refine K.GL.det (K.e_gt rfl rfl) rfl ?_) | refine K.GL.skip 13 rfl rfl rfl rfl ?_ | refine K.GL.skipU 13 rfl rfl rfl rfl ?_
    first | refine K.GL.det (K.e_pick_t rfl rfl) rfl ?_ | refine K.GL.det (K.e_pick_f rfl rfl) rfl ?_
    refine K.GL.det (K.e_move rfl) rfl ?_
    first | refine K.GL.splitB 18 rfl (fun h2 => ?_) (fun h2 => ?_) | skip
    all_goals first | exact absurd h2 (by decide) | replace h2 := of_decide_eq_true h2 | replace h2 := of_decide_eq_false h2 | skip
    all_goals
      first | (refine K.GL.want 18 rfl rfl rfl ?_; first | refine K.GL.det (K.e_move rfl) rfl ?_) | refine K.GL.skip 18 rfl rfl rfl rfl ?_ | refine K.GL.skipU 18 rfl rfl rfl rfl ?_
      first | (refine K.GL.want 18 rfl rfl rfl ?_; first | refine K.GL.det ((K.e_lt rfl rfl).yes (by first | omega | assumption | decide +kernel)) rfl ?_ | refine K.GL.det ((K.e_lt rfl rfl).no (by first | omega | assumption | decide +kernel)) rfl ?_ | refine K.GL.det (K.e_lt rfl rfl) rfl ?_) | refine K.GL.skip 18 rfl rfl rfl rfl ?_ | refine K.GL.skipU 18 rfl rfl rfl rfl ?_
      first | refine K.GL.det (K.e_pick_t rfl rfl) rfl ?_ | refine K.GL.det (K.e_pick_f rfl rfl) rfl ?_
      refine K.GL.det (K.e_move rfl) rfl ?_
      first | refine K.GL.splitB 22 rfl (fun h3 => ?_) (fun h3 => ?_) | skip
      all_goals first | exact absurd h3 (by decide) | replace h3 := of_decide_eq_true h3 | replace h3 := of_decide_eq_false h3 | skip
      all_goals
        first | (refine K.GL.want 22 rfl rfl rfl ?_; first | refine K.GL.det (K.e_move rfl) rfl ?_) | refine K.GL.skip 22 rfl rfl rfl rfl ?_ | refine K.GL.skipU 22 rfl rfl rfl rfl ?_
        first | (refine K.GL.want 22 rfl rfl rfl ?_; first | refine K.GL.det ((K.e_gt rfl rfl).yes (by first | omega | assumption | decide +kernel)) rfl ?_ | refine K.GL.det ((K.e_gt rfl rfl).no (by first | omega | assumption | decide +kernel)) rfl ?_ | refine K.GL.det (K.e_gt rfl rfl) rfl ?_) | refine K.GL.skip 22 rfl rfl rfl rfl ?_ | refine K.GL.skipU 22 rfl rfl rfl rfl ?_
        first | refine K.GL.det (K.e_pick_t rfl rfl) rfl ?_ | refine K.GL.det (K.e_pick_f rfl rfl) rfl ?_
        refine K.GL.det (K.e_move rfl) rfl ?_
        first | refine K.GL.splitB 26 rfl (fun h4 => ?_) (fun h4 => ?_) | skip
        all_goals first | exact absurd h4 (by decide) | replace h4 := of_decide_eq_true h4 | replace h4 := of_decide_eq_false h4 | skip
        all_goals
          first | (refine K.GL.want 26 rfl rfl rfl ?_; first | refine K.GL.det (K.e_fa fo31_1 rfl) rfl ?_ | refine K.GL.det (K.e_fieldAddr fo31_1 rfl) rfl ?_) | refine K.GL.skip 26 rfl rfl rfl rfl ?_ | refine K.GL.skipU 26 rfl rfl rfl rfl ?_
          first | (refine K.GL.want 26 rfl rfl rfl ?_; first | refine K.GL.det (K.e_ldE Tryz.isAgg3 rfl rfl (by assumption) rfl) rfl ?_ | refine K.GL.det (K.e_ldF Tryz.isAgg3 rfl rfl (by assumption) rfl) rfl ?_ | refine K.GL.det (K.e_load Tryz.isAgg3 rfl rfl) rfl ?_ | refine K.GL.det (K.e_load0 Tryz.isAgg3 rfl (by assumption)) rfl ?_) | refine K.GL.skip 26 rfl rfl rfl rfl ?_ | refine K.GL.skipU 26 rfl rfl rfl rfl ?_
          first | (refine K.GL.want 26 rfl rfl rfl ?_; first | refine K.GL.det ((K.e_lt rfl rfl).yes (by first | omega | assumption | decide +kernel)) rfl ?_ | refine K.GL.det ((K.e_lt rfl rfl).no (by first | omega | assumption | decide +kernel)) rfl ?_ | refine K.GL.det (K.e_lt rfl rfl) rfl ?_) | refine K.GL.skip 26 rfl rfl rfl rfl ?_ | refine K.GL.skipU 26 rfl rfl rfl rfl ?_
          first | refine K.GL.det (K.e_pick_t rfl rfl) rfl ?_ | refine K.GL.det (K.e_pick_f rfl rfl) rfl ?_
          refine K.GL.det (K.e_move rfl) rfl ?_
          first | refine K.GL.splitB 31 rfl (fun h5 => ?_) (fun h5 => ?_) | skip
          all_goals first | exact absurd h5 (by decide) | replace h5 := of_decide_eq_true h5 | replace h5 := of_decide_eq_false h5 | skip
          all_goals
            first | (refine K.GL.want 31 rfl rfl rfl ?_; first | refine K.GL.det (K.e_fa fo31_1 rfl) rfl ?_ | refine K.GL.det (K.e_fieldAddr fo31_1 rfl) rfl ?_) | refine K.GL.skip 31 rfl rfl rfl rfl ?_ | refine K.GL.skipU 31 rfl rfl rfl rfl ?_
            first | (refine K.GL.want 31 rfl rfl rfl ?_; first | refine K.GL.det (K.e_ldE Tryz.isAgg3 rfl rfl (by assumption) rfl) rfl ?_ | refine K.GL.det (K.e_ldF Tryz.isAgg3 rfl rfl (by assumption) rfl) rfl ?_ | refine K.GL.det (K.e_load Tryz.isAgg3 rfl rfl) rfl ?_ | refine K.GL.det (K.e_load0 Tryz.isAgg3 rfl (by assumption)) rfl ?_) | refine K.GL.skip 31 rfl rfl rfl rfl ?_ | refine K.GL.skipU 31 rfl rfl rfl rfl ?_
            first | (refine K.GL.want 31 rfl rfl rfl ?_; first | refine K.GL.det (K.e_move rfl) rfl ?_) | refine K.GL.skip 31 rfl rfl rfl rfl ?_ | refine K.GL.skipU 31 rfl rfl rfl rfl ?_
            first | (refine K.GL.want 31 rfl rfl rfl ?_; first | refine K.GL.det ((K.e_ge rfl rfl).yes (by first | omega | assumption | decide +kernel)) rfl ?_ | refine K.GL.det ((K.e_ge rfl rfl).no (by first | omega | assumption | decide +kernel)) rfl ?_ | refine K.GL.det (K.e_ge rfl rfl) rfl ?_) | refine K.GL.skip 31 rfl rfl rfl rfl ?_ | refine K.GL.skipU 31 rfl rfl rfl rfl ?_
            first | refine K.GL.det (K.e_pick_t rfl rfl) rfl ?_ | refine K.GL.det (K.e_pick_f rfl rfl) rfl ?_
            refine K.GL.nil ?_
            refine K.GQ.go ?_
            refine K.GC.condB rfl (fun h6 => ?_) (fun h6 => ?_)
            · first
              | exact absurd h6 (by decide)
              | try replace h6 := of_decide_eq_true h6
                refine K.GC.seq ?_
                refine K.GC.region ?_
                refine K.GL.det (K.e_assign rfl) rfl ?_
                refine K.GL.nil ?_
                refine K.GQ.go ?_
                refine K.GC.ret ?_
                refine K.GQ.then_ret ?_
                refine K.GQ.ret1 Tryz.results32 rfl (fun w hT => ?_)
                cases hR : rightB t with
                | true =>
                  have hP := (right_iff t).1 hR
                  have := hP.g1; have := hP.g2; have := hP.n1; have := hP.n2; have := hP.o1; have := hP.o2
                  first
                  | exact ⟨rfl, hT.nil⟩
                  | (exfalso; omega)
                  | (exfalso; have := q45.ok_iff.1 (hP.ok _ (List.mem_of_getElem? hq45)); omega)
                  | (exfalso; have := dup_bad hP hq45 hqy (by omega) (by omega); omega)
                  | (obtain rfl : x = t.exts.length := by omega
                     have hop := right_opn ⟨by omega, by omega⟩ ⟨by omega, by omega⟩ ⟨by omega, by omega⟩ hI2 hI3
                     rw [hR] at hop
                     refine ⟨?_, hT.nil⟩
                     simp only [Ending.returned.injEq, Value.bool.injEq]
                     rcases Classical.em (t.opn < 0) with hn | hn
                     · rw [opn_neg hn] at hop; first | rfl | (cases hop; done) | (simp_all; done)
                     · rw [opn_at hn (hq (by omega))] at hop; have hop2 := hop.symm; simp only [Ext.used, Bool.and_eq_true, Bool.and_eq_false_iff, decide_eq_true_eq, decide_eq_false_iff_not] at hop2; first | (exfalso; omega) | exact decide_eq_true (by omega) | exact decide_eq_false (by omega))
                | false =>
                  first
                  | exact ⟨rfl, hT.nil⟩
                  | (obtain rfl : x = t.exts.length := by omega
                     have hop := right_opn ⟨by omega, by omega⟩ ⟨by omega, by omega⟩ ⟨by omega, by omega⟩ hI2 hI3
                     rw [hR] at hop
                     refine ⟨?_, hT.nil⟩
                     simp only [Ending.returned.injEq, Value.bool.injEq]
                     rcases Classical.em (t.opn < 0) with hn | hn
                     · rw [opn_neg hn] at hop; first | rfl | (cases hop; done) | (simp_all; done)
                     · rw [opn_at hn (hq (by omega))] at hop; have hop2 := hop.symm; simp only [Ext.used, Bool.and_eq_true, Bool.and_eq_false_iff, decide_eq_true_eq, decide_eq_false_iff_not] at hop2; first | (exfalso; omega) | exact decide_eq_true (by omega) | exact decide_eq_false (by omega))
            · first
              | exact absurd h6 (by decide)
              | try replace h6 := of_decide_eq_false h6
                refine K.GC.skip ?_
                refine K.GQ.go ?_
                refine K.GC.seq ?_
                refine K.GC.seq ?_
                refine K.GC.region ?_
                refine K.GL.det (K.e_assign rfl) rfl ?_
                refine K.GL.nil ?_
                refine K.GQ.go ?_
                refine K.GC.block ?_
                refine K.GC.loopk (α := Nat) [1, 3, 94, 95, 96, 97, 98, 99, 100, 101, 102, 103, 104, 105, 106, 107, 108, 109, 110, 111, 112, 113, 114, 115, 116] rfl (fun x => [(4, .int .i64 (x : Int))]) (fun x => [cl b1 31 (tabC t a c)]) (fun x => x ≤ t.exts.length ∧ (∀ (j : Nat) (e : Ext), j < x → t.exts[j]? = some e → e.ok = true) ∧ (seqs (t.exts.take x)).Nodup) (fun x => (t.exts.length - x)) 0 ⟨Nat.zero_le _, fun j e h => absurd h (by omega), List.nodup_nil⟩ (by first | ((repeat refine ⟨rfl, ?_⟩); exact trivial) | (simp only [List.take_zero, List.map_nil, List.flatMap_nil, List.append_nil]; (repeat refine ⟨rfl, ?_⟩); exact trivial)) (by first | exact K.sb | (dsimp only; exact K.sb) | (simp only [List.take_zero, List.map_nil, List.flatMap_nil, List.append_nil]; exact K.sb) | exact K.Sub.refl _) (fun x hI => ?_)
                obtain ⟨hI, hI2, hI3⟩ := hI
                refine K.GC.seq ?_
                refine K.GC.seq ?_
                refine K.GC.region ?_
                refine K.GL.det (K.e_move rfl) rfl ?_
                refine K.GL.det (K.e_move rfl) rfl ?_
                first | refine K.GL.det ((K.e_lt rfl rfl).yes (by first | omega | assumption | decide +kernel)) rfl ?_ | refine K.GL.det ((K.e_lt rfl rfl).no (by first | omega | assumption | decide +kernel)) rfl ?_ | refine K.GL.det (K.e_lt rfl rfl) rfl ?_
                refine K.GL.nil ?_
                refine K.GQ.go ?_
                refine K.GC.condB rfl (fun h7 => ?_) (fun h7 => ?_)
                · first
                  | exact absurd h7 (by decide)
                  | try replace h7 := of_decide_eq_true h7
                    refine K.GC.skip ?_
                    refine K.GQ.go ?_
                    refine K.GC.seq ?_
                    refine K.GC.block ?_
                    refine K.GC.seq ?_
                    refine K.GC.region ?_
                    first | refine K.GL.det (K.e_fa fo31_2 rfl) rfl ?_ | refine K.GL.det (K.e_fieldAddr fo31_2 rfl) rfl ?_
                    first | refine K.GL.det (K.e_ldE Tryz.isAgg29 rfl rfl (by assumption) rfl) rfl ?_ | refine K.GL.det (K.e_ldF Tryz.isAgg29 rfl rfl (by assumption) rfl) rfl ?_ | refine K.GL.det (K.e_load Tryz.isAgg29 rfl rfl) rfl ?_ | refine K.GL.det (K.e_load0 Tryz.isAgg29 rfl (by assumption)) rfl ?_
                    refine K.GL.det (K.e_move rfl) rfl ?_
                    first | refine K.GL.ixK sl29 rfl rfl rfl rfl (by assumption) rfl ?_ | refine K.GL.ix sl29 rfl rfl rfl rfl (by omega) rfl (fun q45 hq45 => ?_) | refine K.GL.ixI sl29 rfl rfl rfl rfl (by omega) (by omega) rfl (fun q45 hq45 => ?_) | refine K.GL.det (K.e_indexAddrS sl29 rfl rfl (by assumption) (by omega) (by omega)) rfl ?_ | refine K.GL.det (K.e_indexAddr sl29 rfl rfl (by omega) (by omega)) rfl ?_
                    first | refine K.GL.det (K.e_ldA Tryz.isAgg82 Tryz.sizeOf82 rfl rfl (by assumption)) rfl ?_ | refine K.GL.det (K.e_ldAF Tryz.isAgg82 Tryz.sizeOf82 rfl rfl (by assumption) rfl) rfl ?_ | refine K.GL.det (K.e_loads Tryz.isAgg82 Tryz.sizeOf82 rfl rfl) rfl ?_
                    refine K.GL.alloc Tryz.zeroValue82 rfl rfl (fun b5 => ?_)
                    refine K.GL.store rfl rfl rfl Tryz.sizeOf82 rfl rfl ?_
                    refine K.GL.nil ?_
                    refine K.GQ.go ?_
                    refine K.GC.seq ?_
                    refine K.GC.seq ?_
                    refine K.GC.region ?_
                    first | refine K.GL.det (K.e_fa fo82_0 rfl) rfl ?_ | refine K.GL.det (K.e_fieldAddr fo82_0 rfl) rfl ?_
                    first | refine K.GL.det (K.e_ldE Tryz.isAgg2 rfl rfl (by assumption) rfl) rfl ?_ | refine K.GL.det (K.e_ldF Tryz.isAgg2 rfl rfl (by assumption) rfl) rfl ?_ | refine K.GL.det (K.e_load Tryz.isAgg2 rfl rfl) rfl ?_ | refine K.GL.det (K.e_load0 Tryz.isAgg2 rfl (by assumption)) rfl ?_
                    first | refine K.GL.det ((K.e_lt rfl rfl).yes (by first | omega | assumption | decide +kernel)) rfl ?_ | refine K.GL.det ((K.e_lt rfl rfl).no (by first | omega | assumption | decide +kernel)) rfl ?_ | refine K.GL.det (K.e_lt rfl rfl) rfl ?_
                    refine K.GL.det (K.e_move rfl) rfl ?_
                    first | refine K.GL.splitB 50 rfl (fun h8 => ?_) (fun h8 => ?_) | skip
                    all_goals first | exact absurd h8 (by decide) | replace h8 := of_decide_eq_true h8 | replace h8 := of_decide_eq_false h8 | skip
                    all_goals
                      first | (refine K.GL.want 50 rfl rfl rfl ?_; first | refine K.GL.det (K.e_fa fo82_0 rfl) rfl ?_ | refine K.GL.det (K.e_fieldAddr fo82_0 rfl) rfl ?_) | refine K.GL.skip 50 rfl rfl rfl rfl ?_ | refine K.GL.skipU 50 rfl rfl rfl rfl ?_
                      first | (refine K.GL.want 50 rfl rfl rfl ?_; first | refine K.GL.det (K.e_ldE Tryz.isAgg2 rfl rfl (by assumption) rfl) rfl ?_ | refine K.GL.det (K.e_ldF Tryz.isAgg2 rfl rfl (by assumption) rfl) rfl ?_ | refine K.GL.det (K.e_load Tryz.isAgg2 rfl rfl) rfl ?_ | refine K.GL.det (K.e_load0 Tryz.isAgg2 rfl (by assumption)) rfl ?_) | refine K.GL.skip 50 rfl rfl rfl rfl ?_ | refine K.GL.skipU 50 rfl rfl rfl rfl ?_
                      first | (refine K.GL.want 50 rfl rfl rfl ?_; first | refine K.GL.det ((K.e_gt rfl rfl).yes (by first | omega | assumption | decide +kernel)) rfl ?_ | refine K.GL.det ((K.e_gt rfl rfl).no (by first | omega | assumption | decide +kernel)) rfl ?_ | refine K.GL.det (K.e_gt rfl rfl) rfl ?_) | refine K.GL.skip 50 rfl rfl rfl rfl ?_ | refine K.GL.skipU 50 rfl rfl rfl rfl ?_
                      first | refine K.GL.det (K.e_pick_t rfl rfl) rfl ?_ | refine K.GL.det (K.e_pick_f rfl rfl) rfl ?_
                      refine K.GL.det (K.e_move rfl) rfl ?_
                      first | refine K.GL.splitB 55 rfl (fun h9 => ?_) (fun h9 => ?_) | skip
                      all_goals first | exact absurd h9 (by decide) | replace h9 := of_decide_eq_true h9 | replace h9 := of_decide_eq_false h9 | skip
                      all_goals
                        first | (refine K.GL.want 55 rfl rfl rfl ?_; first | refine K.GL.det (K.e_fa fo82_1 rfl) rfl ?_ | refine K.GL.det (K.e_fieldAddr fo82_1 rfl) rfl ?_) | refine K.GL.skip 55 rfl rfl rfl rfl ?_ | refine K.GL.skipU 55 rfl rfl rfl rfl ?_
                        first | (refine K.GL.want 55 rfl rfl rfl ?_; first | refine K.GL.det (K.e_ldE Tryz.isAgg3 rfl rfl (by assumption) rfl) rfl ?_ | refine K.GL.det (K.e_ldF Tryz.isAgg3 rfl rfl (by assumption) rfl) rfl ?_ | refine K.GL.det (K.e_load Tryz.isAgg3 rfl rfl) rfl ?_ | refine K.GL.det (K.e_load0 Tryz.isAgg3 rfl (by assumption)) rfl ?_) | refine K.GL.skip 55 rfl rfl rfl rfl ?_ | refine K.GL.skipU 55 rfl rfl rfl rfl ?_
                        first | (refine K.GL.want 55 rfl rfl rfl ?_; first | refine K.GL.det ((K.e_lt rfl rfl).yes (by first | omega | assumption | decide +kernel)) rfl ?_ | refine K.GL.det ((K.e_lt rfl rfl).no (by first | omega | assumption | decide +kernel)) rfl ?_ | refine K.GL.det (K.e_lt rfl rfl) rfl ?_) | refine K.GL.skip 55 rfl rfl rfl rfl ?_ | refine K.GL.skipU 55 rfl rfl rfl rfl ?_
                        first | refine K.GL.det (K.e_pick_t rfl rfl) rfl ?_ | refine K.GL.det (K.e_pick_f rfl rfl) rfl ?_
                        refine K.GL.det (K.e_move rfl) rfl ?_
                        first | refine K.GL.splitB 60 rfl (fun h10 => ?_) (fun h10 => ?_) | skip
                        all_goals first | exact absurd h10 (by decide) | replace h10 := of_decide_eq_true h10 | replace h10 := of_decide_eq_false h10 | skip
                        all_goals
                          first | (refine K.GL.want 60 rfl rfl rfl ?_; first | refine K.GL.det (K.e_fa fo82_1 rfl) rfl ?_ | refine K.GL.det (K.e_fieldAddr fo82_1 rfl) rfl ?_) | refine K.GL.skip 60 rfl rfl rfl rfl ?_ | refine K.GL.skipU 60 rfl rfl rfl rfl ?_
                          first | (refine K.GL.want 60 rfl rfl rfl ?_; first | refine K.GL.det (K.e_ldE Tryz.isAgg3 rfl rfl (by assumption) rfl) rfl ?_ | refine K.GL.det (K.e_ldF Tryz.isAgg3 rfl rfl (by assumption) rfl) rfl ?_ | refine K.GL.det (K.e_load Tryz.isAgg3 rfl rfl) rfl ?_ | refine K.GL.det (K.e_load0 Tryz.isAgg3 rfl (by assumption)) rfl ?_) | refine K.GL.skip 60 rfl rfl rfl rfl ?_ | refine K.GL.skipU 60 rfl rfl rfl rfl ?_
                          first | (refine K.GL.want 60 rfl rfl rfl ?_; first | refine K.GL.det ((K.e_gt rfl rfl).yes (by first | omega | assumption | decide +kernel)) rfl ?_ | refine K.GL.det ((K.e_gt rfl rfl).no (by first | omega | assumption | decide +kernel)) rfl ?_ | refine K.GL.det (K.e_gt rfl rfl) rfl ?_) | refine K.GL.skip 60 rfl rfl rfl rfl ?_ | refine K.GL.skipU 60 rfl rfl rfl rfl ?_
                          first | refine K.GL.det (K.e_pick_t rfl rfl) rfl ?_ | refine K.GL.det (K.e_pick_f rfl rfl) rfl ?_
                          refine K.GL.det (K.e_move rfl) rfl ?_
                          first | refine K.GL.splitB 65 rfl (fun h11 => ?_) (fun h11 => ?_) | skip
                          all_goals first | exact absurd h11 (by decide) | replace h11 := of_decide_eq_true h11 | replace h11 := of_decide_eq_false h11 | skip
                          all_goals
                            first | (refine K.GL.want 65 rfl rfl rfl ?_; first | refine K.GL.det (K.e_fa fo82_0 rfl) rfl ?_ | refine K.GL.det (K.e_fieldAddr fo82_0 rfl) rfl ?_) | refine K.GL.skip 65 rfl rfl rfl rfl ?_ | refine K.GL.skipU 65 rfl rfl rfl rfl ?_
                            first | (refine K.GL.want 65 rfl rfl rfl ?_; first | refine K.GL.det (K.e_ldE Tryz.isAgg2 rfl rfl (by assumption) rfl) rfl ?_ | refine K.GL.det (K.e_ldF Tryz.isAgg2 rfl rfl (by assumption) rfl) rfl ?_ | refine K.GL.det (K.e_load Tryz.isAgg2 rfl rfl) rfl ?_ | refine K.GL.det (K.e_load0 Tryz.isAgg2 rfl (by assumption)) rfl ?_) | refine K.GL.skip 65 rfl rfl rfl rfl ?_ | refine K.GL.skipU 65 rfl rfl rfl rfl ?_
                            first | (refine K.GL.want 65 rfl rfl rfl ?_; first | refine K.GL.det ((K.e_eq rfl rfl).yes (by first | omega | assumption | decide +kernel)) rfl ?_ | refine K.GL.det ((K.e_eq rfl rfl).no (by first | omega | assumption | decide +kernel)) rfl ?_ | refine K.GL.det (K.e_eq rfl rfl) rfl ?_) | refine K.GL.skip 65 rfl rfl rfl rfl ?_ | refine K.GL.skipU 65 rfl rfl rfl rfl ?_
                            first | (refine K.GL.want 65 rfl rfl rfl ?_; first | refine K.GL.det (K.e_move rfl) rfl ?_) | refine K.GL.skip 65 rfl rfl rfl rfl ?_ | refine K.GL.skipU 65 rfl rfl rfl rfl ?_
                            first | refine K.GL.splitB 69 rfl (fun h12 => ?_) (fun h12 => ?_) | skip
                            all_goals first | exact absurd h12 (by decide) | replace h12 := of_decide_eq_true h12 | replace h12 := of_decide_eq_false h12 | skip
                            all_goals
                              first | (refine K.GL.want 69 rfl rfl rfl ?_; first | refine K.GL.det (K.e_fa fo82_1 rfl) rfl ?_ | refine K.GL.det (K.e_fieldAddr fo82_1 rfl) rfl ?_) | refine K.GL.skip 69 rfl rfl rfl rfl ?_ | refine K.GL.skipU 69 rfl rfl rfl rfl ?_
                              first | (refine K.GL.want 69 rfl rfl rfl ?_; first | refine K.GL.det (K.e_ldE Tryz.isAgg3 rfl rfl (by assumption) rfl) rfl ?_ | refine K.GL.det (K.e_ldF Tryz.isAgg3 rfl rfl (by assumption) rfl) rfl ?_ | refine K.GL.det (K.e_load Tryz.isAgg3 rfl rfl) rfl ?_ | refine K.GL.det (K.e_load0 Tryz.isAgg3 rfl (by assumption)) rfl ?_) | refine K.GL.skip 69 rfl rfl rfl rfl ?_ | refine K.GL.skipU 69 rfl rfl rfl rfl ?_
                              first | (refine K.GL.want 69 rfl rfl rfl ?_; first | refine K.GL.det ((K.e_ne rfl rfl).yes (by first | omega | assumption | decide +kernel)) rfl ?_ | refine K.GL.det ((K.e_ne rfl rfl).no (by first | omega | assumption | decide +kernel)) rfl ?_ | refine K.GL.det (K.e_ne rfl rfl) rfl ?_) | refine K.GL.skip 69 rfl rfl rfl rfl ?_ | refine K.GL.skipU 69 rfl rfl rfl rfl ?_
                              first | (refine K.GL.want 65 rfl rfl rfl ?_; first | refine K.GL.det (K.e_pick_t rfl rfl) rfl ?_ | refine K.GL.det (K.e_pick_f rfl rfl) rfl ?_) | refine K.GL.skip 65 rfl rfl rfl rfl ?_ | refine K.GL.skipU 65 rfl rfl rfl rfl ?_
                              first | refine K.GL.det (K.e_pick_t rfl rfl) rfl ?_ | refine K.GL.det (K.e_pick_f rfl rfl) rfl ?_
                              refine K.GL.nil ?_
                              refine K.GQ.go ?_
                              refine K.GC.condB rfl (fun h13 => ?_) (fun h13 => ?_)
                              · first
                                | exact absurd h13 (by decide)
                                | try replace h13 := of_decide_eq_true h13
                                  refine K.GC.seq ?_
                                  refine K.GC.region ?_
                                  refine K.GL.det (K.e_assign rfl) rfl ?_
                                  refine K.GL.nil ?_
                                  refine K.GQ.go ?_
                                  refine K.GC.ret ?_
                                  refine K.GQ.then_ret ?_
                                  refine K.GQ.block_ret ?_
                                  refine K.GQ.then_ret ?_
                                  refine K.GQ.then_ret ?_
                                  refine K.GQ.block_ret ?_
                                  refine K.GQ.then_ret ?_
                                  refine K.GQ.ret1 Tryz.results32 rfl (fun w hT => ?_)
                                  cases hR : rightB t with
                                  | true =>
                                    have hP := (right_iff t).1 hR
                                    have := hP.g1; have := hP.g2; have := hP.n1; have := hP.n2; have := hP.o1; have := hP.o2
                                    first
                                    | exact ⟨rfl, hT.nil⟩
                                    | (exfalso; omega)
                                    | (exfalso; have := q45.ok_iff.1 (hP.ok _ (List.mem_of_getElem? hq45)); omega)
                                    | (exfalso; have := dup_bad hP hq45 hqy (by omega) (by omega); omega)
                                    | (obtain rfl : x = t.exts.length := by omega
                                       have hop := right_opn ⟨by omega, by omega⟩ ⟨by omega, by omega⟩ ⟨by omega, by omega⟩ hI2 hI3
                                       rw [hR] at hop
                                       refine ⟨?_, hT.nil⟩
                                       simp only [Ending.returned.injEq, Value.bool.injEq]
                                       rcases Classical.em (t.opn < 0) with hn | hn
                                       · rw [opn_neg hn] at hop; first | rfl | (cases hop; done) | (simp_all; done)
                                       · rw [opn_at hn (hq (by omega))] at hop; have hop2 := hop.symm; simp only [Ext.used, Bool.and_eq_true, Bool.and_eq_false_iff, decide_eq_true_eq, decide_eq_false_iff_not] at hop2; first | (exfalso; omega) | exact decide_eq_true (by omega) | exact decide_eq_false (by omega))
                                  | false =>
                                    first
                                    | exact ⟨rfl, hT.nil⟩
                                    | (obtain rfl : x = t.exts.length := by omega
                                       have hop := right_opn ⟨by omega, by omega⟩ ⟨by omega, by omega⟩ ⟨by omega, by omega⟩ hI2 hI3
                                       rw [hR] at hop
                                       refine ⟨?_, hT.nil⟩
                                       simp only [Ending.returned.injEq, Value.bool.injEq]
                                       rcases Classical.em (t.opn < 0) with hn | hn
                                       · rw [opn_neg hn] at hop; first | rfl | (cases hop; done) | (simp_all; done)
                                       · rw [opn_at hn (hq (by omega))] at hop; have hop2 := hop.symm; simp only [Ext.used, Bool.and_eq_true, Bool.and_eq_false_iff, decide_eq_true_eq, decide_eq_false_iff_not] at hop2; first | (exfalso; omega) | exact decide_eq_true (by omega) | exact decide_eq_false (by omega))
                              · first
                                | exact absurd h13 (by decide)
                                | try replace h13 := of_decide_eq_false h13
                                  refine K.GC.skip ?_
                                  refine K.GQ.go ?_
                                  refine K.GC.seq ?_
                                  have hok : q45.ok = true := q45.ok_iff.2 (by omega)
                                  refine K.GC.region ?_
                                  refine K.GL.det (K.e_assign rfl) rfl ?_
                                  refine K.GL.nil ?_
                                  refine K.GQ.go ?_
                                  refine K.GC.block ?_
                                  refine K.GC.loopk (α := Nat) [1, 3, 4, 5, 37, 38, 39, 40, 41, 42, 43, 44, 45, 46, 47, 48, 49, 50, 51, 52, 53, 54, 55, 56, 57, 58, 59, 60, 61, 62, 63, 64, 65, 66, 67, 68, 69, 70, 71, 72, 73, 74, 94, 95, 96, 97, 98, 99, 100, 101, 102, 103, 104, 105, 106, 107, 108, 109, 110, 111, 112, 113, 114, 115, 116] rfl (fun y => [(6, .int .i64 (y : Int))]) (fun y => [cl b5 82 (encX.f q45), cl b1 31 (tabC t a c)]) (fun y => y ≤ x ∧ (q45.seq ≠ 0 → ∀ (j : Nat) (e : Ext), j < y → t.exts[j]? = some e → e.seq ≠ q45.seq)) (fun y => (x - y)) 0 ⟨Nat.zero_le _, fun _ j e h => absurd h (by omega)⟩ (by first | ((repeat refine ⟨rfl, ?_⟩); exact trivial) | (simp only [List.take_zero, List.map_nil, List.flatMap_nil, List.append_nil]; (repeat refine ⟨rfl, ?_⟩); exact trivial)) (by first | exact K.sb | (dsimp only; exact K.sb) | (simp only [List.take_zero, List.map_nil, List.flatMap_nil, List.append_nil]; exact K.sb) | exact K.Sub.refl _) (fun y hI => ?_)
                                  rename_i hI0
                                  obtain ⟨hJ, hJ2⟩ := hI
                                  have hI := hI0
                                  refine K.GC.seq ?_
                                  refine K.GC.seq ?_
                                  refine K.GC.region ?_
                                  refine K.GL.det (K.e_move rfl) rfl ?_
                                  refine K.GL.det (K.e_move rfl) rfl ?_
                                  first | refine K.GL.det ((K.e_lt rfl rfl).yes (by first | omega | assumption | decide +kernel)) rfl ?_ | refine K.GL.det ((K.e_lt rfl rfl).no (by first | omega | assumption | decide +kernel)) rfl ?_ | refine K.GL.det (K.e_lt rfl rfl) rfl ?_
                                  refine K.GL.nil ?_
                                  refine K.GQ.go ?_
                                  refine K.GC.condB rfl (fun h14 => ?_) (fun h14 => ?_)
                                  · first
                                    | exact absurd h14 (by decide)
                                    | try replace h14 := of_decide_eq_true h14
                                      refine K.GC.skip ?_
                                      refine K.GQ.go ?_
                                      refine K.GC.seq ?_
                                      refine K.GC.block ?_
                                      refine K.GC.seq ?_
                                      obtain ⟨qy, hqy⟩ : ∃ q, t.exts[y]? = some q := get_ex (by omega)
                                      refine K.D.GC.drawn0 14 [[], [0], [0, 1], [0, 1, 2], [0, 1, 2, 3], [0, 1, 2, 3, 4], [0, 1, 2, 3], [0, 1, 2, 3, 4, 5, 6], [0, 1, 2, 3, 4, 5, 6, 7], [0, 1, 2, 3, 4, 5, 6, 7, 8], [0, 1, 2, 3], [0, 1, 2, 3, 10], [0, 1, 2, 3, 4, 5, 6, 7, 8, 9, 10, 11], [0, 1, 2, 3, 4, 5, 6, 7, 8, 9, 10, 11, 12]] [[], [0], [1], [2], [3], [3, 4], [3], [3, 5, 6], [3, 7], [3, 8], [3], [3, 10], [3, 9, 11], [3, 12]] [[], [], [], [], [], [], [], [], [], [], [], [], [], []] [[], [], [], [], [], [], [], [], [], [], [], [], [], []] [] [1, 2, 3, 4, 5, 6, 37, 38, 39, 40, 41, 42, 43, 44, 45, 46, 47, 48, 49, 50, 51, 52, 53, 54, 55, 56, 57, 58, 59, 60, 61, 62, 63, 64, 65, 66, 67, 68, 69, 70, 71, 72, 73, 74, 75, 76, 77, 78, 79, 94, 95, 96, 97, 98, 99, 100, 101, 102, 103, 104, 105, 106, 107, 108, 109, 110, 111, 112, 113, 114, 115, 116] (by kernel_rfl) (by kernel_rfl) (by kernel_rfl) rfl ?_
                                      first | refine K.D.DW.det (b := []) (u := []) rfl rfl rfl (fun vs hf => K.e_fa fo82_0 rfl) ?_ | refine K.D.DW.det (b := []) (u := []) rfl rfl rfl (fun vs hf => K.e_fieldAddr fo82_0 rfl) ?_
                                      first | refine K.D.DW.det (b := [0]) (u := []) rfl rfl rfl (fun vs hf => K.e_ldE Tryz.isAgg2 rfl rfl (by assumption) rfl) ?_ | refine K.D.DW.det (b := [0]) (u := []) rfl rfl rfl (fun vs hf => K.e_ldF Tryz.isAgg2 rfl rfl (by assumption) rfl) ?_ | refine K.D.DW.det (b := [0]) (u := []) rfl rfl rfl (fun vs hf => K.e_load Tryz.isAgg2 rfl rfl) ?_ | refine K.D.DW.det (b := [0]) (u := []) rfl rfl rfl (fun vs hf => K.e_load0 Tryz.isAgg2 rfl (by assumption)) ?_
                                      first | refine K.D.DW.det (b := [1]) (u := []) rfl rfl rfl (fun vs hf => (K.e_ne rfl rfl).yes (by first | omega | assumption | decide +kernel)) ?_ | refine K.D.DW.det (b := [1]) (u := []) rfl rfl rfl (fun vs hf => (K.e_ne rfl rfl).no (by first | omega | assumption | decide +kernel)) ?_ | refine K.D.DW.det (b := [1]) (u := []) rfl rfl rfl (fun vs hf => K.e_ne rfl rfl) ?_
                                      refine K.D.DW.det (b := [2]) (u := []) rfl rfl rfl (fun vs hf => K.e_move rfl) ?_
                                      first | (refine K.D.DW.want (b := [3]) rfl (fun _ => rfl) ?_; first | refine K.D.DW.det (b := [3]) (u := []) rfl rfl rfl (fun vs hf => K.e_fa fo31_2 rfl) ?_ | refine K.D.DW.det (b := [3]) (u := []) rfl rfl rfl (fun vs hf => K.e_fieldAddr fo31_2 rfl) ?_) | refine K.D.DW.skip (b := [3]) rfl rfl (fun _ => rfl) ?_
                                      first | (refine K.D.DW.want (b := [3, 4]) rfl (fun _ => rfl) ?_; first | refine K.D.DW.det (b := [3, 4]) (u := []) rfl rfl rfl (fun vs hf => K.e_ldE Tryz.isAgg29 rfl rfl (by assumption) rfl) ?_ | refine K.D.DW.det (b := [3, 4]) (u := []) rfl rfl rfl (fun vs hf => K.e_ldF Tryz.isAgg29 rfl rfl (by assumption) rfl) ?_ | refine K.D.DW.det (b := [3, 4]) (u := []) rfl rfl rfl (fun vs hf => K.e_load Tryz.isAgg29 rfl rfl) ?_ | refine K.D.DW.det (b := [3, 4]) (u := []) rfl rfl rfl (fun vs hf => K.e_load0 Tryz.isAgg29 rfl (by assumption)) ?_) | refine K.D.DW.skip (b := [3, 4]) rfl rfl (fun _ => rfl) ?_
                                      first | (refine K.D.DW.want (b := [3]) rfl (fun _ => rfl) ?_; first | refine K.D.DW.det (b := [3]) (u := []) rfl rfl rfl (fun vs hf => K.e_move rfl) ?_) | refine K.D.DW.skip (b := [3]) rfl rfl (fun _ => rfl) ?_
                                      first | (refine K.D.DW.want (b := [3, 5, 6]) rfl (fun _ => rfl) ?_; first | refine K.D.DW.det (b := [3, 5, 6]) (u := []) rfl rfl rfl (fun vs hf => K.e_ixN sl29 rfl rfl rfl rfl (by omega)) ?_ | refine K.D.DW.det (b := [3, 5, 6]) (u := []) rfl rfl rfl (fun vs hf => K.e_ix sl29 rfl rfl rfl rfl (by omega) (by omega)) ?_ | refine K.D.DW.det (b := [3, 5, 6]) (u := []) rfl rfl rfl (fun vs hf => K.e_indexAddrS sl29 rfl rfl (by assumption) (by omega) (by omega)) ?_ | refine K.D.DW.det (b := [3, 5, 6]) (u := []) rfl rfl rfl (fun vs hf => K.e_indexAddr sl29 rfl rfl (by omega) (by omega)) ?_) | refine K.D.DW.skip (b := [3, 5, 6]) rfl rfl (fun _ => rfl) ?_
                                      first | (refine K.D.DW.want (b := [3, 7]) rfl (fun _ => rfl) ?_; first | refine K.D.DW.det (b := [3, 7]) (u := []) rfl rfl rfl (fun vs hf => K.e_fa fo82_0 rfl) ?_ | refine K.D.DW.det (b := [3, 7]) (u := []) rfl rfl rfl (fun vs hf => K.e_fieldAddr fo82_0 rfl) ?_) | refine K.D.DW.skip (b := [3, 7]) rfl rfl (fun _ => rfl) ?_
                                      first | (refine K.D.DW.want (b := [3, 8]) rfl (fun _ => rfl) ?_; first | refine K.D.DW.det (b := [3, 8]) (u := []) rfl rfl rfl (fun vs hf => K.e_ldE Tryz.isAgg2 rfl rfl (by assumption) rfl) ?_ | refine K.D.DW.det (b := [3, 8]) (u := []) rfl rfl rfl (fun vs hf => K.e_ldF Tryz.isAgg2 rfl rfl (by assumption) rfl) ?_ | refine K.D.DW.det (b := [3, 8]) (u := []) rfl rfl rfl (fun vs hf => K.e_load Tryz.isAgg2 rfl rfl) ?_ | refine K.D.DW.det (b := [3, 8]) (u := []) rfl rfl rfl (fun vs hf => K.e_load0 Tryz.isAgg2 rfl (by assumption)) ?_) | refine K.D.DW.skip (b := [3, 8]) rfl rfl (fun _ => rfl) ?_
                                      first | (refine K.D.DW.want (b := [3]) rfl (fun _ => rfl) ?_; first | refine K.D.DW.det (b := [3]) (u := []) rfl rfl rfl (fun vs hf => K.e_fa fo82_0 rfl) ?_ | refine K.D.DW.det (b := [3]) (u := []) rfl rfl rfl (fun vs hf => K.e_fieldAddr fo82_0 rfl) ?_) | refine K.D.DW.skip (b := [3]) rfl rfl (fun _ => rfl) ?_
                                      first | (refine K.D.DW.want (b := [3, 10]) rfl (fun _ => rfl) ?_; first | refine K.D.DW.det (b := [3, 10]) (u := []) rfl rfl rfl (fun vs hf => K.e_ldE Tryz.isAgg2 rfl rfl (by assumption) rfl) ?_ | refine K.D.DW.det (b := [3, 10]) (u := []) rfl rfl rfl (fun vs hf => K.e_ldF Tryz.isAgg2 rfl rfl (by assumption) rfl) ?_ | refine K.D.DW.det (b := [3, 10]) (u := []) rfl rfl rfl (fun vs hf => K.e_load Tryz.isAgg2 rfl rfl) ?_ | refine K.D.DW.det (b := [3, 10]) (u := []) rfl rfl rfl (fun vs hf => K.e_load0 Tryz.isAgg2 rfl (by assumption)) ?_) | refine K.D.DW.skip (b := [3, 10]) rfl rfl (fun _ => rfl) ?_
                                      first | (refine K.D.DW.want (b := [3, 9, 11]) rfl (fun _ => rfl) ?_; first | refine K.D.DW.det (b := [3, 9, 11]) (u := []) rfl rfl rfl (fun vs hf => (K.e_eq rfl rfl).yes (by first | omega | assumption | decide +kernel)) ?_ | refine K.D.DW.det (b := [3, 9, 11]) (u := []) rfl rfl rfl (fun vs hf => (K.e_eq rfl rfl).no (by first | omega | assumption | decide +kernel)) ?_ | refine K.D.DW.det (b := [3, 9, 11]) (u := []) rfl rfl rfl (fun vs hf => K.e_eq rfl rfl) ?_) | refine K.D.DW.skip (b := [3, 9, 11]) rfl rfl (fun _ => rfl) ?_
                                      first | refine K.D.DW.det (b := [3, 12]) (u := []) rfl rfl rfl (fun vs hf => K.e_pick_t rfl rfl) ?_ | refine K.D.DW.det (b := [3, 12]) (u := []) rfl rfl rfl (fun vs hf => K.e_pick_f rfl rfl) ?_
                                      refine K.D.DW.fin (fun vs hf => ?_)
                                      refine K.GL.keep [1, 2, 3, 4, 5, 6, 37, 38, 39, 40, 41, 42, 43, 44, 45, 46, 47, 48, 49, 50, 51, 52, 53, 54, 55, 56, 57, 58, 59, 60, 61, 62, 63, 64, 65, 66, 67, 68, 69, 70, 71, 72, 73, 74, 75, 76, 77, 78, 79, 80, 81, 82, 83, 84, 85, 86, 87, 88, 89, 90, 91, 92, 93, 94, 95, 96, 97, 98, 99, 100, 101, 102, 103, 104, 105, 106, 107, 108, 109, 110, 111, 112, 113, 114, 115, 116] rfl ?_
                                      refine K.D.GL.resE (L' := _) rfl ?_
                                      clear hf
                                      try clear vs
                                      refine K.GL.nil ?_
                                      refine K.GQ.go ?_
                                      refine K.GC.condB rfl (fun h15 => ?_) (fun h15 => ?_)
                                      · first
                                        | exact absurd h15 (by decide)
                                        | try replace h15 := of_decide_eq_true h15
                                          refine K.GC.seq ?_
                                          refine K.GC.region ?_
                                          refine K.GL.det (K.e_assign rfl) rfl ?_
                                          refine K.GL.nil ?_
                                          refine K.GQ.go ?_
                                          refine K.GC.ret ?_
                                          refine K.GQ.block_ret ?_
                                          refine K.GQ.then_ret ?_
                                          refine K.GQ.then_ret ?_
                                          refine K.GQ.block_ret ?_
                                          refine K.GQ.block_ret ?_
                                          refine K.GQ.then_ret ?_
                                          refine K.GQ.then_ret ?_
                                          refine K.GQ.block_ret ?_
                                          refine K.GQ.then_ret ?_
                                          refine K.GQ.ret1 Tryz.results32 rfl (fun w hT => ?_)
                                          cases hR : rightB t with
                                          | true =>
                                            have hP := (right_iff t).1 hR
                                            have := hP.g1; have := hP.g2; have := hP.n1; have := hP.n2; have := hP.o1; have := hP.o2
                                            first
                                            | exact ⟨rfl, hT.nil⟩
                                            | (exfalso; omega)
                                            | (exfalso; have := q45.ok_iff.1 (hP.ok _ (List.mem_of_getElem? hq45)); omega)
                                            | (exfalso; have := dup_bad hP hq45 hqy (by omega) (by omega); omega)
                                            | (obtain rfl : x = t.exts.length := by omega
                                               have hop := right_opn ⟨by omega, by omega⟩ ⟨by omega, by omega⟩ ⟨by omega, by omega⟩ hI2 hI3
                                               rw [hR] at hop
                                               refine ⟨?_, hT.nil⟩
                                               simp only [Ending.returned.injEq, Value.bool.injEq]
                                               rcases Classical.em (t.opn < 0) with hn | hn
                                               · rw [opn_neg hn] at hop; first | rfl | (cases hop; done) | (simp_all; done)
                                               · rw [opn_at hn (hq (by omega))] at hop; have hop2 := hop.symm; simp only [Ext.used, Bool.and_eq_true, Bool.and_eq_false_iff, decide_eq_true_eq, decide_eq_false_iff_not] at hop2; first | (exfalso; omega) | exact decide_eq_true (by omega) | exact decide_eq_false (by omega))
                                          | false =>
                                            first
                                            | exact ⟨rfl, hT.nil⟩
                                            | (obtain rfl : x = t.exts.length := by omega
                                               have hop := right_opn ⟨by omega, by omega⟩ ⟨by omega, by omega⟩ ⟨by omega, by omega⟩ hI2 hI3
                                               rw [hR] at hop
                                               refine ⟨?_, hT.nil⟩
                                               simp only [Ending.returned.injEq, Value.bool.injEq]
                                               rcases Classical.em (t.opn < 0) with hn | hn
                                               · rw [opn_neg hn] at hop; first | rfl | (cases hop; done) | (simp_all; done)
                                               · rw [opn_at hn (hq (by omega))] at hop; have hop2 := hop.symm; simp only [Ext.used, Bool.and_eq_true, Bool.and_eq_false_iff, decide_eq_true_eq, decide_eq_false_iff_not] at hop2; first | (exfalso; omega) | exact decide_eq_true (by omega) | exact decide_eq_false (by omega))
                                      · first
                                        | exact absurd h15 (by decide)
                                        | try replace h15 := of_decide_eq_false h15
                                          refine K.GC.skip ?_
                                          refine K.GQ.block_normal ?_
                                          refine K.GQ.go ?_
                                          refine K.GC.region ?_
                                          refine K.GL.det (K.e_move rfl) rfl ?_
                                          first | refine K.GL.det (K.e_add rfl rfl ⟨by omega, by omega⟩) rfl ?_ | refine K.GL.det (K.e_addw rfl rfl) rfl ?_
                                          refine K.GL.det (K.e_assign rfl) rfl ?_
                                          refine K.GL.nil ?_
                                          exact K.GQ.round (y + 1) ⟨by omega, fun h0 j e hj hje => by
                                                  rcases Nat.lt_or_ge j y with h | h
                                                  · exact hJ2 h0 j e h hje
                                                  · obtain rfl : j = y := by omega
                                                    rw [hje] at hqy; cases hqy; simp_all⟩ (by omega) (by (repeat refine ⟨rfl, ?_⟩); exact trivial) (by first | exact K.sb | (dsimp only; exact K.sb))
                                  · first
                                    | exact absurd h14 (by decide)
                                    | try replace h14 := of_decide_eq_false h14
                                      refine K.GC.exit ?_
                                      refine K.GQ.then_exit ?_
                                      refine K.GQ.then_exit ?_
                                      refine K.GQ.block_hit ?_
                                      refine K.GQ.block_normal ?_
                                      refine K.GQ.go ?_
                                      refine K.GC.region ?_
                                      refine K.GL.det (K.e_move rfl) rfl ?_
                                      first | refine K.GL.det (K.e_add rfl rfl ⟨by omega, by omega⟩) rfl ?_ | refine K.GL.det (K.e_addw rfl rfl) rfl ?_
                                      refine K.GL.det (K.e_assign rfl) rfl ?_
                                      refine K.GL.nil ?_
                                      exact K.GQ.round (x + 1) ⟨by omega, fun j e hj hje => by
                                              rcases Nat.lt_or_ge j x with h | h
                                              · exact hI2 j e h hje
                                              · obtain rfl : j = x := by omega
                                                rw [hq45] at hje; cases hje; exact hok, nd_next hq45 hI3 (fun h0 j e hj hje => hJ2 h0 j e (by omega) hje)⟩ (by omega) (by (repeat refine ⟨rfl, ?_⟩); exact trivial) (by first | exact K.sb | (dsimp only; exact K.sb))
                · first
                  | exact absurd h7 (by decide)
                  | try replace h7 := of_decide_eq_false h7
                    refine K.GC.exit ?_
                    refine K.GQ.then_exit ?_
                    refine K.GQ.then_exit ?_
                    refine K.GQ.block_hit ?_
                    refine K.GQ.go ?_
                    refine K.GC.seq ?_
                    obtain ⟨q, hq⟩ : ∃ q, 0 ≤ t.opn → t.exts[t.opn.toNat]? = some q := by
                      by_cases h : 0 ≤ t.opn
                      · obtain ⟨q, hq⟩ := get_ex (l := t.exts) (i := t.opn.toNat) (by omega)
                        exact ⟨q, fun _ => hq⟩
                      · exact ⟨default, fun h2 => absurd h2 h⟩
                    refine K.GC.region ?_
                    first | refine K.GL.det (K.e_fa fo31_1 rfl) rfl ?_ | refine K.GL.det (K.e_fieldAddr fo31_1 rfl) rfl ?_
                    first | refine K.GL.det (K.e_ldE Tryz.isAgg3 rfl rfl (by assumption) rfl) rfl ?_ | refine K.GL.det (K.e_ldF Tryz.isAgg3 rfl rfl (by assumption) rfl) rfl ?_ | refine K.GL.det (K.e_load Tryz.isAgg3 rfl rfl) rfl ?_ | refine K.GL.det (K.e_load0 Tryz.isAgg3 rfl (by assumption)) rfl ?_
                    first | refine K.GL.det ((K.e_lt rfl rfl).yes (by first | omega | assumption | decide +kernel)) rfl ?_ | refine K.GL.det ((K.e_lt rfl rfl).no (by first | omega | assumption | decide +kernel)) rfl ?_ | refine K.GL.det (K.e_lt rfl rfl) rfl ?_
                    refine K.GL.det (K.e_move rfl) rfl ?_
                    first | refine K.GL.splitB 97 rfl (fun h16 => ?_) (fun h16 => ?_) | skip
                    all_goals first | exact absurd h16 (by decide) | replace h16 := of_decide_eq_true h16 | replace h16 := of_decide_eq_false h16 | skip
                    all_goals
                      first | (refine K.GL.want 97 rfl rfl rfl ?_; first | refine K.GL.det (K.e_fa fo31_2 rfl) rfl ?_ | refine K.GL.det (K.e_fieldAddr fo31_2 rfl) rfl ?_) | refine K.GL.skip 97 rfl rfl rfl rfl ?_ | refine K.GL.skipU 97 rfl rfl rfl rfl ?_
                      first | (refine K.GL.want 97 rfl rfl rfl ?_; first | refine K.GL.det (K.e_ldE Tryz.isAgg29 rfl rfl (by assumption) rfl) rfl ?_ | refine K.GL.det (K.e_ldF Tryz.isAgg29 rfl rfl (by assumption) rfl) rfl ?_ | refine K.GL.det (K.e_load Tryz.isAgg29 rfl rfl) rfl ?_ | refine K.GL.det (K.e_load0 Tryz.isAgg29 rfl (by assumption)) rfl ?_) | refine K.GL.skip 97 rfl rfl rfl rfl ?_ | refine K.GL.skipU 97 rfl rfl rfl rfl ?_
                      first | (refine K.GL.want 97 rfl rfl rfl ?_; first | refine K.GL.det (K.e_fa fo31_1 rfl) rfl ?_ | refine K.GL.det (K.e_fieldAddr fo31_1 rfl) rfl ?_) | refine K.GL.skip 97 rfl rfl rfl rfl ?_ | refine K.GL.skipU 97 rfl rfl rfl rfl ?_
                      first | (refine K.GL.want 97 rfl rfl rfl ?_; first | refine K.GL.det (K.e_ldE Tryz.isAgg3 rfl rfl (by assumption) rfl) rfl ?_ | refine K.GL.det (K.e_ldF Tryz.isAgg3 rfl rfl (by assumption) rfl) rfl ?_ | refine K.GL.det (K.e_load Tryz.isAgg3 rfl rfl) rfl ?_ | refine K.GL.det (K.e_load0 Tryz.isAgg3 rfl (by assumption)) rfl ?_) | refine K.GL.skip 97 rfl rfl rfl rfl ?_ | refine K.GL.skipU 97 rfl rfl rfl rfl ?_
                      first | (refine K.GL.want 97 rfl rfl rfl ?_; first | refine K.GL.det (K.e_ix sl29 rfl rfl rfl rfl (by omega) (by omega)) rfl ?_) | refine K.GL.skip 97 rfl rfl rfl rfl ?_ | refine K.GL.skipU 97 rfl rfl rfl rfl ?_
                      first | (refine K.GL.want 97 rfl rfl rfl ?_; first | refine K.GL.det (K.e_fa fo82_0 rfl) rfl ?_ | refine K.GL.det (K.e_fieldAddr fo82_0 rfl) rfl ?_) | refine K.GL.skip 97 rfl rfl rfl rfl ?_ | refine K.GL.skipU 97 rfl rfl rfl rfl ?_
                      first | (refine K.GL.want 97 rfl rfl rfl ?_; first | refine K.GL.det (K.e_ldE Tryz.isAgg2 rfl rfl (hq (by omega)) rfl) rfl ?_) | refine K.GL.skip 97 rfl rfl rfl rfl ?_ | refine K.GL.skipU 97 rfl rfl rfl rfl ?_
                      first | (refine K.GL.want 97 rfl rfl rfl ?_; first | refine K.GL.det ((K.e_ne rfl rfl).yes (by first | omega | assumption | decide +kernel)) rfl ?_ | refine K.GL.det ((K.e_ne rfl rfl).no (by first | omega | assumption | decide +kernel)) rfl ?_ | refine K.GL.det (K.e_ne rfl rfl) rfl ?_) | refine K.GL.skip 97 rfl rfl rfl rfl ?_ | refine K.GL.skipU 97 rfl rfl rfl rfl ?_
                      first | (refine K.GL.want 97 rfl rfl rfl ?_; first | refine K.GL.det (K.e_move rfl) rfl ?_) | refine K.GL.skip 97 rfl rfl rfl rfl ?_ | refine K.GL.skipU 97 rfl rfl rfl rfl ?_
                      first | refine K.GL.splitB 106 rfl (fun h17 => ?_) (fun h17 => ?_) | skip
                      all_goals first | exact absurd h17 (by decide) | replace h17 := of_decide_eq_true h17 | replace h17 := of_decide_eq_false h17 | skip
                      all_goals
                        first | (refine K.GL.want 106 rfl rfl rfl ?_; first | refine K.GL.det (K.e_fa fo31_2 rfl) rfl ?_ | refine K.GL.det (K.e_fieldAddr fo31_2 rfl) rfl ?_) | refine K.GL.skip 106 rfl rfl rfl rfl ?_ | refine K.GL.skipU 106 rfl rfl rfl rfl ?_
                        first | (refine K.GL.want 106 rfl rfl rfl ?_; first | refine K.GL.det (K.e_ldE Tryz.isAgg29 rfl rfl (by assumption) rfl) rfl ?_ | refine K.GL.det (K.e_ldF Tryz.isAgg29 rfl rfl (by assumption) rfl) rfl ?_ | refine K.GL.det (K.e_load Tryz.isAgg29 rfl rfl) rfl ?_ | refine K.GL.det (K.e_load0 Tryz.isAgg29 rfl (by assumption)) rfl ?_) | refine K.GL.skip 106 rfl rfl rfl rfl ?_ | refine K.GL.skipU 106 rfl rfl rfl rfl ?_
                        first | (refine K.GL.want 106 rfl rfl rfl ?_; first | refine K.GL.det (K.e_fa fo31_1 rfl) rfl ?_ | refine K.GL.det (K.e_fieldAddr fo31_1 rfl) rfl ?_) | refine K.GL.skip 106 rfl rfl rfl rfl ?_ | refine K.GL.skipU 106 rfl rfl rfl rfl ?_
                        first | (refine K.GL.want 106 rfl rfl rfl ?_; first | refine K.GL.det (K.e_ldE Tryz.isAgg3 rfl rfl (by assumption) rfl) rfl ?_ | refine K.GL.det (K.e_ldF Tryz.isAgg3 rfl rfl (by assumption) rfl) rfl ?_ | refine K.GL.det (K.e_load Tryz.isAgg3 rfl rfl) rfl ?_ | refine K.GL.det (K.e_load0 Tryz.isAgg3 rfl (by assumption)) rfl ?_) | refine K.GL.skip 106 rfl rfl rfl rfl ?_ | refine K.GL.skipU 106 rfl rfl rfl rfl ?_
                        first | (refine K.GL.want 106 rfl rfl rfl ?_; first | refine K.GL.det (K.e_ix sl29 rfl rfl rfl rfl (by omega) (by omega)) rfl ?_) | refine K.GL.skip 106 rfl rfl rfl rfl ?_ | refine K.GL.skipU 106 rfl rfl rfl rfl ?_
                        first | (refine K.GL.want 106 rfl rfl rfl ?_; first | refine K.GL.det (K.e_fa fo82_1 rfl) rfl ?_ | refine K.GL.det (K.e_fieldAddr fo82_1 rfl) rfl ?_) | refine K.GL.skip 106 rfl rfl rfl rfl ?_ | refine K.GL.skipU 106 rfl rfl rfl rfl ?_
                        first | (refine K.GL.want 106 rfl rfl rfl ?_; first | refine K.GL.det (K.e_ldF Tryz.isAgg3 rfl rfl (hq (by omega)) rfl) rfl ?_) | refine K.GL.skip 106 rfl rfl rfl rfl ?_ | refine K.GL.skipU 106 rfl rfl rfl rfl ?_
                        first | (refine K.GL.want 106 rfl rfl rfl ?_; first | refine K.GL.det ((K.e_eq rfl rfl).yes (by first | omega | assumption | decide +kernel)) rfl ?_ | refine K.GL.det ((K.e_eq rfl rfl).no (by first | omega | assumption | decide +kernel)) rfl ?_ | refine K.GL.det (K.e_eq rfl rfl) rfl ?_) | refine K.GL.skip 106 rfl rfl rfl rfl ?_ | refine K.GL.skipU 106 rfl rfl rfl rfl ?_
                        first | (refine K.GL.want 97 rfl rfl rfl ?_; first | refine K.GL.det (K.e_pick_t rfl rfl) rfl ?_ | refine K.GL.det (K.e_pick_f rfl rfl) rfl ?_) | refine K.GL.skip 97 rfl rfl rfl rfl ?_ | refine K.GL.skipU 97 rfl rfl rfl rfl ?_
                        first | refine K.GL.det (K.e_pick_t rfl rfl) rfl ?_ | refine K.GL.det (K.e_pick_f rfl rfl) rfl ?_
                        refine K.GL.det (K.e_assign rfl) rfl ?_
                        refine K.GL.nil ?_
                        refine K.GQ.go ?_
                        refine K.GC.ret ?_
                        refine K.GQ.ret1 Tryz.results32 rfl (fun w hT => ?_)
                        cases hR : rightB t with
                        | true =>
                          have hP := (right_iff t).1 hR
                          have := hP.g1; have := hP.g2; have := hP.n1; have := hP.n2; have := hP.o1; have := hP.o2
                          first
                          | exact ⟨rfl, hT.nil⟩
                          | (exfalso; omega)
                          | (exfalso; have := q45.ok_iff.1 (hP.ok _ (List.mem_of_getElem? hq45)); omega)
                          | (exfalso; have := dup_bad hP hq45 hqy (by omega) (by omega); omega)
                          | (obtain rfl : x = t.exts.length := by omega
                             have hop := right_opn ⟨by omega, by omega⟩ ⟨by omega, by omega⟩ ⟨by omega, by omega⟩ hI2 hI3
                             rw [hR] at hop
                             refine ⟨?_, hT.nil⟩
                             simp only [Ending.returned.injEq, Value.bool.injEq]
                             rcases Classical.em (t.opn < 0) with hn | hn
                             · rw [opn_neg hn] at hop; first | rfl | (cases hop; done) | (simp_all; done)
                             · rw [opn_at hn (hq (by omega))] at hop; have hop2 := hop.symm; simp only [Ext.used, Bool.and_eq_true, Bool.and_eq_false_iff, decide_eq_true_eq, decide_eq_false_iff_not] at hop2; first | (exfalso; omega) | exact decide_eq_true (by omega) | exact decide_eq_false (by omega))
                        | false =>
                          first
                          | exact ⟨rfl, hT.nil⟩
                          | (obtain rfl : x = t.exts.length := by omega
                             have hop := right_opn ⟨by omega, by omega⟩ ⟨by omega, by omega⟩ ⟨by omega, by omega⟩ hI2 hI3
                             rw [hR] at hop
                             refine ⟨?_, hT.nil⟩
                             simp only [Ending.returned.injEq, Value.bool.injEq]
                             rcases Classical.em (t.opn < 0) with hn | hn
                             · rw [opn_neg hn] at hop; first | rfl | (cases hop; done) | (simp_all; done)
                             · rw [opn_at hn (hq (by omega))] at hop; have hop2 := hop.symm; simp only [Ext.used, Bool.and_eq_true, Bool.and_eq_false_iff, decide_eq_true_eq, decide_eq_false_iff_not] at hop2; first | (exfalso; omega) | exact decide_eq_true (by omega) | exact decide_eq_false (by omega))
section
variable {ops : Array Oper} {Q : Exit → Act → World → Prop} {N : Nat} {U : Env} {w0 : World} {L0 L F : List Res} {ty : TypeId} {rest : List Oper} {pos : String} {after : Array Edge} {xs : List Operand} {tys : Array TypeId} {dT : Tmp}
theorem ev_rright_con {t : Tab} {a : Option Addr} {c : Nat} (hf : ∀ args w, (callFunc 32 args).run Tryz.prog w = .ok (.enter 32 args) w) (hx : opvs U xs = some [.agg (tabC t a c).toArray]) (hl : t.exts.length ≤ 9223372036854775807) [o0 : RdC w0 L0 [] L a (encX) (t.exts)] : Ev Tryz.prog U w0 L0 L (.call ⟨.value (.func 32), xs.toArray, tys⟩) ty (Is (.bool (rightB t))) No :=
  K.e_call1 hf hx (fun w hT => by have _o0 := o0.out w hT; exact rright_con hl)
end
end Go.Proofs.YtdbedajaapamhaaGreat
