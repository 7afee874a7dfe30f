/- What the functions of the document's device give: reads, writes, cuts. -/
import Derived.Test.YtdbedajaapamhaaGreatSuR
namespace Go.Proofs.YtdbedajaapamhaaGreat
open Go Go.K
set_option linter.unusedVariables false
set_option linter.unusedSimpArgs false
attribute [local irreducible] Calls Ev GL GC GQ GR Code.wp
theorem rw_end {g : RG} {r : Nat} {k : Nat} {bs : Bytes} (hb : bs.length = 64) (hk : g.Ok) (hkn : k < g.s.kept.length) (ha : g.s.able = true) :
    ∃ x : RG, x.Ok ∧ x.s = (g.s.write (k : Int) bs).1 ∧ RefR r x = all [cl r 63 g.thing.cells, cl g.kb 9 (ksv g.s.thing.kept), cl g.wb 9 (wsv (g.W.set k bs)), cl g.lb 4 (lov (g.s.write (k : Int) bs).1)] := by
  have ht := RG.thing_ok hk
  have e := DS.write_y (s := g.s) (i := k) (y := ⟨bs, hb⟩) hkn ha
  dsimp only at e
  have et := DS.thing_y ha
  refine ⟨{ g.thing with s := (g.s.write (k : Int) bs).1, W := g.W.set k bs }, ⟨?_, ?_, ?_, ?_, ?_, ?_⟩, rfl, ?_⟩
  · rw [e]; simp only [List.length_set]; exact hk.wl
  · intro i y hy
    simp only [e] at hy ⊢
    by_cases hi : i = k
    · subst hi
      rw [if_pos rfl] at hy
      cases hy
      exact ⟨hkn, by rw [List.getElem?_set_self (by rw [hk.wl]; exact hkn)]⟩
    · rw [if_neg hi] at hy
      have := hk.w i y hy
      exact ⟨this.1, by rw [List.getElem?_set_ne (by omega)]; exact this.2⟩
  · rw [e]; exact hk.n1
  · rw [e]; exact hk.n2
  · rw [e]; have := ht.cut; rw [show g.thing.s = g.s.did from et] at this; exact this
  · rw [e]; have := ht.to; rw [show g.thing.s = g.s.did from et] at this; exact this
  · unfold RefR RG.L RG.cells
    have e3 : g.thing.s = g.s.did := et
    simp only [e, e3]
    rw [et]
    rfl
theorem rcut_y {s : DS} {i : Int} (h : 0 ≤ i) : s.setCut i = { s with cut := i } := by unfold DS.setCut; rw [if_pos h]
theorem rcut_n {s : DS} {i : Int} (h : ¬ 0 ≤ i) : s.setCut i = s := by unfold DS.setCut; rw [if_neg h]
theorem rcut_ok {g : RG} {i : Int} (hk : g.Ok) (hi : I64 i) (h : 0 ≤ i) : RG.Ok { g with s := g.s.setCut i, to := i } := by
  rw [rcut_y h]
  exact ⟨hk.wl, hk.w, hk.n1, hk.n2, hi, fun _ => rfl⟩
theorem rcut_R {g : RG} {i : Int} (r : Nat) (h : 0 ≤ i) : RefR r { g with s := g.s.setCut i, to := i } = all [cl r 63 [.slice (some ⟨g.kb, 0, none⟩) g.s.kept.length g.s.kept.length, .slice (some ⟨g.wb, 0, none⟩) g.s.kept.length g.s.kept.length, .slice (some ⟨g.lb, 0, none⟩) g.s.kept.length g.s.kept.length, .bool g.s.down, .int .i64 g.s.done, .int .i64 i, .bool true], cl g.kb 9 (ksv g.s.kept), cl g.wb 9 (wsv g.W), cl g.lb 4 (lov g.s)] := by
  rw [rcut_y h]
  unfold RefR RG.L RG.cells
  simp only [decide_eq_true h]
  rfl

theorem fo63_1 : K.fieldOff Tryz.prog 63 1 = some (61, 1, 1) := by kernel_rfl
theorem fo63_2 : K.fieldOff Tryz.prog 63 2 = some (33, 2, 1) := by kernel_rfl
theorem sl61 : K.slOf Tryz.prog 61 = some (9, 1) := by kernel_rfl
/- (*turntable/turntableref07.Dev).Read -/
set_option maxHeartbeats 1000000 in
set_option maxRecDepth 100000 in
theorem rread_con {r : Nat} {g : RG} (hk : g.Ok) (i : Int) {w : World} (ho : (RefR r g).ok w.heap) :
    Calls Tryz.prog 43 #[.pointer (some ⟨r, 0, none⟩), .int .i64 i] w fun e w' => ∃ a c, (g.s.read i).1.length ≤ c ∧ e = .returned (.tuple #[.slice a (g.s.read i).1.length c, .int .i64 (g.s.read i).2]) ∧ Tr w [] w' [rdr a (bv (g.s.read i).1)] := by
  have hwl := hk.wl
  refine K.enter (args := [_, _]) Tryz.func43 rfl Tryz.ntmps43 rfl (Disj.one _) (by intro x hx; simp only [List.mem_singleton] at hx; subst hx; exact ho) ?_
  refine K.GC.seq ?_
  refine K.GC.region ?_
  refine K.GL.det (K.e_assign rfl) rfl ?_
  refine K.GL.det (K.e_assign rfl) rfl ?_
  refine K.GL.nil ?_
  refine K.GQ.go ?_
  refine K.GC.seq ?_
  refine K.GC.seq ?_
  refine K.GC.region ?_
  refine K.GL.det (K.e_move rfl) rfl ?_
  refine K.GL.det (K.e_move rfl) rfl ?_
  refine K.GL.det (K.e_call1 Tryz.call39 rfl (fun w hT => ris_con _ (hT.ok _ PickR.mem))) rfl ?_
  first | refine K.GL.det (K.e_notp rfl) rfl ?_ | refine K.GL.det (K.e_not rfl) rfl ?_
  refine K.GL.nil ?_
  refine K.GQ.go ?_
  refine K.GC.condB rfl (fun h1 => ?_) (fun h1 => ?_)
  · first
    | exact absurd h1 (by decide)
    | try replace h1 := of_decide_eq_true h1
      refine K.GC.seq ?_
      refine K.GC.region ?_
      refine K.GL.det (K.e_assign rfl) rfl ?_
      refine K.GL.det (K.e_assign rfl) rfl ?_
      refine K.GL.nil ?_
      refine K.GQ.go ?_
      refine K.GC.ret ?_
      refine K.GQ.then_ret ?_
      refine K.GQ.ret_tt Tryz.results43 rfl rfl (fun w hT => ?_)
      first
        | (rw [DS.read_bad (by show ¬ (0 ≤ i ∧ i < (g.s.kept.length : Int)); omega)]; exact ⟨none, 0, Nat.le_refl 0, rfl, (hT.calmed ho (RefR.precise r g)).rdr_nil⟩)
        | (rw [DS.read_down (by show (0 ≤ i ∧ i < (g.s.kept.length : Int)); omega) (by assumption)]; exact ⟨none, 0, Nat.le_refl 0, rfl, (hT.one.calmed ho (RefR.precise r g)).rdr_nil⟩)
        | (rw [DS.read_ok (s := g.s) (i := (k : Int)) (y := y) (by show (0 ≤ (k : Int) ∧ (k : Int) < (g.s.kept.length : Int)); omega) (by assumption) (by unfold DS.at; simp only [Int.toNat_natCast, hy])]
           exact ⟨_, _, (show y.1.length ≤ c28 from hc28), by rw [y.2], rrd_end ho hT⟩)
        | (rw [DS.read_ok (s := g.s) (i := (k : Int)) (y := z) (by show (0 ≤ (k : Int) ∧ (k : Int) < (g.s.kept.length : Int)); omega) (by assumption) (by unfold DS.at; simp only [Int.toNat_natCast, hno]; exact hz)]
           exact ⟨_, _, (show z.1.length ≤ c36 from hc36), by rw [z.2], rrd_end ho hT⟩)
  · first
    | exact absurd h1 (by decide)
    | try replace h1 := of_decide_eq_false h1
      refine K.GC.skip ?_
      refine K.GQ.go ?_
      refine K.GC.seq ?_
      refine K.GC.seq ?_
      refine K.GC.opened1 ?_
      refine K.GC.region ?_
      refine K.GL.det (K.e_move rfl) rfl ?_
      refine K.GL.det (K.e_nilCheck rfl) rfl ?_
      refine K.GL.det (K.e_fieldAddr fo63_3 rfl) rfl ?_
      first | refine K.GL.det (K.e_load Tryz.isAgg4 rfl rfl) rfl ?_ | refine K.GL.det (K.e_load0 Tryz.isAgg4 rfl (by assumption)) rfl ?_
      refine K.GL.nil ?_
      refine K.GQ.go ?_
      refine K.GC.condB rfl (fun h2 => ?_) (fun h2 => ?_)
      · first
        | exact absurd h2 (by decide)
        | try replace h2 := of_decide_eq_true h2
          refine K.GC.seq ?_
          refine K.GC.region ?_
          refine K.GL.det (K.e_assign rfl) rfl ?_
          refine K.GL.det (K.e_assign rfl) rfl ?_
          refine K.GL.nil ?_
          refine K.GQ.go ?_
          refine K.GC.ret ?_
          refine K.GQ.then_ret ?_
          refine K.GQ.ret_tt Tryz.results43 rfl rfl (fun w hT => ?_)
          first
            | (rw [DS.read_bad (by show ¬ (0 ≤ i ∧ i < (g.s.kept.length : Int)); omega)]; exact ⟨none, 0, Nat.le_refl 0, rfl, (hT.calmed ho (RefR.precise r g)).rdr_nil⟩)
            | (rw [DS.read_down (by show (0 ≤ i ∧ i < (g.s.kept.length : Int)); omega) (by assumption)]; exact ⟨none, 0, Nat.le_refl 0, rfl, (hT.one.calmed ho (RefR.precise r g)).rdr_nil⟩)
            | (rw [DS.read_ok (s := g.s) (i := (k : Int)) (y := y) (by show (0 ≤ (k : Int) ∧ (k : Int) < (g.s.kept.length : Int)); omega) (by assumption) (by unfold DS.at; simp only [Int.toNat_natCast, hy])]
               exact ⟨_, _, (show y.1.length ≤ c28 from hc28), by rw [y.2], rrd_end ho hT⟩)
            | (rw [DS.read_ok (s := g.s) (i := (k : Int)) (y := z) (by show (0 ≤ (k : Int) ∧ (k : Int) < (g.s.kept.length : Int)); omega) (by assumption) (by unfold DS.at; simp only [Int.toNat_natCast, hno]; exact hz)]
               exact ⟨_, _, (show z.1.length ≤ c36 from hc36), by rw [z.2], rrd_end ho hT⟩)
      · first
        | exact absurd h2 (by decide)
        | try replace h2 := of_decide_eq_false h2
          refine K.GC.skip ?_
          refine K.GQ.go ?_
          refine K.GC.seq ?_
          refine K.GC.seq ?_
          obtain ⟨k, rfl⟩ := Int.eq_ofNat_of_zero_le (show 0 ≤ i by omega)
          have hkn : k < g.s.kept.length := by omega
          refine K.GC.region ?_
          refine K.GL.det (K.e_move rfl) rfl ?_
          refine K.GL.det (K.e_nilCheck rfl) rfl ?_
          refine K.GL.det (K.e_fieldAddr fo63_2 rfl) rfl ?_
          first | refine K.GL.det (K.e_load Tryz.isAgg33 rfl rfl) rfl ?_ | refine K.GL.det (K.e_load0 Tryz.isAgg33 rfl (by assumption)) rfl ?_
          refine K.GL.det (K.e_move rfl) rfl ?_
          refine K.GL.det (K.e_indexAddr sl33 rfl rfl (by omega) (by omega)) rfl ?_
          refine K.GL.det (K.e_load Tryz.isAgg4 rfl (lov_get hkn (by omega))) rfl ?_
          refine K.GL.nil ?_
          refine K.GQ.go ?_
          refine K.GC.condB rfl (fun h3 => ?_) (fun h3 => ?_)
          · first
            | exact absurd h3 (by decide)
            | try replace h3 := of_decide_eq_true h3
              refine K.GC.seq ?_
              obtain ⟨y, hy⟩ := Option.isSome_iff_exists.1 (show (g.s.loose k).isSome = true by assumption)
              refine K.GC.region ?_
              refine K.GL.det (K.e_move rfl) rfl ?_
              refine K.GL.det (K.e_nilCheck rfl) rfl ?_
              refine K.GL.det (K.e_fieldAddr fo63_1 rfl) rfl ?_
              first | refine K.GL.det (K.e_load Tryz.isAgg61 rfl rfl) rfl ?_ | refine K.GL.det (K.e_load0 Tryz.isAgg61 rfl (by assumption)) rfl ?_
              refine K.GL.det (K.e_move rfl) rfl ?_
              refine K.GL.det (K.e_indexAddr sl61 rfl rfl (by omega) (by omega)) rfl ?_
              refine K.GL.det (K.e_load Tryz.isAgg9 rfl (wsv_get (hk.w k y hy).2 (by omega))) rfl ?_
              refine K.GL.s2bc Tryz.underlying9 Tryz.underlying32 Tryz.underlying5 rfl rfl (fun b28 c28 junk hc28 => ?_)
              refine K.GL.det (K.e_assign rfl) rfl ?_
              refine K.GL.det (K.e_assign rfl) rfl ?_
              refine K.GL.nil ?_
              refine K.GQ.go ?_
              refine K.GC.ret ?_
              refine K.GQ.then_ret ?_
              refine K.GQ.ret_tt Tryz.results43 rfl rfl (fun w hT => ?_)
              first
                | (rw [DS.read_bad (by show ¬ (0 ≤ i ∧ i < (g.s.kept.length : Int)); omega)]; exact ⟨none, 0, Nat.le_refl 0, rfl, (hT.calmed ho (RefR.precise r g)).rdr_nil⟩)
                | (rw [DS.read_down (by show (0 ≤ i ∧ i < (g.s.kept.length : Int)); omega) (by assumption)]; exact ⟨none, 0, Nat.le_refl 0, rfl, (hT.one.calmed ho (RefR.precise r g)).rdr_nil⟩)
                | (rw [DS.read_ok (s := g.s) (i := (k : Int)) (y := y) (by show (0 ≤ (k : Int) ∧ (k : Int) < (g.s.kept.length : Int)); omega) (by assumption) (by unfold DS.at; simp only [Int.toNat_natCast, hy])]
                   exact ⟨_, _, (show y.1.length ≤ c28 from hc28), by rw [y.2], rrd_end ho hT⟩)
                | (rw [DS.read_ok (s := g.s) (i := (k : Int)) (y := z) (by show (0 ≤ (k : Int) ∧ (k : Int) < (g.s.kept.length : Int)); omega) (by assumption) (by unfold DS.at; simp only [Int.toNat_natCast, hno]; exact hz)]
                   exact ⟨_, _, (show z.1.length ≤ c36 from hc36), by rw [z.2], rrd_end ho hT⟩)
          · first
            | exact absurd h3 (by decide)
            | try replace h3 := of_decide_eq_false h3
              refine K.GC.skip ?_
              refine K.GQ.go ?_
              refine K.GC.seq ?_
              obtain ⟨z, hz⟩ : ∃ z, g.s.kept[k]? = some z := get_ex hkn
              have hno : g.s.loose k = none := by have : (g.s.loose k).isSome = false := by assumption
                                                  simpa using this
              refine K.GC.region ?_
              refine K.GL.det (K.e_move rfl) rfl ?_
              refine K.GL.det (K.e_nilCheck rfl) rfl ?_
              refine K.GL.det (K.e_fieldAddr fo63_0 rfl) rfl ?_
              first | refine K.GL.det (K.e_load Tryz.isAgg61 rfl rfl) rfl ?_ | refine K.GL.det (K.e_load0 Tryz.isAgg61 rfl (by assumption)) rfl ?_
              refine K.GL.det (K.e_move rfl) rfl ?_
              refine K.GL.det (K.e_indexAddr sl61 rfl rfl (by omega) (by omega)) rfl ?_
              refine K.GL.det (K.e_load Tryz.isAgg9 rfl (ksv_get hz (by omega))) rfl ?_
              refine K.GL.s2bc Tryz.underlying9 Tryz.underlying32 Tryz.underlying5 rfl rfl (fun b36 c36 junk hc36 => ?_)
              refine K.GL.det (K.e_assign rfl) rfl ?_
              refine K.GL.det (K.e_assign rfl) rfl ?_
              refine K.GL.nil ?_
              refine K.GQ.go ?_
              refine K.GC.ret ?_
              refine K.GQ.ret_tt Tryz.results43 rfl rfl (fun w hT => ?_)
              first
                | (rw [DS.read_bad (by show ¬ (0 ≤ i ∧ i < (g.s.kept.length : Int)); omega)]; exact ⟨none, 0, Nat.le_refl 0, rfl, (hT.calmed ho (RefR.precise r g)).rdr_nil⟩)
                | (rw [DS.read_down (by show (0 ≤ i ∧ i < (g.s.kept.length : Int)); omega) (by assumption)]; exact ⟨none, 0, Nat.le_refl 0, rfl, (hT.one.calmed ho (RefR.precise r g)).rdr_nil⟩)
                | (rw [DS.read_ok (s := g.s) (i := (k : Int)) (y := y) (by show (0 ≤ (k : Int) ∧ (k : Int) < (g.s.kept.length : Int)); omega) (by assumption) (by unfold DS.at; simp only [Int.toNat_natCast, hy])]
                   exact ⟨_, _, (show y.1.length ≤ c28 from hc28), by rw [y.2], rrd_end ho hT⟩)
                | (rw [DS.read_ok (s := g.s) (i := (k : Int)) (y := z) (by show (0 ≤ (k : Int) ∧ (k : Int) < (g.s.kept.length : Int)); omega) (by assumption) (by unfold DS.at; simp only [Int.toNat_natCast, hno]; exact hz)]
                   exact ⟨_, _, (show z.1.length ≤ c36 from hc36), by rw [z.2], rrd_end ho hT⟩)
/- (*turntable/turntableref07.Dev).Write -/
set_option maxHeartbeats 1000000 in
set_option maxRecDepth 100000 in
theorem rwrite_con {r : Nat} {g : RG} (hk : g.Ok) (i : Int) {a : Option Addr} {n c : Nat} {bs : Bytes} {w : World} (ho : (RefR r g).ok w.heap) (hS : Sl w 1 a n (bv bs)) (hfp : 0 < n → ¬ (RefR r g).fp (bk a)) :
    Calls Tryz.prog 15 #[.pointer (some ⟨r, 0, none⟩), .int .i64 i, .slice a n c] w fun e w' => ∃ x : RG, e = .returned (.int .i64 (g.s.write i bs).2) ∧ x.Ok ∧ x.s = (g.s.write i bs).1 ∧ Tr w [RefR r g] w' [RefR r x] := by
  have hbl : bs.length = n := by have := hS.len; rw [bv_length] at this; omega
  have hwl := hk.wl
  refine K.enter (args := [_, _, _]) Tryz.func15 rfl Tryz.ntmps15 rfl (Disj.one _) (by intro x hx; simp only [List.mem_singleton] at hx; subst hx; exact ho) ?_
  refine K.GC.seq ?_
  refine K.GC.region ?_
  refine K.GL.det (K.e_assign rfl) rfl ?_
  refine K.GL.nil ?_
  refine K.GQ.go ?_
  refine K.GC.seq ?_
  refine K.GC.seq ?_
  refine K.GC.region ?_
  refine K.GL.det (K.e_move rfl) rfl ?_
  refine K.GL.det (K.e_move rfl) rfl ?_
  refine K.GL.det (K.e_call1 Tryz.call39 rfl (fun w hT => ris_con _ (hT.ok _ PickR.mem))) rfl ?_
  first | refine K.GL.det (K.e_notp rfl) rfl ?_ | refine K.GL.det (K.e_not rfl) rfl ?_
  refine K.GL.det (K.e_move rfl) rfl ?_
  first | refine K.GL.splitB 12 rfl (fun h1 => ?_) (fun h1 => ?_) | skip
  all_goals first | exact absurd h1 (by decide) | replace h1 := of_decide_eq_true h1 | replace h1 := of_decide_eq_false h1 | skip
  all_goals
    first | (refine K.GL.want 12 rfl rfl rfl ?_; first | refine K.GL.det (K.e_move rfl) rfl ?_) | refine K.GL.skip 12 rfl rfl rfl rfl ?_ | refine K.GL.skipU 12 rfl rfl rfl rfl ?_
    first | (refine K.GL.want 12 rfl rfl rfl ?_; first | refine K.GL.det (K.e_len Tryz.underlying32 rfl) rfl ?_) | refine K.GL.skip 12 rfl rfl rfl rfl ?_ | refine K.GL.skipU 12 rfl rfl rfl rfl ?_
    first | (refine K.GL.want 12 rfl rfl rfl ?_; first | refine K.GL.det ((K.e_ne rfl rfl).yes (by first | omega | assumption | decide +kernel)) rfl ?_ | refine K.GL.det ((K.e_ne rfl rfl).no (by first | omega | assumption | decide +kernel)) rfl ?_ | refine K.GL.det (K.e_ne rfl rfl) rfl ?_) | refine K.GL.skip 12 rfl rfl rfl rfl ?_ | refine K.GL.skipU 12 rfl rfl rfl rfl ?_
    first | refine K.GL.det (K.e_pick_t rfl rfl) rfl ?_ | refine K.GL.det (K.e_pick_f rfl rfl) rfl ?_
    refine K.GL.nil ?_
    refine K.GQ.go ?_
    refine K.GC.condB rfl (fun h2 => ?_) (fun h2 => ?_)
    · first
      | exact absurd h2 (by decide)
      | try replace h2 := of_decide_eq_true h2
        refine K.GC.seq ?_
        refine K.GC.region ?_
        refine K.GL.det (K.e_assign rfl) rfl ?_
        refine K.GL.nil ?_
        refine K.GQ.go ?_
        refine K.GC.ret ?_
        refine K.GQ.then_ret ?_
        refine K.GQ.ret1 Tryz.results15 rfl (fun w hT => ?_)
        first
          | (rw [DS.write_bad (by show ¬ ((0 ≤ i ∧ i < (g.s.kept.length : Int)) ∧ bs.length = 64); rw [hbl]; omega)]; exact ⟨g, rfl, hk, rfl, hT⟩)
          | (rw [DS.write_down (by show ((0 ≤ i ∧ i < (g.s.kept.length : Int)) ∧ bs.length = 64); rw [hbl]; omega) (errE_no (by assumption))]; exact ⟨g.thing, by rw [errE_no (b := g.s.able) (by assumption)]; rfl, RG.thing_ok hk, rfl, hT⟩)
          | (obtain ⟨x, hx1, hx2, hx3⟩ := rw_end (r := r) (bs := bs) (hbl.trans hn64) hk hkn hab
             have he0 : (g.s.write (k : Int) bs).2 = 0 := by rw [DS.write_ok (s := g.s) (i := (k : Int)) (bs := bs) (by show ((0 ≤ (k : Int) ∧ (k : Int) < (g.s.kept.length : Int)) ∧ bs.length = 64); rw [hbl]; omega) hab]
             exact ⟨x, by rw [he0, hab]; rfl, hx1, hx2, by rw [hx3]; exact hT.one⟩)
    · first
      | exact absurd h2 (by decide)
      | try replace h2 := of_decide_eq_false h2
        refine K.GC.skip ?_
        refine K.GQ.go ?_
        refine K.GC.seq ?_
        refine K.GC.region ?_
        refine K.GL.det (K.e_move rfl) rfl ?_
        refine gl_rthing Tryz.call40 rfl (by assumption) rfl ?_
        refine K.GL.det (K.e_assign rfl) rfl ?_
        refine K.GL.nil ?_
        refine K.GQ.go ?_
        refine K.GC.seq ?_
        refine K.GC.seq ?_
        refine K.GC.region ?_
        refine K.GL.det (K.e_move rfl) rfl ?_
        first | refine K.GL.det ((K.e_eq rfl rfl).yes (by first | omega | assumption | decide +kernel)) rfl ?_ | refine K.GL.det ((K.e_eq rfl rfl).no (by first | omega | assumption | decide +kernel)) rfl ?_ | refine K.GL.det (K.e_eq rfl rfl) rfl ?_
        refine K.GL.nil ?_
        refine K.GQ.go ?_
        refine K.GC.condB rfl (fun h3 => ?_) (fun h3 => ?_)
        · first
          | exact absurd h3 (by decide)
          | try replace h3 := of_decide_eq_true h3
            refine K.GC.seq ?_
            obtain ⟨k, rfl⟩ := Int.eq_ofNat_of_zero_le (show 0 ≤ i by omega)
            refine K.GC.opened1 ?_
            have hn64 : n = 64 := by omega
            have hkn : k < g.s.kept.length := by omega
            have hab : g.s.able = true := errE_yes (fun hne => hne (by assumption))
            have hfp2 : ∀ x ∈ [RefR r g], ¬ x.fp (bk a) := by intro x hx; simp only [List.mem_singleton] at hx; subst hx; exact hfp (by omega)
            have htl : g.thing.s.kept.length = g.s.kept.length := by show g.s.thing.kept.length = _; rw [DS.thing_kept]
            have hwy := DS.write_y (s := g.s) (i := k) (y := ⟨bs, hbl.trans hn64⟩) hkn hab
            dsimp only at hwy
            refine K.GC.drawn 8 [[], [0], [0, 1], [0, 1, 2], [], [], [5], [0, 1, 2, 3, 4, 5, 6], [0, 1, 2, 3, 4, 5, 6, 7]] [[], [0], [1], [2], [], [], [5], [3, 4]] [0, 1, 2, 6, 7, 29, 30, 31, 32, 33, 34, 35] (by kernel_rfl) (by kernel_rfl) rfl ?_
            refine K.DW.det rfl (fun vs => K.e_move rfl) ?_
            refine K.DW.det rfl (fun vs => K.e_nilCheck rfl) ?_
            refine K.DW.det rfl (fun vs => K.e_fieldAddr fo63_1 rfl) ?_
            first | refine K.DW.det rfl (fun vs => K.e_load Tryz.isAgg61 rfl rfl) ?_ | refine K.DW.det rfl (fun vs => K.e_load0 Tryz.isAgg61 rfl (by assumption)) ?_
            refine K.DW.det rfl (fun vs => K.e_move rfl) ?_
            refine K.DW.det rfl (fun vs => K.e_move rfl) ?_
            refine K.DW.det rfl (fun vs => K.e_b2sw Tryz.underlying32 Tryz.underlying5 Tryz.underlying9 rfl (l := bs) (fun w hT => hS.stay hT hfp2)) ?_
            refine K.DW.det rfl (fun vs => K.e_indexAddr sl61 rfl rfl (by omega) (by omega)) ?_
            refine K.DW.fin0 rfl (fun vs => ?_)
            refine K.GL.keep [0, 1, 6, 7, 27, 28, 29, 30, 31, 32, 33, 34, 35] rfl ?_
            clear vs
            refine K.GL.storeP (cs' := wsv (g.W.set k bs)) rfl rfl rfl Tryz.sizeOf9 rfl rfl (set_map K.str (by show k < g.W.length; omega) (by omega)) ?_
            refine K.GL.nil ?_
            refine K.GQ.go ?_
            refine K.GC.region ?_
            refine K.GL.det (K.e_move rfl) rfl ?_
            refine K.GL.det (K.e_nilCheck rfl) rfl ?_
            refine K.GL.det (K.e_fieldAddr fo63_2 rfl) rfl ?_
            first | refine K.GL.det (K.e_load Tryz.isAgg33 rfl rfl) rfl ?_ | refine K.GL.det (K.e_load0 Tryz.isAgg33 rfl (by assumption)) rfl ?_
            refine K.GL.det (K.e_move rfl) rfl ?_
            refine K.GL.det (K.e_indexAddr sl33 rfl rfl (by omega) (by omega)) rfl ?_
            refine K.GL.storeP (cs' := lov (g.s.write (k : Int) bs).1) rfl rfl rfl Tryz.sizeOf4 rfl rfl (lov_set (s := g.thing.s) (i := k) (by omega) (by omega) (by rw [hwy]; exact htl.symm) (fun j => by rw [hwy, show g.thing.s.loose = g.s.loose from DS.thing_loose _]; simp only; by_cases hj : j = k <;> simp [hj])) ?_
            refine K.GL.nil ?_
            refine K.GQ.go ?_
            refine K.GC.seq ?_
            refine K.GC.region ?_
            refine K.GL.det (K.e_move rfl) rfl ?_
            refine K.GL.det (K.e_assign rfl) rfl ?_
            refine K.GL.nil ?_
            refine K.GQ.go ?_
            refine K.GC.ret ?_
            refine K.GQ.ret1 Tryz.results15 rfl (fun w hT => ?_)
            first
              | (rw [DS.write_bad (by show ¬ ((0 ≤ i ∧ i < (g.s.kept.length : Int)) ∧ bs.length = 64); rw [hbl]; omega)]; exact ⟨g, rfl, hk, rfl, hT⟩)
              | (rw [DS.write_down (by show ((0 ≤ i ∧ i < (g.s.kept.length : Int)) ∧ bs.length = 64); rw [hbl]; omega) (errE_no (by assumption))]; exact ⟨g.thing, by rw [errE_no (b := g.s.able) (by assumption)]; rfl, RG.thing_ok hk, rfl, hT⟩)
              | (obtain ⟨x, hx1, hx2, hx3⟩ := rw_end (r := r) (bs := bs) (hbl.trans hn64) hk hkn hab
                 have he0 : (g.s.write (k : Int) bs).2 = 0 := by rw [DS.write_ok (s := g.s) (i := (k : Int)) (bs := bs) (by show ((0 ≤ (k : Int) ∧ (k : Int) < (g.s.kept.length : Int)) ∧ bs.length = 64); rw [hbl]; omega) hab]
                 exact ⟨x, by rw [he0, hab]; rfl, hx1, hx2, by rw [hx3]; exact hT.one⟩)
        · first
          | exact absurd h3 (by decide)
          | try replace h3 := of_decide_eq_false h3
            refine K.GC.skip ?_
            refine K.GQ.go ?_
            refine K.GC.seq ?_
            refine K.GC.region ?_
            refine K.GL.det (K.e_move rfl) rfl ?_
            refine K.GL.det (K.e_assign rfl) rfl ?_
            refine K.GL.nil ?_
            refine K.GQ.go ?_
            refine K.GC.ret ?_
            refine K.GQ.ret1 Tryz.results15 rfl (fun w hT => ?_)
            first
              | (rw [DS.write_bad (by show ¬ ((0 ≤ i ∧ i < (g.s.kept.length : Int)) ∧ bs.length = 64); rw [hbl]; omega)]; exact ⟨g, rfl, hk, rfl, hT⟩)
              | (rw [DS.write_down (by show ((0 ≤ i ∧ i < (g.s.kept.length : Int)) ∧ bs.length = 64); rw [hbl]; omega) (errE_no (by assumption))]; exact ⟨g.thing, by rw [errE_no (b := g.s.able) (by assumption)]; rfl, RG.thing_ok hk, rfl, hT⟩)
              | (obtain ⟨x, hx1, hx2, hx3⟩ := rw_end (r := r) (bs := bs) (hbl.trans hn64) hk hkn hab
                 have he0 : (g.s.write (k : Int) bs).2 = 0 := by rw [DS.write_ok (s := g.s) (i := (k : Int)) (bs := bs) (by show ((0 ≤ (k : Int) ∧ (k : Int) < (g.s.kept.length : Int)) ∧ bs.length = 64); rw [hbl]; omega) hab]
                 exact ⟨x, by rw [he0, hab]; rfl, hx1, hx2, by rw [hx3]; exact hT.one⟩)
/- (*turntable/turntableref07.Dev).Cut -/
set_option maxHeartbeats 1000000 in
set_option maxRecDepth 100000 in
theorem rcut_con {r : Nat} {g : RG} (hk : g.Ok) (i : Int) (hi : I64 i) {w : World} (ho : (RefR r g).ok w.heap) :
    Calls Tryz.prog 11 #[.pointer (some ⟨r, 0, none⟩), .int .i64 i] w fun e w' => ∃ v x, e = .returned v ∧ x.Ok ∧ x.s = g.s.setCut i ∧ Tr w [RefR r g] w' [RefR r x] := by
  refine K.enter (args := [_, _]) Tryz.func11 rfl Tryz.ntmps11 rfl (Disj.one _) (by intro r hr; simp only [List.mem_singleton] at hr; subst hr; exact ho) ?_
  refine K.GC.opened1 ?_
  refine K.GC.seq ?_
  refine K.GC.region ?_
  refine K.GL.det (K.e_move rfl) rfl ?_
  first | refine K.GL.det ((K.e_ge rfl rfl).yes (by first | omega | assumption | decide +kernel)) rfl ?_ | refine K.GL.det ((K.e_ge rfl rfl).no (by first | omega | assumption | decide +kernel)) rfl ?_ | refine K.GL.det (K.e_ge rfl rfl) rfl ?_
  refine K.GL.nil ?_
  refine K.GQ.go ?_
  refine K.GC.condB rfl (fun h1 => ?_) (fun h1 => ?_)
  · first
    | exact absurd h1 (by decide)
    | try replace h1 := of_decide_eq_true h1
      refine K.GC.seq ?_
      refine K.GC.region ?_
      refine K.GL.det (K.e_move rfl) rfl ?_
      refine K.GL.det (K.e_move rfl) rfl ?_
      refine K.GL.det (K.e_nilCheck rfl) rfl ?_
      refine K.GL.det (K.e_fieldAddr fo63_5 rfl) rfl ?_
      refine K.GL.store rfl rfl rfl Tryz.sizeOf3 rfl rfl ?_
      refine K.GL.nil ?_
      refine K.GQ.go ?_
      refine K.GC.region ?_
      refine K.GL.det (K.e_move rfl) rfl ?_
      refine K.GL.det (K.e_nilCheck rfl) rfl ?_
      refine K.GL.det (K.e_fieldAddr fo63_6 rfl) rfl ?_
      refine K.GL.store rfl rfl rfl Tryz.sizeOf4 rfl rfl ?_
      refine K.GL.nil ?_
      refine K.GQ.end_ret ?_
      refine K.GQ.ret0 Tryz.results11 (fun w hT => ?_)
      first
        | exact ⟨_, { g with s := g.s.setCut i, to := i }, rfl, rcut_ok hk hi (by omega), rfl, by rw [rcut_R r (by omega)]; exact hT.one⟩
        | exact ⟨_, g, rfl, hk, (rcut_n (by omega)).symm, hT.one⟩
  · first
    | exact absurd h1 (by decide)
    | try replace h1 := of_decide_eq_false h1
      refine K.GC.skip ?_
      refine K.GQ.end_ret ?_
      refine K.GQ.ret0 Tryz.results11 (fun w hT => ?_)
      first
        | exact ⟨_, { g with s := g.s.setCut i, to := i }, rfl, rcut_ok hk hi (by omega), rfl, by rw [rcut_R r (by omega)]; exact hT.one⟩
        | exact ⟨_, g, rfl, hk, (rcut_n (by omega)).symm, hT.one⟩
end Go.Proofs.YtdbedajaapamhaaGreat
