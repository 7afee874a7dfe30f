/- SuperGreater returns true for all tables, and from whatever number. -/
import Derived.ProofKit
import Derived.OpenShut
import Derived.SizedLaws
import Derived.Lib.SmallJoins
import Derived.Test.YtdbedajaapamhaaRows
import Derived.Test.YtdbedajaapamhaaSuH
namespace Go.Proofs.Ytdbedajaapamhaa
open Go Go.K Go.ChangeShapes Go.WideShapes Go.ChangeAt Go.RowKit Go.Joins
set_option linter.unusedVariables false
set_option linter.unusedSimpArgs false
attribute [local irreducible] Calls Ev GL GC GQ GR Code.wp
theorem own : ownKnob Try.prog.godebug = none := by kernel_rfl
theorem laidOut : laidOutB Try.prog = true := by kernel_rfl
def zeroTC : TC := ⟨⟨0, 0, []⟩, none, 0⟩
structure GSt where
  x : Nat
  many : Nat
  la : TC
  ah : TC
  gd : DG
def pz (k : Nat) (t : Tab) : Bytes := if k = 0 then zer else putT t
structure GI (w : World) (l : List TC) (n : Nat) (z : GSt) : Prop where
  x : z.x ≤ l.length
  many : z.many ≤ z.x
  ok : z.gd.Ok
  dv : Dv 2 z.gd.v (fun j => if (j : Int) = ((n : Int) + 1 + z.many - 1) % 2 then pz z.many z.la.t else pz (z.many - 1) z.ah.t)
  la0 : z.many = 0 → z.la = zeroTC
  la1 : 1 ≤ z.many → RightP z.la.t ∧ z.la.t.gen = (n : Int) + 1 + z.many - 1
  ah0 : z.many ≤ 1 → z.ah = zeroTC
  ah1 : 2 ≤ z.many → RightP z.ah.t ∧ z.ah.t.gen = (n : Int) + 1 + z.many - 2
  laO : Old w [] z.la.a encX z.la.t.exts
  ahO : Old w [] z.ah.a encX z.ah.t.exts
  laL : z.la.t.exts.length ≤ 9223372036854775807
  ahL : z.ah.t.exts.length ≤ 9223372036854775807
theorem old_nil {α : Type} (e : Enc α) {w : World} {L0 : List Res} : Old w L0 none e ([] : List α) := ⟨Sl.empty none rfl w, fun h => absurd rfl h⟩
theorem GI.zero {w : World} {l : List TC} {n : Nat} {g : DG} (hk : g.Ok) (hv : g.v = DS.new (Int.toNat 2)) : GI w l n ⟨0, 0, zeroTC, zeroTC, g⟩ := by
  refine ⟨Nat.zero_le _, Nat.le_refl _, hk, ?_, fun _ => rfl, fun h => absurd h (by simp), fun _ => rfl, fun h => absurd h (by simp), old_nil encX, old_nil encX, by simp [zeroTC], by simp [zeroTC]⟩
  rw [hv]
  have h := Dv.new 2
  refine ⟨h.up, fun j hj => ?_⟩
  have h2 := h.at_ j hj
  rw [show (DS.new (Int.toNat 2)) = DS.new 2 from rfl, h2]
  simp [pz]
theorem GI.get {w : World} {l : List TC} {n : Nat} {z : GSt} (h : GI w l n z) (hl : l.length ≤ 30) (hn : n < 65536) {t : Tab} (hR : RightP t) (hg : t.gen = (n : Int) + 1 + z.many) :
    (z.gd.v.save t).2 = 0 ∧ Dv 2 (z.gd.v.save t).1 (fun j => if (j : Int) = t.gen % 2 then putT t else pz z.many z.la.t) ∧ (z.gd.v.save t).1.load = (t, true, 0) := by
  obtain ⟨h1, h2⟩ := h.dv.save (Nat.le_refl _) hR
  have hf : Dv 2 (z.gd.v.save t).1 (fun j => if (j : Int) = t.gen % 2 then putT t else pz z.many z.la.t) := ⟨h2.up, fun j hj => by
    rw [h2.at_ j hj]
    unfold upd
    by_cases hj2 : (j : Int) = t.gen % 2
    · rw [if_pos (by omega), if_pos hj2]
    · rw [if_neg (by omega), if_neg hj2]
      show (if (j : Int) = ((n : Int) + 1 + z.many - 1) % 2 then _ else _) = _
      rw [if_pos (by omega)]⟩
  refine ⟨h1, hf, ?_⟩
  have hg1 := hR.g1
  have key : ∀ i : Nat, (i : Int) = t.gen % 2 → ∀ b : Tab, b.gen < t.gen → ld1 (putT t) i b = t := fun i hi b hb => ld1_put hR hi.symm hb
  have oth : ∀ i : Nat, ¬ (i : Int) = t.gen % 2 → i < 2 → ∀ b : Tab, (ld1 (pz z.many z.la.t) i b = b ∨ (ld1 (pz z.many z.la.t) i b).gen < t.gen) ∧ (t.gen ≤ b.gen → ld1 (pz z.many z.la.t) i b = b) := fun i hi hi2 b => by
    unfold pz
    by_cases hm : z.many = 0
    · rw [if_pos hm, ld1_zer]; exact ⟨Or.inl rfl, fun _ => rfl⟩
    · rw [if_neg hm]
      obtain ⟨hla, hlg⟩ := h.la1 (by omega)
      by_cases hb : b.gen < z.la.t.gen
      · rw [ld1_put hla (by omega) hb]
        exact ⟨Or.inr (by omega), fun h3 => by omega⟩
      · rw [ld1_not hla (fun _ => hb)]
        exact ⟨Or.inl rfl, fun _ => rfl⟩
  have e : ldF (fun j => if (j : Int) = t.gen % 2 then putT t else pz z.many z.la.t) = t := by
    unfold ldF
    simp only
    rcases (by omega : t.gen % 2 = 0 ∨ t.gen % 2 = 1) with hp | hp
    · rw [if_pos (show ((0 : Nat) : Int) = t.gen % 2 by omega), if_neg (show ¬ ((1 : Nat) : Int) = t.gen % 2 by omega), key 0 (by omega) _ (by show (0 : Int) < t.gen; omega)]
      exact (oth 1 (by omega) (by omega) t).2 (Int.le_refl _)
    · rw [if_pos (show ((1 : Nat) : Int) = t.gen % 2 by omega), if_neg (show ¬ ((0 : Nat) : Int) = t.gen % 2 by omega)]
      refine key 1 (by omega) _ ?_
      rcases (oth 0 (by omega) (by omega) ⟨0, 0, []⟩).1 with h3 | h3
      · rw [h3]; show (0 : Int) < t.gen; omega
      · exact h3
  rw [hf.load (Nat.le_refl _), e, decide_eq_true (by omega : 0 < t.gen)]
theorem GI.next {w : World} {l : List TC} {n : Nat} {z : GSt} (h : GI w l n z) (hl : l.length ≤ 30) (hn : n < 65536) {t : TC} (hR : RightP t.t) (hg : t.t.gen = (n : Int) + 1 + z.many) (hx : z.x < l.length) (hO : Old w [] t.a encX t.t.exts) (hL : t.t.exts.length ≤ 9223372036854775807) {g : DG} (hk : g.Ok) (hv : g.v = (z.gd.v.save t.t).1) :
    GI w l n ⟨z.x + 1, z.many + 1, t, z.la, g⟩ := by
  have h1 := (h.get hl hn hR hg).2.1
  have hm := h.many
  refine ⟨by simp only; omega, by simp only; omega, hk, ?_, fun h3 => absurd h3 (by simp), fun _ => ⟨hR, by simp only; omega⟩, fun h3 => h.la0 (by simp only at h3; omega), fun h3 => ?_, hO, h.laO, hL, h.laL⟩
  · rw [hv]
    refine ⟨h1.up, fun j hj => ?_⟩
    rw [h1.at_ j hj]
    simp only
    by_cases hj2 : (j : Int) = t.t.gen % 2
    · rw [if_pos hj2, if_pos (by omega)]; simp [pz]
    · rw [if_neg hj2, if_neg (by omega)]; simp [pz]
  · simp only at h3
    obtain ⟨h4, h5⟩ := h.la1 (by omega)
    exact ⟨h4, by simp only; omega⟩
theorem GI.skip {w : World} {l : List TC} {n : Nat} {z : GSt} (h : GI w l n z) (hx : z.x < l.length) {g : DG} (hk : g.Ok) (hv : g.v = z.gd.v) : GI w l n { z with x := z.x + 1, gd := g } :=
  ⟨by simp only; omega, by have := h.many; simp only; omega, hk, by rw [hv]; exact h.dv, h.la0, h.la1, h.ah0, h.ah1, h.laO, h.ahO, h.laL, h.ahL⟩
/-- The last one's sector is lost. -/
theorem GI.lost {w : World} {l : List TC} {n : Nat} {z : GSt} (h : GI w l n z) (hl : l.length ≤ 30) (hn : n < 65536) (hm : z.many ≠ 0) : (z.gd.v.write (z.la.t.gen % 2) (List.replicate 64 0)).1.load = (z.ah.t, decide (1 < z.many), 0) := by
  obtain ⟨hla, hlg⟩ := h.la1 (by omega)
  have h1 := (h.dv.write (i := (z.la.t.gen % 2).toNat) (by omega) (l := zer) rfl).2
  rw [show (((z.la.t.gen % 2).toNat : Nat) : Int) = z.la.t.gen % 2 by omega] at h1
  have h2 := h1.load (Nat.le_refl _)
  have hg1 := hla.g1
  have e : ldF (upd (fun j => if (j : Int) = ((n : Int) + 1 + z.many - 1) % 2 then pz z.many z.la.t else pz (z.many - 1) z.ah.t) (z.la.t.gen % 2).toNat zer) = z.ah.t := by
    have hother : ∀ i : Nat, i ≠ (z.la.t.gen % 2).toNat → i < 2 → ld1 (upd (fun j => if (j : Int) = ((n : Int) + 1 + z.many - 1) % 2 then pz z.many z.la.t else pz (z.many - 1) z.ah.t) (z.la.t.gen % 2).toNat zer i) i ⟨0, 0, []⟩ = z.ah.t := fun i hi hi2 => by
      unfold upd
      rw [if_neg hi]
      simp only
      rw [if_neg (by omega)]
      unfold pz
      by_cases hm1 : z.many - 1 = 0
      · rw [if_pos hm1, ld1_zer, h.ah0 (by omega)]; rfl
      · rw [if_neg hm1]
        obtain ⟨h3, h4⟩ := h.ah1 (by omega)
        exact ld1_put h3 (by omega) (by show (0 : Int) < z.ah.t.gen; have := h3.g1; omega)
    have hself : ∀ (i : Nat) (b : Tab), i = (z.la.t.gen % 2).toNat → ld1 (upd (fun j => if (j : Int) = ((n : Int) + 1 + z.many - 1) % 2 then pz z.many z.la.t else pz (z.many - 1) z.ah.t) (z.la.t.gen % 2).toNat zer i) i b = b := fun i b hi => by
      unfold upd
      rw [if_pos hi, ld1_zer]
    unfold ldF
    rcases (by omega : z.la.t.gen % 2 = 0 ∨ z.la.t.gen % 2 = 1) with hp | hp
    · rw [hself 0 _ (by omega)]
      exact hother 1 (by omega) (by omega)
    · rw [hself 1 _ (by omega)]
      exact hother 0 (by omega) (by omega)
  rw [e] at h2
  refine h2.trans ?_
  congr 2
  rw [decide_eq_decide]
  by_cases hm1 : 1 < z.many
  · obtain ⟨h3, _⟩ := h.ah1 (by omega)
    have := h3.g1
    exact ⟨fun _ => hm1, fun _ => by omega⟩
  · rw [h.ah0 (by omega)]
    exact ⟨fun h3 => absurd h3 (by show ¬ ((0 : Int) < 0); decide), fun h3 => absurd h3 hm1⟩

theorem save_right {s : DS} {t : Tab} (h : (s.save t).2 = 0) : RightP t := by
  cases hr : rightB t with
  | true => exact (right_iff t).1 hr
  | false => rw [save_bad hr] at h; exact absurd h (by simp)
theorem each_tc {H : Type} {enc : TypeId × Value → H} {w : World} {held : Bool} (n : Nat) (cs : List Value) (x : DataW H × List MemPlace) (h : DataW.trod enc Try.prog w 0 (fun _ => true) held n 29 cs = some x) :
    ∃ y : TC, cs = encTC.f y ∧ y.t.exts.length ≤ 9223372036854775807 ∧ Old w [] y.a encX y.t.exts := by
  obtain ⟨t, a, c, h1, h2, h3, h4⟩ := open_tab _ _ _ h
  unfold maxLen at h2
  exact ⟨⟨t, a, c⟩, h1, by show t.exts.length ≤ _; omega, h4⟩
theorem sl22 : K.slOf Try.prog 22 = some (29, 3) := by kernel_rfl
/- turntable/turntablelaw10.SuperGreater -/
set_option maxHeartbeats 8000000 in
set_option maxRecDepth 100000 in
theorem greater_con {l : List TC} {n : Nat} {a : Option Addr} {c : Nat} {w : World} (hl : l.length ≤ 9223372036854775807) (hn16 : n < 65536) (hq : ∀ q ∈ l, q.t.exts.length ≤ 9223372036854775807 ∧ Old w [] q.a encX q.t.exts) [Old w [] a (encTC) (l)] :
    Calls Try.prog 3 #[.slice a l.length c, .int .u16 (n : Int)] w fun e w' => e = .returned (.bool true) ∧ Tr w [] w' [] := by
  refine K.enter0 (args := [_, _]) Try.func3 rfl Try.ntmps3 rfl ?_
  refine K.GC.seq ?_
  refine K.GC.region ?_
  refine K.GL.det (K.e_assign rfl) rfl ?_
  refine K.GL.nil ?_
  refine K.GQ.go ?_
  refine K.GC.seq ?_
  refine K.GC.region ?_
  refine K.GL.det (ev_head10_con Try.call14 rfl ) rfl ?_
  refine K.GL.det (K.e_assign rfl) rfl ?_
  refine K.GL.nil ?_
  refine K.GQ.go ?_
  refine K.GC.seq ?_
  refine K.GC.region ?_
  refine gl_dnew_con Try.call15 rfl (by first | assumption | omega | rfl | decide) rfl (fun d20 g20 hk20 hv20 => ?_)
  refine K.GL.det (K.e_assign rfl) rfl ?_
  refine K.GL.nil ?_
  refine K.GQ.go ?_
  refine K.GC.seq ?_
  refine K.GC.seq ?_
  refine K.GC.region ?_
  refine K.GL.det (K.e_move rfl) rfl ?_
  refine K.GL.det ((K.e_eqlp Try.underlying25 rfl rfl).cast_bool (b := false) rfl) rfl ?_
  refine K.GL.det (K.e_move rfl) rfl ?_
  first | refine K.GL.splitB 23 rfl (fun h1 => ?_) (fun h1 => ?_) | skip
  all_goals first | exact absurd h1 (by decide) | replace h1 := of_decide_eq_true h1 | replace h1 := of_decide_eq_false h1 | skip
  all_goals
    first | (refine K.GL.want 23 rfl rfl rfl ?_; first | refine K.GL.det (K.e_move rfl) rfl ?_) | refine K.GL.skip 23 rfl rfl rfl rfl ?_ | refine K.GL.skipU 23 rfl rfl rfl rfl ?_
    first | (refine K.GL.want 23 rfl rfl rfl ?_; first | refine K.GL.det (K.e_len Try.underlying22 rfl) rfl ?_) | refine K.GL.skip 23 rfl rfl rfl rfl ?_ | refine K.GL.skipU 23 rfl rfl rfl rfl ?_
    first | (refine K.GL.want 23 rfl rfl rfl ?_; first | refine K.GL.det ((K.e_gt rfl rfl).yes (by first | omega | assumption | decide +kernel)) rfl ?_ | refine K.GL.det ((K.e_gt rfl rfl).no (by first | omega | assumption | decide +kernel)) rfl ?_ | refine K.GL.det (K.e_gt rfl rfl) rfl ?_) | refine K.GL.skip 23 rfl rfl rfl rfl ?_ | refine K.GL.skipU 23 rfl rfl rfl rfl ?_
    first | refine K.GL.det (K.e_pick_t rfl rfl) rfl ?_ | refine K.GL.det (K.e_pick_f rfl rfl) rfl ?_
    refine K.GL.nil ?_
    refine K.GQ.go ?_
    refine K.GC.condB rfl (fun h2 => ?_) (fun h2 => ?_)
    · first
      | exact absurd h2 (by decide)
      | try replace h2 := of_decide_eq_true h2
        refine K.GC.seq ?_
        refine K.GC.region ?_
        refine K.GL.det (K.e_move rfl) rfl ?_
        refine K.GL.det ((K.e_neqp Try.underlying25 rfl rfl).cast_bool (b := true) rfl) rfl ?_
        refine K.GL.det (K.e_move rfl) rfl ?_
        first | refine K.GL.splitB 30 rfl (fun h3 => ?_) (fun h3 => ?_) | skip
        all_goals first | exact absurd h3 (by decide) | replace h3 := of_decide_eq_true h3 | replace h3 := of_decide_eq_false h3 | skip
        all_goals
          first | (refine K.GL.want 30 rfl rfl rfl ?_; first | refine K.GL.det (K.e_move rfl) rfl ?_) | refine K.GL.skip 30 rfl rfl rfl rfl ?_ | refine K.GL.skipU 30 rfl rfl rfl rfl ?_
          first | refine K.GL.det (K.e_pick_t rfl rfl) rfl ?_ | refine K.GL.det (K.e_pick_f rfl rfl) rfl ?_
          refine K.GL.det (K.e_assign rfl) rfl ?_
          refine K.GL.nil ?_
          refine K.GQ.go ?_
          refine K.GC.ret ?_
          refine K.GQ.then_ret ?_
          refine K.GQ.ret1 Try.results3 rfl (fun w hT => ?_)
          exact ⟨rfl, hT.nil⟩
    · first
      | exact absurd h2 (by decide)
      | try replace h2 := of_decide_eq_false h2
        refine K.GC.skip ?_
        refine K.GQ.go ?_
        refine K.GC.seq ?_
        refine K.GC.region ?_
        refine K.GL.det (K.e_move rfl) rfl ?_
        refine K.GL.det (K.e_conv Try.underlying23 Try.underlying2 rfl (K.wrap_i64 (by omega) (by omega))) rfl ?_
        first | refine K.GL.det (K.e_add rfl rfl ⟨by omega, by omega⟩) rfl ?_ | refine K.GL.det (K.e_addw rfl rfl) rfl ?_
        refine K.GL.det (K.e_assign rfl) rfl ?_
        refine K.GL.nil ?_
        refine K.GQ.go ?_
        refine K.GC.seq ?_
        refine K.GC.region ?_
        refine K.GL.alloc Try.zeroValue29 rfl rfl (fun b8 => ?_)
        refine K.GL.nil ?_
        refine K.GQ.go ?_
        refine K.GC.seq ?_
        refine K.GC.region ?_
        refine K.GL.alloc Try.zeroValue29 rfl rfl (fun b9 => ?_)
        refine K.GL.nil ?_
        refine K.GQ.go ?_
        refine K.GC.seq ?_
        refine K.GC.region ?_
        refine K.GL.det (K.e_assign rfl) rfl ?_
        refine K.GL.nil ?_
        refine K.GQ.go ?_
        refine K.GC.seq ?_
        refine K.GC.seq ?_
        refine K.GC.region ?_
        refine K.GL.det (K.e_assign rfl) rfl ?_
        refine K.GL.nil ?_
        refine K.GQ.go ?_
        refine K.GC.block ?_
        refine K.GC.loopk (α := GSt) [0, 5, 6, 8, 9, 16, 17, 18, 72, 73, 74, 75, 76, 77, 78, 79, 81, 82, 83, 84, 85, 86, 87, 88, 89, 90, 91, 92, 93, 94, 95, 96, 97, 98, 99, 100, 101, 102] rfl (fun z => [(7, .int .i64 ((n : Int) + 1 + (z.many : Int))), (10, .int .i64 (z.many : Int)), (11, .int .i64 (z.x : Int))]) (fun z => [cl b9 29 (tabC z.ah.t z.ah.a z.ah.c), cl b8 29 (tabC z.la.t z.la.a z.la.c), DevR d20 z.gd]) (fun z => GI w l n z) (fun z => (l.length - z.x)) ⟨0, 0, zeroTC, zeroTC, g20⟩ (GI.zero hk20 hv20) (by (repeat refine ⟨rfl, ?_⟩); exact trivial) (K.Sub.refl _) (fun z hI => ?_)
        have hx := hI.x
        have hm := hI.many
        refine K.GC.seq ?_
        refine K.GC.seq ?_
        refine K.GC.region ?_
        refine K.GL.det (K.e_move rfl) rfl ?_
        refine K.GL.det (K.e_move rfl) rfl ?_
        refine K.GL.det (K.e_len Try.underlying22 rfl) rfl ?_
        first | refine K.GL.det ((K.e_lt rfl rfl).yes (by first | omega | assumption | decide +kernel)) rfl ?_ | refine K.GL.det ((K.e_lt rfl rfl).no (by first | omega | assumption | decide +kernel)) rfl ?_ | refine K.GL.det (K.e_lt rfl rfl) rfl ?_
        refine K.GL.nil ?_
        refine K.GQ.go ?_
        refine K.GC.condB rfl (fun h4 => ?_) (fun h4 => ?_)
        · first
          | exact absurd h4 (by decide)
          | try replace h4 := of_decide_eq_true h4
            refine K.GC.skip ?_
            refine K.GQ.go ?_
            refine K.GC.seq ?_
            refine K.GC.block ?_
            refine K.GC.seq ?_
            refine K.GC.region ?_
            refine K.GL.det (K.e_move rfl) rfl ?_
            refine K.GL.det (K.e_move rfl) rfl ?_
            first | refine K.GL.ixK sl22 rfl rfl rfl rfl (by assumption) rfl ?_ | refine K.GL.ix sl22 rfl rfl rfl rfl (by omega) rfl (fun q44 hq44 => ?_) | refine K.GL.ixI sl22 rfl rfl rfl rfl (by omega) (by omega) rfl (fun q44 hq44 => ?_) | refine K.GL.det (K.e_indexAddrS sl22 rfl rfl (by assumption) (by omega) (by omega)) rfl ?_ | refine K.GL.det (K.e_indexAddr sl22 rfl rfl (by omega) (by omega)) rfl ?_
            refine K.GL.det (K.e_ldA (l := l) (e := encTC) Try.isAgg29 Try.sizeOf29 rfl rfl hq44) rfl ?_
            refine K.GL.alloc Try.zeroValue29 rfl rfl (fun b12 => ?_)
            refine K.GL.storeP (vs := tabC q44.t q44.a q44.c) (cs' := tabC q44.t q44.a q44.c) rfl rfl rfl Try.sizeOf29 rfl rfl (by exact spliceO_all rfl) ?_
            refine K.GL.nil ?_
            refine K.GQ.go ?_
            refine K.GC.seq ?_
            obtain ⟨hq1, hq2⟩ := hq q44 (List.mem_of_getElem? hq44)
            refine K.GC.region ?_
            refine K.GL.det (K.e_move rfl) rfl ?_
            first | refine K.GL.det (K.e_fa fo29_0 rfl) rfl ?_ | refine K.GL.det (K.e_fieldAddr fo29_0 rfl) rfl ?_
            refine K.GL.store rfl rfl rfl Try.sizeOf2 rfl rfl ?_
            refine K.GL.nil ?_
            refine K.GQ.go ?_
            refine K.GC.seq ?_
            refine K.GC.seq ?_
            obtain ⟨t1, ht1⟩ : ∃ t1 : Tab, t1 = (⟨((n : Int) + 1 + (z.many : Int)), q44.t.opn, q44.t.exts⟩ : Tab) := ⟨_, rfl⟩
            have e1 : [Value.int .i64 ((n : Int) + 1 + (z.many : Int)), Value.int .i64 q44.t.opn, Value.slice q44.a q44.t.exts.length q44.c] = tabC t1 q44.a q44.c := by rw [ht1]; rfl
            have hgt : t1.gen = ((n : Int) + 1 + (z.many : Int)) := by rw [ht1]
            have hxt : q44.t.exts = t1.exts := by rw [ht1]
            have ht1l : t1.exts.length ≤ 9223372036854775807 := by rw [← hxt]; exact hq1
            have hq3 : Old w [] q44.a encX t1.exts := by rw [← hxt]; exact hq2
            refine K.GC.res (L' := [cl b12 29 [Value.int .i64 ((n : Int) + 1 + (z.many : Int)), Value.int .i64 q44.t.opn, Value.slice q44.a q44.t.exts.length q44.c], cl b9 29 (tabC z.ah.t z.ah.a z.ah.c), cl b8 29 (tabC z.la.t z.la.a z.la.c), DevR d20 z.gd]) ?_ (K.Sub.refl _)
            rw [e1]
            refine K.GC.region ?_
            refine K.GL.det (K.e_move rfl) rfl ?_
            first | refine K.GL.det (K.e_ldA Try.isAgg29 Try.sizeOf29 rfl rfl (by assumption)) rfl ?_ | refine K.GL.det (K.e_ldAF Try.isAgg29 Try.sizeOf29 rfl rfl (by assumption) rfl) rfl ?_ | refine K.GL.det (K.e_loads Try.isAgg29 Try.sizeOf29 rfl rfl) rfl ?_
            refine gl_save_con (g := z.gd) (s := z.gd.v) (t := t1) (a := q44.a) (c := q44.c) Try.call16 rfl hI.ok rfl ht1l rfl (fun g50 hk50 hv50 => ?_)
            first | refine K.GL.det ((K.e_ne rfl rfl).yes (by first | omega | assumption | decide +kernel)) rfl ?_ | refine K.GL.det ((K.e_ne rfl rfl).no (by first | omega | assumption | decide +kernel)) rfl ?_ | refine K.GL.det (K.e_ne rfl rfl) rfl ?_
            refine K.GL.nil ?_
            refine K.GQ.go ?_
            refine K.GC.condB rfl (fun h5 => ?_) (fun h5 => ?_)
            · first
              | exact absurd h5 (by decide)
              | try replace h5 := of_decide_eq_true h5
                refine K.GC.exit ?_
                refine K.GQ.then_exit ?_
                refine K.GQ.block_hit ?_
                refine K.GQ.go ?_
                refine K.GC.region ?_
                refine K.GL.det (K.e_move rfl) rfl ?_
                first | refine K.GL.det (K.e_add rfl rfl ⟨by omega, by omega⟩) rfl ?_ | refine K.GL.det (K.e_addw rfl rfl) rfl ?_
                refine K.GL.det (K.e_assign rfl) rfl ?_
                refine K.GL.nil ?_
                first
                  | exact K.GQ.round (⟨z.x + 1, z.many + 1, ⟨t1, q44.a, q44.c⟩, z.la, g50⟩ : GSt) (hI.next (by omega) hn16 hR hgt (by omega) hq3 ht1l hk50 hv50) (by simp only; omega) (by (repeat refine ⟨rfl, ?_⟩); exact trivial) (by dsimp only; exact K.sb)
                  | (have hbad : rightB t1 = false := by
                       cases hr : rightB t1 with
                       | false => rfl
                       | true => exact absurd (hI.get (by omega) hn16 ((right_iff t1).1 hr) hgt).1 (by assumption)
                     rw [save_bad hbad] at hv50
                     exact K.GQ.round ({ z with x := z.x + 1, gd := g50 } : GSt) (hI.skip (by omega) hk50 hv50) (by simp only; omega) (by (repeat refine ⟨rfl, ?_⟩); exact trivial) (by dsimp only; exact K.sb))
            · first
              | exact absurd h5 (by decide)
              | try replace h5 := of_decide_eq_false h5
                refine K.GC.skip ?_
                refine K.GQ.go ?_
                refine K.GC.seq ?_
                have hR := save_right (Classical.not_not.1 (by assumption))
                refine K.GC.region ?_
                refine K.GL.det (K.e_move rfl) rfl ?_
                refine K.GL.det ((K.e_add rfl rfl ⟨by omega, by omega⟩).cast_int (b := (n : Int) + 1 + ((z.many + 1 : Nat) : Int)) (by omega)) rfl ?_
                refine K.GL.det (K.e_assign rfl) rfl ?_
                refine K.GL.nil ?_
                refine K.GQ.go ?_
                refine K.GC.seq ?_
                refine K.GC.region ?_
                refine K.GL.det (K.e_move rfl) rfl ?_
                first | refine K.GL.det (K.e_add rfl rfl ⟨by omega, by omega⟩) rfl ?_ | refine K.GL.det (K.e_addw rfl rfl) rfl ?_
                refine K.GL.det (K.e_assign rfl) rfl ?_
                refine K.GL.nil ?_
                refine K.GQ.go ?_
                refine K.GC.seq ?_
                refine K.GC.region ?_
                first | refine K.GL.det (K.e_ldA Try.isAgg29 Try.sizeOf29 rfl rfl (by assumption)) rfl ?_ | refine K.GL.det (K.e_ldAF Try.isAgg29 Try.sizeOf29 rfl rfl (by assumption) rfl) rfl ?_ | refine K.GL.det (K.e_loads Try.isAgg29 Try.sizeOf29 rfl rfl) rfl ?_
                refine K.GL.storeP (vs := tabC z.la.t z.la.a z.la.c) (cs' := tabC z.la.t z.la.a z.la.c) rfl rfl rfl Try.sizeOf29 rfl rfl (by exact spliceO_all rfl) ?_
                refine K.GL.nil ?_
                refine K.GQ.go ?_
                refine K.GC.seq ?_
                refine K.GC.region ?_
                first | refine K.GL.det (K.e_ldA Try.isAgg29 Try.sizeOf29 rfl rfl (by assumption)) rfl ?_ | refine K.GL.det (K.e_ldAF Try.isAgg29 Try.sizeOf29 rfl rfl (by assumption) rfl) rfl ?_ | refine K.GL.det (K.e_loads Try.isAgg29 Try.sizeOf29 rfl rfl) rfl ?_
                refine K.GL.storeP (vs := tabC t1 q44.a q44.c) (cs' := tabC t1 q44.a q44.c) rfl rfl rfl Try.sizeOf29 rfl rfl (by exact spliceO_all rfl) ?_
                refine K.GL.nil ?_
                refine K.GQ.go ?_
                refine K.GC.seq ?_
                refine K.GC.region ?_
                refine K.GL.det (K.e_move rfl) rfl ?_
                refine gl_load_con (s := (z.gd.v.save t1).1) Try.call17 rfl hk50 hv50 rfl (fun a60 c60 => ?_)
                rw [(hI.get (by omega) hn16 hR hgt).2.2]
                dsimp only
                refine K.GL.det (K.e_move rfl) rfl ?_
                refine K.GL.det (K.e_extract rfl rfl) rfl ?_
                refine K.GL.det (K.e_extract rfl rfl) rfl ?_
                refine K.GL.det (K.e_extract rfl rfl) rfl ?_
                refine K.GL.alloc Try.zeroValue29 rfl rfl (fun b13 => ?_)
                refine K.GL.storeP (vs := tabC t1 a60 c60) (cs' := tabC t1 a60 c60) rfl rfl rfl Try.sizeOf29 rfl rfl (by exact spliceO_all rfl) ?_
                refine K.GL.det (K.e_assign rfl) rfl ?_
                refine K.GL.det (K.e_assign rfl) rfl ?_
                refine K.GL.nil ?_
                refine K.GQ.go ?_
                refine K.GC.seq ?_
                clear hq2
                refine K.GC.region ?_
                refine K.GL.det (K.e_move rfl) rfl ?_
                first | refine K.GL.det (K.e_notp rfl) rfl ?_ | refine K.GL.det (K.e_not rfl) rfl ?_
                refine K.GL.det (K.e_move rfl) rfl ?_
                first | refine K.GL.splitB 66 rfl (fun h6 => ?_) (fun h6 => ?_) | skip
                all_goals first | exact absurd h6 (by decide) | replace h6 := of_decide_eq_true h6 | replace h6 := of_decide_eq_false h6 | skip
                all_goals
                  first | (refine K.GL.want 66 rfl rfl rfl ?_; first | refine K.GL.det (K.e_ldA Try.isAgg29 Try.sizeOf29 rfl rfl (by assumption)) rfl ?_ | refine K.GL.det (K.e_ldAF Try.isAgg29 Try.sizeOf29 rfl rfl (by assumption) rfl) rfl ?_ | refine K.GL.det (K.e_loads Try.isAgg29 Try.sizeOf29 rfl rfl) rfl ?_) | refine K.GL.skip 66 rfl rfl rfl rfl ?_ | refine K.GL.skipU 66 rfl rfl rfl rfl ?_
                  first | (refine K.GL.want 66 rfl rfl rfl ?_; first | refine K.GL.det (K.e_ldA Try.isAgg29 Try.sizeOf29 rfl rfl (by assumption)) rfl ?_ | refine K.GL.det (K.e_ldAF Try.isAgg29 Try.sizeOf29 rfl rfl (by assumption) rfl) rfl ?_ | refine K.GL.det (K.e_loads Try.isAgg29 Try.sizeOf29 rfl rfl) rfl ?_) | refine K.GL.skip 66 rfl rfl rfl rfl ?_ | refine K.GL.skipU 66 rfl rfl rfl rfl ?_
                  first | (refine K.GL.want 66 rfl rfl rfl ?_; first | refine K.GL.det ((ev_rsame_con (t := t1) (u := t1) Try.call18 rfl (by first | assumption | exact getT_len _ | (simp; done) | decide) (by first | assumption | exact getT_len _ | (simp; done) | decide)).cast_bool (b := true) (decide_eq_true rfl)) rfl ?_) | refine K.GL.skip 66 rfl rfl rfl rfl ?_ | refine K.GL.skipU 66 rfl rfl rfl rfl ?_
                  first | (refine K.GL.want 66 rfl rfl rfl ?_; first | refine K.GL.det (K.e_notp rfl) rfl ?_ | refine K.GL.det (K.e_not rfl) rfl ?_) | refine K.GL.skip 66 rfl rfl rfl rfl ?_ | refine K.GL.skipU 66 rfl rfl rfl rfl ?_
                  first | refine K.GL.det (K.e_pick_t rfl rfl) rfl ?_ | refine K.GL.det (K.e_pick_f rfl rfl) rfl ?_
                  refine K.GL.nil ?_
                  refine K.GQ.go ?_
                  refine K.GC.condB rfl (fun h7 => ?_) (fun h7 => ?_)
                  · first
                    | exact absurd h7 (by decide)
                    | try replace h7 := of_decide_eq_true h7
                      refine K.GC.seq ?_
                      refine K.GC.region ?_
                      refine K.GL.det (K.e_assign rfl) rfl ?_
                      refine K.GL.nil ?_
                      refine K.GQ.go ?_
                      refine K.GC.ret ?_
                      refine K.GQ.block_ret ?_
                      refine K.GQ.then_ret ?_
                      refine K.GQ.then_ret ?_
                      refine K.GQ.block_ret ?_
                      refine K.GQ.then_ret ?_
                      refine K.GQ.ret1 Try.results3 rfl (fun w hT => ?_)
                      exact ⟨rfl, hT.nil⟩
                  · first
                    | exact absurd h7 (by decide)
                    | try replace h7 := of_decide_eq_false h7
                      refine K.GC.skip ?_
                      refine K.GQ.block_normal ?_
                      refine K.GQ.go ?_
                      refine K.GC.region ?_
                      refine K.GL.det (K.e_move rfl) rfl ?_
                      first | refine K.GL.det (K.e_add rfl rfl ⟨by omega, by omega⟩) rfl ?_ | refine K.GL.det (K.e_addw rfl rfl) rfl ?_
                      refine K.GL.det (K.e_assign rfl) rfl ?_
                      refine K.GL.nil ?_
                      first
                        | exact K.GQ.round (⟨z.x + 1, z.many + 1, ⟨t1, q44.a, q44.c⟩, z.la, g50⟩ : GSt) (hI.next (by omega) hn16 hR hgt (by omega) hq3 ht1l hk50 hv50) (by simp only; omega) (by (repeat refine ⟨rfl, ?_⟩); exact trivial) (by dsimp only; exact K.sb)
                        | (have hbad : rightB t1 = false := by
                             cases hr : rightB t1 with
                             | false => rfl
                             | true => exact absurd (hI.get (by omega) hn16 ((right_iff t1).1 hr) hgt).1 (by assumption)
                           rw [save_bad hbad] at hv50
                           exact K.GQ.round ({ z with x := z.x + 1, gd := g50 } : GSt) (hI.skip (by omega) hk50 hv50) (by simp only; omega) (by (repeat refine ⟨rfl, ?_⟩); exact trivial) (by dsimp only; exact K.sb))
        · first
          | exact absurd h4 (by decide)
          | try replace h4 := of_decide_eq_false h4
            refine K.GC.exit ?_
            refine K.GQ.then_exit ?_
            refine K.GQ.then_exit ?_
            refine K.GQ.block_hit ?_
            refine K.GQ.go ?_
            refine K.GC.seq ?_
            refine K.GC.seq ?_
            refine K.GC.region ?_
            refine K.GL.det (K.e_move rfl) rfl ?_
            first | refine K.GL.det ((K.e_eq rfl rfl).yes (by first | omega | assumption | decide +kernel)) rfl ?_ | refine K.GL.det ((K.e_eq rfl rfl).no (by first | omega | assumption | decide +kernel)) rfl ?_ | refine K.GL.det (K.e_eq rfl rfl) rfl ?_
            refine K.GL.nil ?_
            refine K.GQ.go ?_
            refine K.GC.condB rfl (fun h8 => ?_) (fun h8 => ?_)
            · first
              | exact absurd h8 (by decide)
              | try replace h8 := of_decide_eq_true h8
                refine K.GC.seq ?_
                refine K.GC.region ?_
                refine K.GL.det (K.e_move rfl) rfl ?_
                refine K.GL.det (K.e_assign rfl) rfl ?_
                refine K.GL.nil ?_
                refine K.GQ.go ?_
                refine K.GC.ret ?_
                refine K.GQ.then_ret ?_
                refine K.GQ.ret1 Try.results3 rfl (fun w hT => ?_)
                exact ⟨rfl, hT.nil⟩
            · first
              | exact absurd h8 (by decide)
              | try replace h8 := of_decide_eq_false h8
                refine K.GC.skip ?_
                refine K.GQ.go ?_
                refine K.GC.seq ?_
                have hla3 := hI.la1 (by omega)
                refine K.D.GC.drawn0 5 [[], [], [1], [1, 2], [], [0, 1, 2, 3, 4]] [[], [], [1], [2], []] [[], [], [], [], []] [[], [], [], [], []] [4] [4, 5, 6, 8, 9, 10, 16, 17, 18, 81, 82, 83, 84, 85, 86, 87, 88, 89, 90, 91, 92, 93, 94, 95, 96, 97, 98, 99, 100, 101, 102] (by kernel_rfl) (by kernel_rfl) (by kernel_rfl) rfl ?_
                refine K.D.DW.det (b := []) (u := []) rfl rfl rfl (fun vs hf => K.e_move rfl) ?_
                first | refine K.D.DW.det (b := []) (u := []) rfl rfl rfl (fun vs hf => K.e_fa fo29_0 rfl) ?_ | refine K.D.DW.det (b := []) (u := []) rfl rfl rfl (fun vs hf => K.e_fieldAddr fo29_0 rfl) ?_
                refine K.D.DW.det (b := [1]) (u := []) rfl rfl rfl (fun vs hf => K.e_load Try.isAgg2 rfl rfl) ?_
                refine K.D.DW.det (b := [2]) (u := []) rfl rfl rfl (fun vs hf => ev_slot_con Try.call20 rfl ) ?_
                refine K.D.DW.ev0 (b := []) (u := []) (a := []) rfl rfl rfl (fun vs hf => show K.D.EvM _ _ _ _ (_) [] _ _ _ _ _ from K.D.em_make (e := encB) (n := 64) (0 : UInt8) mk37 rfl rfl rfl (by omega) (by omega)) ?_
                refine K.D.DW.fin (fun vs hf => ?_)
                refine K.GL.keep [4, 5, 6, 9, 10, 16, 17, 18, 75, 78, 79, 81, 82, 83, 84, 85, 86, 87, 88, 89, 90, 91, 92, 93, 94, 95, 96, 97, 98, 99, 100, 101, 102] rfl ?_
                refine K.D.GL.res1 rfl ?_
                try dsimp only
                clear hf
                generalize (vs 4 0).1 = a79, (vs 4 0).2 = c79
                try clear vs
                refine gl_dwrite_con (s := z.gd.v) (bs := (List.replicate 64 (0 : UInt8))) Try.call19 rfl hI.ok rfl rfl (fun g80 hk80 hv80 => ?_)
                refine K.GL.nil ?_
                refine K.GQ.go ?_
                refine K.GC.seq ?_
                refine K.GC.region ?_
                refine K.GL.det (K.e_move rfl) rfl ?_
                refine gl_load_con (s := (z.gd.v.write (z.la.t.gen % 2) (List.replicate 64 0)).1) Try.call17 rfl hk80 hv80 rfl (fun a83 c83 => ?_)
                rw [hI.lost (by omega) hn16 (by omega)]
                dsimp only
                refine K.GL.det (K.e_move rfl) rfl ?_
                refine K.GL.det (K.e_extract rfl rfl) rfl ?_
                refine K.GL.det (K.e_extract rfl rfl) rfl ?_
                refine K.GL.det (K.e_extract rfl rfl) rfl ?_
                refine K.GL.alloc Try.zeroValue29 rfl rfl (fun b16 => ?_)
                refine K.GL.storeP (vs := tabC z.ah.t a83 c83) (cs' := tabC z.ah.t a83 c83) rfl rfl rfl Try.sizeOf29 rfl rfl (by exact spliceO_all rfl) ?_
                refine K.GL.det (K.e_assign rfl) rfl ?_
                refine K.GL.det (K.e_assign rfl) rfl ?_
                refine K.GL.nil ?_
                refine K.GQ.go ?_
                refine K.GC.seq ?_
                have hah1 := hI.ahL
                have hah2 := hI.ahO
                refine K.GC.region ?_
                refine K.GL.det (K.e_move rfl) rfl ?_
                refine K.GL.det (K.e_move rfl) rfl ?_
                first | refine K.GL.splitB 88 rfl (fun h9 => ?_) (fun h9 => ?_) | skip
                all_goals first | exact absurd h9 (by decide) | replace h9 := of_decide_eq_true h9 | replace h9 := of_decide_eq_false h9 | skip
                all_goals
                  first | (refine K.GL.want 88 rfl rfl rfl ?_; first | refine K.GL.det (K.e_move rfl) rfl ?_) | refine K.GL.skip 88 rfl rfl rfl rfl ?_ | refine K.GL.skipU 88 rfl rfl rfl rfl ?_
                  first | (refine K.GL.want 88 rfl rfl rfl ?_; first | refine K.GL.det ((K.e_eq rfl rfl).yes (by first | omega | assumption | decide +kernel)) rfl ?_ | refine K.GL.det ((K.e_eq rfl rfl).no (by first | omega | assumption | decide +kernel)) rfl ?_ | refine K.GL.det (K.e_eq rfl rfl) rfl ?_) | refine K.GL.skip 88 rfl rfl rfl rfl ?_ | refine K.GL.skipU 88 rfl rfl rfl rfl ?_
                  first | refine K.GL.det (K.e_pick_t rfl rfl) rfl ?_ | refine K.GL.det (K.e_pick_f rfl rfl) rfl ?_
                  refine K.GL.det (K.e_move rfl) rfl ?_
                  first | refine K.GL.splitB 92 rfl (fun h10 => ?_) (fun h10 => ?_) | skip
                  all_goals first | exact absurd h10 (by decide) | replace h10 := of_decide_eq_true h10 | replace h10 := of_decide_eq_false h10 | skip
                  all_goals
                    first | (refine K.GL.want 92 rfl rfl rfl ?_; first | refine K.GL.det (K.e_move rfl) rfl ?_) | refine K.GL.skip 92 rfl rfl rfl rfl ?_ | refine K.GL.skipU 92 rfl rfl rfl rfl ?_
                    first | (refine K.GL.want 92 rfl rfl rfl ?_; first | refine K.GL.det (K.e_move rfl) rfl ?_) | refine K.GL.skip 92 rfl rfl rfl rfl ?_ | refine K.GL.skipU 92 rfl rfl rfl rfl ?_
                    first | (refine K.GL.want 92 rfl rfl rfl ?_; first | refine K.GL.det ((K.e_gt rfl rfl).yes (by first | omega | assumption | decide +kernel)) rfl ?_ | refine K.GL.det ((K.e_gt rfl rfl).no (by first | omega | assumption | decide +kernel)) rfl ?_ | refine K.GL.det (K.e_gt rfl rfl) rfl ?_) | refine K.GL.skip 92 rfl rfl rfl rfl ?_ | refine K.GL.skipU 92 rfl rfl rfl rfl ?_
                    first | (refine K.GL.want 92 rfl rfl rfl ?_; first | refine K.GL.det ((K.e_eqb Try.underlying4 rfl rfl).cast_bool (b := true) (by simp; omega)) rfl ?_) | refine K.GL.skip 92 rfl rfl rfl rfl ?_ | refine K.GL.skipU 92 rfl rfl rfl rfl ?_
                    first | refine K.GL.det (K.e_pick_t rfl rfl) rfl ?_ | refine K.GL.det (K.e_pick_f rfl rfl) rfl ?_
                    refine K.GL.det (K.e_move rfl) rfl ?_
                    first | refine K.GL.splitB 98 rfl (fun h11 => ?_) (fun h11 => ?_) | skip
                    all_goals first | exact absurd h11 (by decide) | replace h11 := of_decide_eq_true h11 | replace h11 := of_decide_eq_false h11 | skip
                    all_goals
                      first | (refine K.GL.want 98 rfl rfl rfl ?_; first | refine K.GL.det (K.e_ldA Try.isAgg29 Try.sizeOf29 rfl rfl (by assumption)) rfl ?_ | refine K.GL.det (K.e_ldAF Try.isAgg29 Try.sizeOf29 rfl rfl (by assumption) rfl) rfl ?_ | refine K.GL.det (K.e_loads Try.isAgg29 Try.sizeOf29 rfl rfl) rfl ?_) | refine K.GL.skip 98 rfl rfl rfl rfl ?_ | refine K.GL.skipU 98 rfl rfl rfl rfl ?_
                      first | (refine K.GL.want 98 rfl rfl rfl ?_; first | refine K.GL.det (K.e_ldA Try.isAgg29 Try.sizeOf29 rfl rfl (by assumption)) rfl ?_ | refine K.GL.det (K.e_ldAF Try.isAgg29 Try.sizeOf29 rfl rfl (by assumption) rfl) rfl ?_ | refine K.GL.det (K.e_loads Try.isAgg29 Try.sizeOf29 rfl rfl) rfl ?_) | refine K.GL.skip 98 rfl rfl rfl rfl ?_ | refine K.GL.skipU 98 rfl rfl rfl rfl ?_
                      first | (refine K.GL.want 98 rfl rfl rfl ?_; first | refine K.GL.det ((ev_rsame_con (t := z.ah.t) (u := z.ah.t) Try.call18 rfl (by first | assumption | exact getT_len _ | (simp; done) | decide) (by first | assumption | exact getT_len _ | (simp; done) | decide)).cast_bool (b := true) (decide_eq_true rfl)) rfl ?_) | refine K.GL.skip 98 rfl rfl rfl rfl ?_ | refine K.GL.skipU 98 rfl rfl rfl rfl ?_
                      first | refine K.GL.det (K.e_pick_t rfl rfl) rfl ?_ | refine K.GL.det (K.e_pick_f rfl rfl) rfl ?_
                      refine K.GL.det (K.e_assign rfl) rfl ?_
                      refine K.GL.nil ?_
                      refine K.GQ.go ?_
                      refine K.GC.ret ?_
                      refine K.GQ.ret1 Try.results3 rfl (fun w hT => ?_)
                      exact ⟨rfl, hT.nil⟩

set_option maxHeartbeats 1000000 in
set_option maxRecDepth 100000 in
theorem SuperGreater_lifted (os : Os) (started : os.Started) (H : Type) (enc : TypeId × Value → H) :
    ReturnsInHanded {} Try.checked os 3 .any (Rows.superGreaterSpec.pre6 enc Try.prog Try.f3 Rows.superGreaterRow.domain false) (Rows.superGreaterSpec.post enc Try.prog Try.f3 false true false false) := by
  refine returnsInHanded_of_change_sized (C := Try.checked) own started (by kernel_rfl) Try.func3
    (ChangeSpec.witness6 (enc := enc) (C := Try.checked) false ⟨#[], #[.slice none 0 0, .int .u16 0], []⟩ 8 (by kernel_rfl) (by kernel_rfl) (by kernel_rfl) (by kernel_rfl)) ?_
  intro W base args ds gs before hval0 hW _ hsz0 _
  have hval : ∀ (j : Nat) t v, Try.f3.params[j]? = some t → args[j]? = some v → Value.okWide Try.prog W .any base t v := hval0
  have hsz : (DataW.weightsEach Try.prog (Try.f3.params.toList ++ []) (ds ++ gs)).all (· ≤ reachBytes) = true := hsz0
  have hW' := hW
  obtain ⟨p, q, hA0, hV, hpe, hfz, hnd⟩ := hW
  have hA : DataW.TrodAll enc Try.prog W 0 (fun _ => true) true Try.f3.params.toList args.toList ds p := hA0
  obtain ⟨rfl, rfl⟩ := trodVars_none hV
  rw [Try.params3] at hA hval hsz
  obtain ⟨v0, vs0, d0, ds0, p0, q0, hargs, rfl, rfl, h0, r0⟩ := trodAll_cons hA
  obtain ⟨v1, vs1, d1, ds1, p1, q1, rfl, rfl, rfl, h1, r1⟩ := trodAll_cons r0
  obtain ⟨rfl, rfl, rfl⟩ := trodAll_nil r1
  obtain rfl : args = #[v0, v1] := by cases args; simp_all
  clear hA0 hval0 hsz0 hA hargs
  obtain ⟨az, nnz, cz, rfl⟩ := okWide_slice Try.underlying22 (hval 0 22 _ rfl rfl)
  obtain ⟨fuelz, hfz⟩ := h0
  obtain ⟨aaz, ccz, lz, hcsz, hnz, hcz, hoz, hGz⟩ := open_row (e := encTC) Try.underlying22 (by kernel_rfl) (each_tc) hfz
  have hcsz' : Value.slice az nnz cz = .slice aaz lz.length ccz := by simpa [Value.cells] using hcsz
  simp only [Value.slice.injEq] at hcsz'
  obtain ⟨rfl, rfl, rfl⟩ := hcsz'
  unfold maxLen at hnz
  obtain ⟨x, rfl, rfl, rfl, wx⟩ := open_int Try.underlying23 (hval 1 23 _ rfl rfl) h1
  have hbx := bounds_u16 wx
  obtain ⟨nx, rfl⟩ := Int.eq_ofNat_of_zero_le hbx.1
  have core : Calls Try.prog 3 #[.slice az lz.length cz, .int .u16 (nx : Int)] W fun e W' => e = .returned (.bool true) ∧ Tr W [] W' [] := greater_con hnz (by omega) hGz
  exact core.mono fun e W' ⟨he, hT⟩ => ⟨_, he, law_post (tb := 4) hW' rfl rfl Try.underlying4 (fun _ => rfl) laidOut (by kernel_rfl) hT.below⟩
theorem SuperGreater_holds : Rows.SuperGreaterSaid :=
  OpenClaim.holds_of_wide 3 Try.f3 rfl rfl rfl rfl rfl rfl rfl ⟨rfl, rfl, rfl, rfl, rfl⟩ rfl rfl rfl rfl rfl (by kernel_rfl) Try.func3 (by kernel_rfl)
    (of_decide_eq_true (by kernel_rfl)) (by unfold Func.isWrapper; first | (rw [if_pos (by decide +kernel)]; kernel_rfl) | (rw [if_neg (by decide +kernel)]; exact ⟨rfl, rfl⟩))
    (fun os started H enc _ => SuperGreater_lifted os started H enc)

end Go.Proofs.Ytdbedajaapamhaa
